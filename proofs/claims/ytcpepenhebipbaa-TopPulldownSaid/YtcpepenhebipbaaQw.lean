/- The statement TopPulldown, walked. -/
import Derived.Test.YtcpepenhebipbaaChecked
import Derived.Test.YtcpepenhebipbaaBase
import Derived.Test.YtcpepenhebipbaaQa
import Derived.Test.YtcpepenhebipbaaQn
import Derived.Handy
import Derived.LoopTactic
namespace Go.Proofs.Ytcpepenhebipbaa.Qi
open Go.RowKit Ba Pu Pc
set_option linter.unusedVariables false
set_option linter.unusedSimpArgs false

theorem span_awake : spanR 0 1 3 = (1, 4, 0) := by decide
set_option maxRecDepth 100000 in
set_option maxHeartbeats 1000000 in
theorem Top_e (w : World) (p a b e : Int) (hp : -9223372036854775808 ≤ p ∧ p ≤ 9223372036854775807) (ha : -9223372036854775808 ≤ a ∧ a ≤ 9223372036854775807) (hb : -9223372036854775808 ≤ b ∧ b ≤ 9223372036854775807)
    (he : (e != 0) = true) (HS : Hid (spanR p a b = (0, 0, e))) :
    Calls Try.prog 3 #[.int .i64 p, .agg #[.int .i64 a, .int .i64 b]] w fun e w' => e = .returned (.bool true) ∧ Below w.heap.size w w' := by
  have H0 := Lib.hid span_awake
  go_enter Try.func3, Try.ntmps3
  go_wp2_with (first | (have _t := hz1; clear _t; ((go_at_call 4; refine (Span_any _ _ _ _).mono ?_; rintro e w2 ⟨rfl, hb2⟩; obtain ⟨hc2, hf2, hz2⟩ := bcell hb2; (try simp at hz2))); rw [HS.out]; (try have y21 : w1.heap.size < w2.heap.size := (by omega)); (try have y20 : w.heap.size < w2.heap.size := (by omega))) | (((go_at_call 4; refine (Span_any _ _ _ _).mono ?_; rintro e w1 ⟨rfl, hb1⟩; obtain ⟨hc1, hf1, hz1⟩ := bcell hb1; (try simp at hz1))); rw [H0.out]; (try have y10 : w.heap.size < w1.heap.size := (by omega))) | fail)
  go_ret
  exact ⟨rfl, by (repeat (first | exact Below.refl _ _ | assumption | refine Ba.below_step (by assumption) (by first | exact Nat.le_refl _ | omega | (simp; done) | (simp; omega)) ?_ | apply Below.drew | apply Ba.below_drewN | refine Below.alloc ?_ (by first | exact Nat.le_refl _ | omega | (simp; done) | (simp; omega)) _ | refine Below.setCell ?_ (by first | exact Nat.le_refl _ | omega | (simp; done) | (simp; omega)) _))⟩
set_option maxRecDepth 100000 in
set_option maxHeartbeats 1000000 in
theorem Top_g1 (w : World) (p a b x y : Int) (ha : 0 ≤ a) (hb : b ≤ 5184000) (hab : a < b) (hg : 200 < b - a) (HS : Hid (spanR p a b = (x, y, 0))) :
    Calls Try.prog 3 #[.int .i64 p, .agg #[.int .i64 a, .int .i64 b]] w fun e w' => e = .returned (.bool true) ∧ Below w.heap.size w w' := by
  have H0 := Lib.hid span_awake
  have t1 : decide (200 < b - a) = true := decide_eq_true (by omega)
  go_enter Try.func3, Try.ntmps3
  go_wp2_with (first | (have _t := hz1; clear _t; ((go_at_call 4; refine (Span_any _ _ _ _).mono ?_; rintro e w2 ⟨rfl, hb2⟩; obtain ⟨hc2, hf2, hz2⟩ := bcell hb2; (try simp at hz2))); rw [HS.out]; (try have y21 : w1.heap.size < w2.heap.size := (by omega)); (try have y20 : w.heap.size < w2.heap.size := (by omega))) | (((go_at_call 4; refine (Span_any _ _ _ _).mono ?_; rintro e w1 ⟨rfl, hb1⟩; obtain ⟨hc1, hf1, hz1⟩ := bcell hb1; (try simp at hz1))); rw [H0.out]; (try have y10 : w.heap.size < w1.heap.size := (by omega))) | fail)
  go_ret
  exact ⟨rfl, by (repeat (first | exact Below.refl _ _ | assumption | refine Ba.below_step (by assumption) (by first | exact Nat.le_refl _ | omega | (simp; done) | (simp; omega)) ?_ | apply Below.drew | apply Ba.below_drewN | refine Below.alloc ?_ (by first | exact Nat.le_refl _ | omega | (simp; done) | (simp; omega)) _ | refine Below.setCell ?_ (by first | exact Nat.le_refl _ | omega | (simp; done) | (simp; omega)) _))⟩

set_option maxRecDepth 100000 in
set_option maxHeartbeats 1000000 in
theorem Top_g2 (w : World) (p a b x y : Int) (ha : 0 ≤ a) (hb : b ≤ 5184000) (hab : a < b) (hg : b - a ≤ 200 ∧ 2592000 ≤ b) (HS : Hid (spanR p a b = (x, y, 0))) :
    Calls Try.prog 3 #[.int .i64 p, .agg #[.int .i64 a, .int .i64 b]] w fun e w' => e = .returned (.bool true) ∧ Below w.heap.size w w' := by
  have H0 := Lib.hid span_awake
  have t2 : decide (200 < b - a) = false := decide_eq_false (by omega)
  have t3 : decide (2592000 ≤ b) = true := decide_eq_true (by omega)
  go_enter Try.func3, Try.ntmps3
  go_wp2_with (first | (have _t := hz1; clear _t; ((go_at_call 4; refine (Span_any _ _ _ _).mono ?_; rintro e w2 ⟨rfl, hb2⟩; obtain ⟨hc2, hf2, hz2⟩ := bcell hb2; (try simp at hz2))); rw [HS.out]; (try have y21 : w1.heap.size < w2.heap.size := (by omega)); (try have y20 : w.heap.size < w2.heap.size := (by omega))) | (((go_at_call 4; refine (Span_any _ _ _ _).mono ?_; rintro e w1 ⟨rfl, hb1⟩; obtain ⟨hc1, hf1, hz1⟩ := bcell hb1; (try simp at hz1))); rw [H0.out]; (try have y10 : w.heap.size < w1.heap.size := (by omega))) | fail)
  go_ret
  exact ⟨rfl, by (repeat (first | exact Below.refl _ _ | assumption | refine Ba.below_step (by assumption) (by first | exact Nat.le_refl _ | omega | (simp; done) | (simp; omega)) ?_ | apply Below.drew | apply Ba.below_drewN | refine Below.alloc ?_ (by first | exact Nat.le_refl _ | omega | (simp; done) | (simp; omega)) _ | refine Below.setCell ?_ (by first | exact Nat.le_refl _ | omega | (simp; done) | (simp; omega)) _))⟩

end Go.Proofs.Ytcpepenhebipbaa.Qi
