/- cmp.Compare at int64, span.merge's comparison, span.Check and span.Len at a set of one span. -/
import Derived.Test.YtcpepenhebipbaaChecked
import Derived.Test.YtcpepenhebipbaaBase
import Derived.Test.YtcpepenhebipbaaQi
import Derived.Handy
import Derived.LoopTactic
namespace Go.Proofs.Ytcpepenhebipbaa.Qi
open Go.RowKit Ba
set_option linter.unusedVariables false
set_option linter.unusedSimpArgs false

/-- What cmp.Compare says of two integers. -/
def cmpI (x y : Int) : Int := if x < y then -1 else if y < x then 1 else 0
theorem cmp_ok (x y : Int) (w : World) : Calls Try.prog 19 #[.int .i64 x, .int .i64 y] w fun e w' => e = .returned (.int .i64 (cmpI x y)) ∧ w = w' := by
  by_cases h1 : x < y
  · have hc : cmpI x y = -1 := by unfold cmpI; rw [if_pos h1]
    rw [hc]
    clear hc
    have t1 : decide (x < y) = true := decide_eq_true (by omega)
    go_enter Try.func19, Try.ntmps19
    go_wp2
    go_ret
    exact ⟨rfl, rfl⟩
  · by_cases h2 : y < x
    · have hc : cmpI x y = 1 := by unfold cmpI; rw [if_neg h1, if_pos h2]
      rw [hc]
      clear hc
      have t2 : decide (x < y) = false := decide_eq_false (by omega)
      have t3 : decide (y < x) = true := decide_eq_true (by omega)
      go_enter Try.func19, Try.ntmps19
      go_wp2
      go_ret
      exact ⟨rfl, rfl⟩
    · have hc : cmpI x y = 0 := by unfold cmpI; rw [if_neg h1, if_neg h2]
      rw [hc]
      clear hc
      have t4 : decide (x < y) = false := decide_eq_false (by omega)
      have t5 : decide (y < x) = false := decide_eq_false (by omega)
      go_enter Try.func19, Try.ntmps19
      go_wp2
      go_ret
      exact ⟨rfl, rfl⟩
theorem Check_1 (g cap : Nat) (x y : Int) (w : World) (hx : 0 ≤ x) (hy : y ≤ 10378368000) (hxy : x < y) (hg : g < w.heap.size)
    (c0 : w.cell? ⟨g, 0, none⟩ = some (.int .i64 x)) (c1 : w.cell? ⟨g, 1, none⟩ = some (.int .i64 y)) :
    Calls Try.prog 14 #[.slice (some ⟨g, 0, none⟩) 1 cap] w fun e w' => e = .returned (.int .i64 0) ∧ Below w.heap.size w w' := by
  have t6 : decide (x < 0) = false := decide_eq_false (by omega)
  have t7 : decide (10378368000 < y) = false := decide_eq_false (by omega)
  have t8 : decide (y ≤ x) = false := decide_eq_false (by omega)
  go_enter Try.func14, Try.ntmps14
  go_wp2
  refine wp_loop_rounds 2 ?_
  rw [rounds_succ]
  go_wp2
  go_quiet (fail)
  go_wp2
  rw [rounds_succ]
  go_wp2
  go_ret
  exact ⟨rfl, by (repeat (first | exact Below.refl _ _ | assumption | refine Ba.below_step (by assumption) (by first | exact Nat.le_refl _ | omega | (simp; done) | (simp; omega)) ?_ | apply Below.drew | apply Ba.below_drewN | refine Below.alloc ?_ (by first | exact Nat.le_refl _ | omega | (simp; done) | (simp; omega)) _ | refine Below.setCell ?_ (by first | exact Nat.le_refl _ | omega | (simp; done) | (simp; omega)) _))⟩
theorem Len_1 (g cap : Nat) (x y : Int) (w : World) (hx : 0 ≤ x) (hy : y ≤ 10378368000) (hxy : x < y) (hg : g < w.heap.size)
    (c0 : w.cell? ⟨g, 0, none⟩ = some (.int .i64 x)) (c1 : w.cell? ⟨g, 1, none⟩ = some (.int .i64 y)) :
    Calls Try.prog 7 #[.slice (some ⟨g, 0, none⟩) 1 cap] w fun e w' => e = .returned (ret2 (y - x, 0)) ∧ Below w.heap.size w w' := by
  go_enter Try.func7, Try.ntmps7
  go_wp2_with ((go_at_call 14; refine (Check_1 g cap x y _ hx hy hxy hg c0 c1).mono ?_; rintro e w1 ⟨rfl, hb1⟩; obtain ⟨hc1, hf1, hz1⟩ := bcell hb1; (try simp at hz1)))
  have d0 : w1.cell? ⟨g, 0, none⟩ = some (.int .i64 x) := (hc1 g 0 hg).trans c0
  have d1 : w1.cell? ⟨g, 1, none⟩ = some (.int .i64 y) := (hc1 g 1 hg).trans c1
  have y10 : g < w1.heap.size := by omega
  refine wp_loop_rounds 2 ?_
  rw [rounds_succ]
  go_wp2
  rw [rounds_succ]
  go_wp2
  go_ret2
  exact ⟨rfl, by (repeat (first | exact Below.refl _ _ | assumption | refine Ba.below_step (by assumption) (by first | exact Nat.le_refl _ | omega | (simp; done) | (simp; omega)) ?_ | apply Below.drew | apply Ba.below_drewN | refine Below.alloc ?_ (by first | exact Nat.le_refl _ | omega | (simp; done) | (simp; omega)) _ | refine Below.setCell ?_ (by first | exact Nat.le_refl _ | omega | (simp; done) | (simp; omega)) _))⟩
end Go.Proofs.Ytcpepenhebipbaa.Qi
