/- The law TimecodeReal, walked: a drop-frame label and real time. -/
import Derived.Test.YtgllekaanaikhaaChecked
import Derived.Test.YtgllekaanaikhaaBase
import Derived.Test.YtgllekaanaikhaaWA
import Derived.Test.YtgllekaanaikhaaPm
import Derived.Handy
namespace Go.Proofs.Ytgllekaanaikhaa.Tb
open Go.RowKit Ba
set_option linter.unusedVariables false
set_option linter.unusedSimpArgs false

theorem Real_f0 (w : World) (a1 : Int) (n : Int) (n0 : -17560 ≤ n) (n1 : n ≤ 7198) (HL : Hid (lagR 4 true a1 = (n, 0))) :
    Calls Try.prog 6 #[.bool false, .int .i64 a1] w fun e w' => e = .returned (.bool true) ∧ Below w.heap.size w w' := by
  have t1 : decide (-17560 ≤ n) = true := decide_eq_true (by omega)
  have t2 : decide (n ≤ 7198) = true := decide_eq_true (by omega)
  go_enter Try.func6, Try.ntmps6
  go_wp2_with (first | (have _t := hz1; clear _t; ((go_at_call 19; refine (Lag_any _ _ _ _ (by omega) (by omega)).mono ?_; rintro e w2 ⟨rfl, hb2⟩; obtain ⟨hc2, hf2, hz2⟩ := bcell hb2; (try simp at hz2))); rw [HL.out]; (try have y21 : w1.heap.size < w2.heap.size := (by omega)); (try have y20 : w.heap.size < w2.heap.size := (by omega))) | (((go_at_call 22; refine (awake_ok _).mono ?_; rintro e w1 ⟨rfl, hb1⟩; obtain ⟨hc1, hf1, hz1⟩ := bcell hb1; (try simp at hz1))); (try have y10 : w.heap.size < w1.heap.size := (by omega))) | fail)
  go_ret
  exact ⟨rfl, by (repeat (first | exact Below.refl _ _ | assumption | refine Ba.below_step (by assumption) (by first | exact Nat.le_refl _ | omega | (simp; done) | (simp; omega)) ?_ | apply Below.drew | apply Ba.below_drewN | refine Below.alloc ?_ (by first | exact Nat.le_refl _ | omega | (simp; done) | (simp; omega)) _ | refine Below.setCell ?_ (by first | exact Nat.le_refl _ | omega | (simp; done) | (simp; omega)) _))⟩
theorem Real_f1 (w : World) (a1 : Int) (c : Int) (hc : (c != 0) = true) (HL : Hid (lagR 4 true a1 = (0, c))) :
    Calls Try.prog 6 #[.bool false, .int .i64 a1] w fun e w' => e = .returned (.bool true) ∧ Below w.heap.size w w' := by
  go_enter Try.func6, Try.ntmps6
  go_wp2_with (first | (have _t := hz1; clear _t; ((go_at_call 19; refine (Lag_any _ _ _ _ (by omega) (by omega)).mono ?_; rintro e w2 ⟨rfl, hb2⟩; obtain ⟨hc2, hf2, hz2⟩ := bcell hb2; (try simp at hz2))); rw [HL.out]; (try have y21 : w1.heap.size < w2.heap.size := (by omega)); (try have y20 : w.heap.size < w2.heap.size := (by omega))) | (((go_at_call 22; refine (awake_ok _).mono ?_; rintro e w1 ⟨rfl, hb1⟩; obtain ⟨hc1, hf1, hz1⟩ := bcell hb1; (try simp at hz1))); (try have y10 : w.heap.size < w1.heap.size := (by omega))) | fail)
  go_ret
  exact ⟨rfl, by (repeat (first | exact Below.refl _ _ | assumption | refine Ba.below_step (by assumption) (by first | exact Nat.le_refl _ | omega | (simp; done) | (simp; omega)) ?_ | apply Below.drew | apply Ba.below_drewN | refine Below.alloc ?_ (by first | exact Nat.le_refl _ | omega | (simp; done) | (simp; omega)) _ | refine Below.setCell ?_ (by first | exact Nat.le_refl _ | omega | (simp; done) | (simp; omega)) _))⟩
theorem Real_t0 (w : World) (a1 : Int) (n : Int) (n0 : -17560 ≤ n) (n1 : n ≤ 7198) (HL : Hid (lagR 7 true a1 = (n, 0))) :
    Calls Try.prog 6 #[.bool true, .int .i64 a1] w fun e w' => e = .returned (.bool true) ∧ Below w.heap.size w w' := by
  have t3 : decide (-17560 ≤ n) = true := decide_eq_true (by omega)
  have t4 : decide (n ≤ 7198) = true := decide_eq_true (by omega)
  go_enter Try.func6, Try.ntmps6
  go_wp2_with (first | (have _t := hz1; clear _t; ((go_at_call 19; refine (Lag_any _ _ _ _ (by omega) (by omega)).mono ?_; rintro e w2 ⟨rfl, hb2⟩; obtain ⟨hc2, hf2, hz2⟩ := bcell hb2; (try simp at hz2))); rw [HL.out]; (try have y21 : w1.heap.size < w2.heap.size := (by omega)); (try have y20 : w.heap.size < w2.heap.size := (by omega))) | (((go_at_call 22; refine (awake_ok _).mono ?_; rintro e w1 ⟨rfl, hb1⟩; obtain ⟨hc1, hf1, hz1⟩ := bcell hb1; (try simp at hz1))); (try have y10 : w.heap.size < w1.heap.size := (by omega))) | fail)
  go_ret
  exact ⟨rfl, by (repeat (first | exact Below.refl _ _ | assumption | refine Ba.below_step (by assumption) (by first | exact Nat.le_refl _ | omega | (simp; done) | (simp; omega)) ?_ | apply Below.drew | apply Ba.below_drewN | refine Below.alloc ?_ (by first | exact Nat.le_refl _ | omega | (simp; done) | (simp; omega)) _ | refine Below.setCell ?_ (by first | exact Nat.le_refl _ | omega | (simp; done) | (simp; omega)) _))⟩
theorem Real_t1 (w : World) (a1 : Int) (c : Int) (hc : (c != 0) = true) (HL : Hid (lagR 7 true a1 = (0, c))) :
    Calls Try.prog 6 #[.bool true, .int .i64 a1] w fun e w' => e = .returned (.bool true) ∧ Below w.heap.size w w' := by
  go_enter Try.func6, Try.ntmps6
  go_wp2_with (first | (have _t := hz1; clear _t; ((go_at_call 19; refine (Lag_any _ _ _ _ (by omega) (by omega)).mono ?_; rintro e w2 ⟨rfl, hb2⟩; obtain ⟨hc2, hf2, hz2⟩ := bcell hb2; (try simp at hz2))); rw [HL.out]; (try have y21 : w1.heap.size < w2.heap.size := (by omega)); (try have y20 : w.heap.size < w2.heap.size := (by omega))) | (((go_at_call 22; refine (awake_ok _).mono ?_; rintro e w1 ⟨rfl, hb1⟩; obtain ⟨hc1, hf1, hz1⟩ := bcell hb1; (try simp at hz1))); (try have y10 : w.heap.size < w1.heap.size := (by omega))) | fail)
  go_ret
  exact ⟨rfl, by (repeat (first | exact Below.refl _ _ | assumption | refine Ba.below_step (by assumption) (by first | exact Nat.le_refl _ | omega | (simp; done) | (simp; omega)) ?_ | apply Below.drew | apply Ba.below_drewN | refine Below.alloc ?_ (by first | exact Nat.le_refl _ | omega | (simp; done) | (simp; omega)) _ | refine Below.setCell ?_ (by first | exact Nat.le_refl _ | omega | (simp; done) | (simp; omega)) _))⟩
theorem lag_num (n d tk r f : Int) (hk : (n = 30 ∧ d = 2 ∧ tk = 4004) ∨ (n = 60 ∧ d = 4 ∧ tk = 2002)) (f0 : 0 ≤ f) (f1 : f < 86400 * n - 1296 * d) (H M S F : Int) (e1 : 3600 * H + 60 * M + S = num n d f / n) (e2 : F = num n d f % n) :
    -17560 ≤ f * tk - ((3600 * H + 60 * M + S) * 120000 + 120000 * F / n) ∧ f * tk - ((3600 * H + 60 * M + S) * 120000 + 120000 * F / n) ≤ 7198 := by
  rcases hk with ⟨a, b, c⟩ | ⟨a, b, c⟩ <;> subst a b c
  · have hN : (3600 * H + 60 * M + S) * 120000 + 120000 * F / 30 = 4000 * num 30 2 f := by omega
    rw [hN]
    clear hN e1 e2
    unfold num
    generalize hq : f / (600 * 30 - 9 * 2) = q
    generalize hs : f % (600 * 30 - 9 * 2) = s
    split
    · generalize hk : (s - 60 * 30) / (60 * 30 - 2) = k
      omega
    · omega
  · have hN : (3600 * H + 60 * M + S) * 120000 + 120000 * F / 60 = 2000 * num 60 4 f := by omega
    rw [hN]
    clear hN e1 e2
    unfold num
    generalize hq : f / (600 * 60 - 9 * 4) = q
    generalize hs : f % (600 * 60 - 9 * 4) = s
    split
    · generalize hk : (s - 60 * 60) / (60 * 60 - 4) = k
      omega
    · omega
theorem lag_real (r f : Int) (hr : r = 4 ∨ r = 7) : (∃ c, lagR r true f = (0, c) ∧ (c != 0) = true) ∨ (∃ n, lagR r true f = (n, 0) ∧ -17560 ≤ n ∧ n ≤ 7198) := by
  rcases lab_is r true f with ⟨e, hl, he⟩ | ⟨H, M, S, F, hl, he, f0, f1, H0, H1, M0, M1, S0, S1, F0, F1, e1, e2⟩
  · refine .inl ⟨e, ?_, by simp; omega⟩
    unfold lagR; rw [hl]; simp; omega
  · refine .inr ⟨f * tk r - ((3600 * H + 60 * M + S) * 120000 + 120000 * F / nm r), ?_, ?_⟩
    · unfold lagR; rw [hl]; simp
    · have hd := day_eq r true he
      refine lag_num (nm r) (dp r true) (tk r) r f ?_ f0 (by omega) H M S F e1 e2
      rcases hr with h | h <;> subst h
      · exact .inl ⟨rfl, rfl, rfl⟩
      · exact .inr ⟨rfl, rfl, rfl⟩
theorem Real_walk (w : World) (a0 : Bool) (a1 : Int) (i1 : -9223372036854775808 ≤ a1 ∧ a1 ≤ 9223372036854775807) :
    Calls Try.prog 6 #[.bool a0, .int .i64 a1] w fun e w' => e = .returned (.bool true) ∧ Below w.heap.size w w' := by
  cases a0
  · rcases lag_real 4 a1 (.inl rfl) with ⟨c, hl, hc⟩ | ⟨n, hl, n0, n1⟩
    · exact Real_f1 w a1 c hc (Lib.hid hl)
    · exact Real_f0 w a1 n n0 n1 (Lib.hid hl)
  · rcases lag_real 7 a1 (.inr rfl) with ⟨c, hl, hc⟩ | ⟨n, hl, n0, n1⟩
    · exact Real_t1 w a1 c hc (Lib.hid hl)
    · exact Real_t0 w a1 n n0 n1 (Lib.hid hl)
end Go.Proofs.Ytgllekaanaikhaa.Tb
