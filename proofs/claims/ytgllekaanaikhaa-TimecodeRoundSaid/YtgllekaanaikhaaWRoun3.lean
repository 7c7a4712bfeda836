/- The law TimecodeRound, walked. -/
import Derived.Test.YtgllekaanaikhaaChecked
import Derived.Test.YtgllekaanaikhaaBase
import Derived.Test.YtgllekaanaikhaaWA
import Derived.Test.YtgllekaanaikhaaSh
import Derived.Test.YtgllekaanaikhaaBt
import Derived.Handy
namespace Go.Proofs.Ytgllekaanaikhaa.Tb
open Go.RowKit Ba
set_option linter.unusedVariables false
set_option linter.unusedSimpArgs false

theorem Round_e (w : World) (a0 : Int) (a1_0 : Int) (a1_1 : Int) (a1_2 : Int) (a1_3 : Int) (a1_4 : Bool) (a2_0 : Int) (a2_1 : Int) (a2_2 : Int) (a2_3 : Int) (a2_4 : Bool) (i0 : 0 ≤ a0 ∧ a0 ≤ 255) (c : Int) (hc : (c != 0) = true) (HN : Hid (btwR a0 a1_0 a1_1 a1_2 a1_3 a1_4 a2_0 a2_1 a2_2 a2_3 a2_4 = (0, c))) :
    Calls Try.prog 12 #[.int .u8 a0, .agg #[.int .i64 a1_0, .int .i64 a1_1, .int .i64 a1_2, .int .i64 a1_3, .bool a1_4], .agg #[.int .i64 a2_0, .int .i64 a2_1, .int .i64 a2_2, .int .i64 a2_3, .bool a2_4]] w fun e w' => e = .returned (.bool true) ∧ Below w.heap.size w w' := by
  go_enter Try.func12, Try.ntmps12
  go_wp2_with (first | (have _t := hz1; clear _t; ((go_at_call 33; refine (Between_any _ _ _ _ _ _ _ _ _ _ _ _ i0.1 i0.2).mono ?_; rintro e w2 ⟨rfl, hb2⟩; obtain ⟨hc2, hf2, hz2⟩ := bcell hb2; (try simp at hz2))); rw [HN.out]; (try have y21 : w1.heap.size < w2.heap.size := (by omega)); (try have y20 : w.heap.size < w2.heap.size := (by omega))) | (((go_at_call 22; refine (awake_ok _).mono ?_; rintro e w1 ⟨rfl, hb1⟩; obtain ⟨hc1, hf1, hz1⟩ := bcell hb1; (try simp at hz1))); (try have y10 : w.heap.size < w1.heap.size := (by omega))) | fail)
  go_ret
  exact ⟨rfl, by (repeat (first | exact Below.refl _ _ | assumption | refine Ba.below_step (by assumption) (by first | exact Nat.le_refl _ | omega | (simp; done) | (simp; omega)) ?_ | apply Below.drew | apply Ba.below_drewN | refine Below.alloc ?_ (by first | exact Nat.le_refl _ | omega | (simp; done) | (simp; omega)) _ | refine Below.setCell ?_ (by first | exact Nat.le_refl _ | omega | (simp; done) | (simp; omega)) _))⟩
theorem Round_o (w : World) (a0 : Int) (a1_0 : Int) (a1_1 : Int) (a1_2 : Int) (a1_3 : Int) (a1_4 : Bool) (a2_0 : Int) (a2_1 : Int) (a2_2 : Int) (a2_3 : Int) (a2_4 : Bool) (i0 : 0 ≤ a0 ∧ a0 ≤ 255) (N D : Int) (n0 : 0 ≤ N) (n1 : N < D) (D1 : D ≤ 5184000) (HN : Hid (btwR a0 a1_0 a1_1 a1_2 a1_3 a1_4 a2_0 a2_1 a2_2 a2_3 a2_4 = (N, 0))) (HA : Hid (shfR a0 a1_0 a1_1 a1_2 a1_3 a1_4 N = (a2_0, a2_1, a2_2, a2_3, a2_4, 0))) (HB : Hid (shfR a0 a2_0 a2_1 a2_2 a2_3 a2_4 (-N) = (a1_0, a1_1, a1_2, a1_3, a1_4, 0))) (HD : Hid (day a0 a1_4 = D)) :
    Calls Try.prog 12 #[.int .u8 a0, .agg #[.int .i64 a1_0, .int .i64 a1_1, .int .i64 a1_2, .int .i64 a1_3, .bool a1_4], .agg #[.int .i64 a2_0, .int .i64 a2_1, .int .i64 a2_2, .int .i64 a2_3, .bool a2_4]] w fun e w' => e = .returned (.bool true) ∧ Below w.heap.size w w' := by
  have t1 : decide (0 ≤ N) = true := decide_eq_true (by omega)
  have t2 : decide (N < D) = true := decide_eq_true (by omega)
  go_enter Try.func12, Try.ntmps12
  go_wp2_with (first | (have _t := hz4; clear _t; ((go_at_call 14; refine (Day_any _ _ _ i0.1 i0.2).mono ?_; rintro e w5 ⟨rfl, hb5⟩; obtain ⟨hc5, hf5, hz5⟩ := bcell hb5; (try simp at hz5))); rw [HD.out]; (try have y54 : w4.heap.size < w5.heap.size := (by omega)); (try have y53 : w3.heap.size < w5.heap.size := (by omega)); (try have y52 : w2.heap.size < w5.heap.size := (by omega)); (try have y51 : w1.heap.size < w5.heap.size := (by omega)); (try have y50 : w.heap.size < w5.heap.size := (by omega)); (try have z5 : w.heap.size + 1 < w5.heap.size := (by omega))) | (have _t := hz3; clear _t; ((go_at_call 34; refine (Shift_any _ _ _ _ _ _ (-N) _ i0.1 i0.2 (by omega) (by omega)).mono ?_; rintro e w4 ⟨rfl, hb4⟩; obtain ⟨hc4, hf4, hz4⟩ := bcell hb4; (try simp at hz4))); rw [HB.out]; (try have y43 : w3.heap.size < w4.heap.size := (by omega)); (try have y42 : w2.heap.size < w4.heap.size := (by omega)); (try have y41 : w1.heap.size < w4.heap.size := (by omega)); (try have y40 : w.heap.size < w4.heap.size := (by omega)); (try have z4 : w.heap.size + 1 < w4.heap.size := (by omega))) | (have _t := hz2; clear _t; ((go_at_call 34; refine (Shift_any _ _ _ _ _ _ (N) _ i0.1 i0.2 (by omega) (by omega)).mono ?_; rintro e w3 ⟨rfl, hb3⟩; obtain ⟨hc3, hf3, hz3⟩ := bcell hb3; (try simp at hz3))); rw [HA.out]; (try have y32 : w2.heap.size < w3.heap.size := (by omega)); (try have y31 : w1.heap.size < w3.heap.size := (by omega)); (try have y30 : w.heap.size < w3.heap.size := (by omega)); (try have z3 : w.heap.size + 1 < w3.heap.size := (by omega))) | (have _t := hz1; clear _t; ((go_at_call 33; refine (Between_any _ _ _ _ _ _ _ _ _ _ _ _ i0.1 i0.2).mono ?_; rintro e w2 ⟨rfl, hb2⟩; obtain ⟨hc2, hf2, hz2⟩ := bcell hb2; (try simp at hz2))); rw [HN.out]; (try have y21 : w1.heap.size < w2.heap.size := (by omega)); (try have y20 : w.heap.size < w2.heap.size := (by omega)); (try have z2 : w.heap.size + 1 < w2.heap.size := (by omega))) | (((go_at_call 22; refine (awake_ok _).mono ?_; rintro e w1 ⟨rfl, hb1⟩; obtain ⟨hc1, hf1, hz1⟩ := bcell hb1; (try simp at hz1))); (try have y10 : w.heap.size < w1.heap.size := (by omega)); (try have z1 : w.heap.size + 1 < w1.heap.size := (by omega))) | fail)
  go_ret
  exact ⟨rfl, by (repeat (first | exact Below.refl _ _ | assumption | refine Ba.below_step (by assumption) (by first | exact Nat.le_refl _ | omega | (simp; done) | (simp; omega)) ?_ | apply Below.drew | apply Ba.below_drewN | refine Below.alloc ?_ (by first | exact Nat.le_refl _ | omega | (simp; done) | (simp; omega)) _ | refine Below.setCell ?_ (by first | exact Nat.le_refl _ | omega | (simp; done) | (simp; omega)) _))⟩
theorem Round_walk (w : World) (a0 : Int) (a1_0 : Int) (a1_1 : Int) (a1_2 : Int) (a1_3 : Int) (a1_4 : Bool) (a2_0 : Int) (a2_1 : Int) (a2_2 : Int) (a2_3 : Int) (a2_4 : Bool) (i0 : 0 ≤ a0 ∧ a0 ≤ 255) (i1_0 : -9223372036854775808 ≤ a1_0 ∧ a1_0 ≤ 9223372036854775807) (i1_1 : -9223372036854775808 ≤ a1_1 ∧ a1_1 ≤ 9223372036854775807) (i1_2 : -9223372036854775808 ≤ a1_2 ∧ a1_2 ≤ 9223372036854775807) (i1_3 : -9223372036854775808 ≤ a1_3 ∧ a1_3 ≤ 9223372036854775807) (i2_0 : -9223372036854775808 ≤ a2_0 ∧ a2_0 ≤ 9223372036854775807) (i2_1 : -9223372036854775808 ≤ a2_1 ∧ a2_1 ≤ 9223372036854775807) (i2_2 : -9223372036854775808 ≤ a2_2 ∧ a2_2 ≤ 9223372036854775807) (i2_3 : -9223372036854775808 ≤ a2_3 ∧ a2_3 ≤ 9223372036854775807) :
    Calls Try.prog 12 #[.int .u8 a0, .agg #[.int .i64 a1_0, .int .i64 a1_1, .int .i64 a1_2, .int .i64 a1_3, .bool a1_4], .agg #[.int .i64 a2_0, .int .i64 a2_1, .int .i64 a2_2, .int .i64 a2_3, .bool a2_4]] w fun e w' => e = .returned (.bool true) ∧ Below w.heap.size w w' := by
  by_cases hc : chk a0 a1_0 a1_1 a1_2 a1_3 a1_4 = 0
  · by_cases hb : chk a0 a2_0 a2_1 a2_2 a2_3 a2_4 = 0
    · by_cases hd : a1_4 = a2_4
      · subst hd
        obtain ⟨x0, x1, D1⟩ := fr_bd a0 a1_0 a1_1 a1_2 a1_3 a1_4 hc
        obtain ⟨y0, y1, _⟩ := fr_bd a0 a2_0 a2_1 a2_2 a2_3 a1_4 hb
        obtain ⟨_, _, la⟩ := fr_back a0 a1_0 a1_1 a1_2 a1_3 a1_4 hc
        obtain ⟨_, _, lb⟩ := fr_back a0 a2_0 a2_1 a2_2 a2_3 a1_4 hb
        have k := btw_k a0 a1_0 a1_1 a1_2 a1_3 a1_4 a2_0 a2_1 a2_2 a2_3 a1_4 hc hb rfl
        refine Round_o w a0 a1_0 a1_1 a1_2 a1_3 a1_4 a2_0 a2_1 a2_2 a2_3 a1_4 i0 _ _ (Int.emod_nonneg _ (by omega)) (Int.emod_lt_of_pos _ (by omega)) D1 (Lib.hid k) (Lib.hid ?_) (Lib.hid ?_) (Lib.hid rfl)
        · rw [shf_0 _ _ _ _ _ _ _ hc]
          have z : (fr a0 a1_0 a1_1 a1_2 a1_3 a1_4 + (fr a0 a2_0 a2_1 a2_2 a2_3 a1_4 - fr a0 a1_0 a1_1 a1_2 a1_3 a1_4) % day a0 a1_4) % day a0 a1_4 = fr a0 a2_0 a2_1 a2_2 a2_3 a1_4 := by
            rw [Int.add_emod_emod, show fr a0 a1_0 a1_1 a1_2 a1_3 a1_4 + (fr a0 a2_0 a2_1 a2_2 a2_3 a1_4 - fr a0 a1_0 a1_1 a1_2 a1_3 a1_4) = fr a0 a2_0 a2_1 a2_2 a2_3 a1_4 from by omega]
            exact Int.emod_eq_of_lt y0 y1
          rw [z, lb]
        · rw [shf_0 _ _ _ _ _ _ _ hb]
          have z : (fr a0 a2_0 a2_1 a2_2 a2_3 a1_4 + -((fr a0 a2_0 a2_1 a2_2 a2_3 a1_4 - fr a0 a1_0 a1_1 a1_2 a1_3 a1_4) % day a0 a1_4)) % day a0 a1_4 = fr a0 a1_0 a1_1 a1_2 a1_3 a1_4 := by
            rw [← Int.sub_eq_add_neg, Int.sub_emod_emod, show fr a0 a2_0 a2_1 a2_2 a2_3 a1_4 - (fr a0 a2_0 a2_1 a2_2 a2_3 a1_4 - fr a0 a1_0 a1_1 a1_2 a1_3 a1_4) = fr a0 a1_0 a1_1 a1_2 a1_3 a1_4 from by omega]
            exact Int.emod_eq_of_lt x0 x1
          rw [z, la]
      · exact Round_e w a0 a1_0 a1_1 a1_2 a1_3 a1_4 a2_0 a2_1 a2_2 a2_3 a2_4 i0 _ (by decide) (Lib.hid (btw_e3 _ _ _ _ _ _ _ _ _ _ _ hc hb hd))
    · exact Round_e w a0 a1_0 a1_1 a1_2 a1_3 a1_4 a2_0 a2_1 a2_2 a2_3 a2_4 i0 _ (by simpa using hb) (Lib.hid (btw_e2 _ _ _ _ _ _ _ _ _ _ _ hc hb))
  · exact Round_e w a0 a1_0 a1_1 a1_2 a1_3 a1_4 a2_0 a2_1 a2_2 a2_3 a2_4 i0 _ (by simpa using hc) (Lib.hid (btw_e1 _ _ _ _ _ _ _ _ _ _ _ hc))
end Go.Proofs.Ytgllekaanaikhaa.Tb
