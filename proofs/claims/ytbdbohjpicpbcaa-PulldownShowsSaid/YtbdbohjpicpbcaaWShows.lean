/- Contracts of layer 4 (pulldown) and of its reference: what each function returns, in integers. No condition but those that each theorem names. -/
import Derived.Test.YtbdbohjpicpbcaaChecked
import Derived.Test.YtbdbohjpicpbcaaPull
import Derived.Test.YtbdbohjpicpbcaaBase
import Derived.Test.YtbdbohjpicpbcaaPd
import Derived.Test.YtbdbohjpicpbcaaPf
import Derived.Test.YtbdbohjpicpbcaaPw
import Derived.Test.YtbdbohjpicpbcaaOpen
namespace Go.Proofs.Ytbdbohjpicpbcaa.Pc
open Go.RowKit Pu Ba
set_option linter.unusedVariables false
set_option linter.unusedSimpArgs false

theorem le_sn (p n f : Int) : n ≤ sn p f ↔ fld p n ≤ f := by
  have h := fld_sn p f
  constructor
  · intro hn; have := fld_mono p n (sn p f) hn; omega
  · intro hf
    by_cases hc : n ≤ sn p f
    · exact hc
    · have := fld_mono p (sn p f + 1) n (by omega); omega
/-- The film frame of the second field: that of the first, or the next one. -/
def sec (p v : Int) : Int := if cl p v = true then sn p (2 * v) else sn p (2 * v) + 1
theorem sec_eq (p v : Int) : sec p v = sn p (2 * v + 1) := by
  unfold sec
  have h := fld_sn p (2 * v)
  have h2 := fld_sn p (2 * v + 1)
  have s1 := fld_step p (sn p (2 * v) + 1)
  have a1 := le_sn p (sn p (2 * v)) (2 * v + 1)
  have a2 := le_sn p (sn p (2 * v) + 1 + 1) (2 * v + 1)
  split
  · rename_i hc; exact ((cl_iff p v).1 hc).symm
  · rename_i hc
    have : sn p (2 * v + 1) ≠ sn p (2 * v) := fun e => hc ((cl_iff p v).2 e)
    omega
theorem shows_in (p a v : Int) : fld p a / 2 ≤ v ↔ a ≤ sec p v := by
  rw [sec_eq, le_sn]; omega
theorem shows_out (p b v : Int) : v < (fld p b + 1) / 2 ↔ sn p (2 * v) < b := by
  have := le_sn p b (2 * v)
  omega
theorem span_ok (p a b : Int) (h : (spanR p a b).2.2 = 0) : 0 ≤ p ∧ p < 4 ∧ a < b ∧ 0 ≤ a ∧ b ≤ 5184000 := by
  unfold spanR at h
  split at h
  · simp at h
  · split at h
    · simp at h
    · omega
theorem back_ok (p v : Int) (h : (backR p v).2.2 = 0) : 0 ≤ p ∧ p < 4 ∧ 0 ≤ v ∧ v ≤ 5183999 := by
  unfold backR at h
  split at h
  · simp at h
  · split at h
    · simp at h
    · omega

set_option maxHeartbeats 4000000 in
theorem Shows_walk (w : World) (a0 : Int) (a1_0 : Int) (a1_1 : Int) (a2 : Int) (w0 : -9223372036854775808 ≤ a0 ∧ a0 ≤ 9223372036854775807) (w1_0 : -9223372036854775808 ≤ a1_0 ∧ a1_0 ≤ 9223372036854775807) (w1_1 : -9223372036854775808 ≤ a1_1 ∧ a1_1 ≤ 9223372036854775807) (w2 : -9223372036854775808 ≤ a2 ∧ a2 ≤ 9223372036854775807) :
    Calls Try.prog 4 #[.int .i64 a0, .agg #[.int .i64 a1_0, .int .i64 a1_1], .int .i64 a2] w fun e w' => e = .returned (.bool true) ∧ Below w.heap.size w w' := by
  by_cases hE : (spanR a0 a1_0 a1_1).2.2 = 0
  · by_cases hF : (backR a0 a2).2.2 = 0
    · obtain ⟨p0, p1, sl, s0, s1⟩ := span_ok _ _ _ hE
      obtain ⟨_, _, v0, v1⟩ := back_ok _ _ hF
      clear hE hF
      have HS := Lib.hid (span_fit a0 a1_0 a1_1 p0 p1 sl s0 s1)
      have HB := Lib.hid (back_fit a0 a2 p0 p1 v0 v1)
      have HI := shows_in a0 a1_0 a2
      have HO := shows_out a0 a1_1 a2
      have sb := sn_bd a0 (2 * a2) (by omega)
      have hm := fld_mono a0 a1_0 a1_1 (by omega)
      have tri : (fld a0 a1_0 / 2 ≤ a2 ∧ a2 < (fld a0 a1_1 + 1) / 2) ∨ (fld a0 a1_0 / 2 ≤ a2 ∧ ¬ a2 < (fld a0 a1_1 + 1) / 2) ∨ (¬ fld a0 a1_0 / 2 ≤ a2 ∧ a2 < (fld a0 a1_1 + 1) / 2) := by omega
      clear hm
      rcases tri with ⟨c1, c2⟩ | ⟨c1, c2⟩ | ⟨c1, c2⟩
      all_goals
          cases hc : cl a0 a2
          all_goals
            unfold sec at HI
            rw [hc] at HI
            simp at HI
            (first | (have t1 : decide (fld a0 a1_0 / 2 ≤ a2) = true := decide_eq_true c1) | (have t1 : decide (fld a0 a1_0 / 2 ≤ a2) = false := decide_eq_false c1))
            (first | (have t2 : decide (a2 < (fld a0 a1_1 + 1) / 2) = true := decide_eq_true c2) | (have t2 : decide (a2 < (fld a0 a1_1 + 1) / 2) = false := decide_eq_false c2))
            (first | (have t3 : decide (a1_0 ≤ sn a0 (2 * a2)) = true := decide_eq_true (by omega)) | (have t3 : decide (a1_0 ≤ sn a0 (2 * a2)) = false := decide_eq_false (by omega)) | skip)
            (first | (have t4 : decide (a1_0 ≤ sn a0 (2 * a2) + 1) = true := decide_eq_true (by omega)) | (have t4 : decide (a1_0 ≤ sn a0 (2 * a2) + 1) = false := decide_eq_false (by omega)) | skip)
            (first | (have t5 : decide (sn a0 (2 * a2) < a1_1) = true := decide_eq_true (by omega)) | (have t5 : decide (sn a0 (2 * a2) < a1_1) = false := decide_eq_false (by omega)))
            have HCl := Lib.hid hc
            clear HI HO hc c1 c2
            go_enter Try.func4, Try.ntmps4
            go_wp2_with (first | ((go_at_call 11; refine (awake_ok _).mono ?_; rintro e w1 ⟨rfl, hb1⟩; obtain ⟨hc1, hf1, hz1⟩ := bcell hb1; (try simp at hz1)); have y10 : w.heap.size < w1.heap.size := (by omega)) | (go_at_call 12; refine (Span_any _ _ _ _).mono ?_; rintro e w2 ⟨rfl, hb2⟩; rw [HS.out]; obtain ⟨hc2, hf2, hz2⟩ := bcell hb2; (try simp at hz2); have y20 : w.heap.size < w2.heap.size := (by omega)) | (go_at_call 14; refine (Back_any _ _ _).mono ?_; rintro e w' ⟨rfl, rfl⟩; rw [HB.out, HCl.out]) | go_in)
            go_ret
            refine ⟨rfl, ?_⟩
            (repeat (first | exact Below.refl _ _ | assumption | refine Ba.below_step (by assumption) (by first | exact Nat.le_refl _ | omega | (simp; done) | (simp; omega)) ?_ | apply Below.drew | apply Ba.below_drewN | refine Below.alloc ?_ (by first | exact Nat.le_refl _ | omega | (simp; done) | (simp; omega)) _ | refine Below.setCell ?_ (by first | exact Nat.le_refl _ | omega | (simp; done) | (simp; omega)) _))
    · have t1 : ((spanR a0 a1_0 a1_1).2.2 != 0) = false := by simpa using hE
      have t2 : ((backR a0 a2).2.2 != 0) = true := by simpa using hF
      have HH := Lib.hid hE
      clear hE hF
      go_enter Try.func4, Try.ntmps4
      go_wp2_with (first | ((go_at_call 11; refine (awake_ok _).mono ?_; rintro e w1 ⟨rfl, hb1⟩; obtain ⟨hc1, hf1, hz1⟩ := bcell hb1; (try simp at hz1)); have y10 : w.heap.size < w1.heap.size := (by omega)) | ((go_at_call 12; refine (Span_any _ _ _ _).mono ?_; rintro e w2 ⟨rfl, hb2⟩; obtain ⟨hc2, hf2, hz2⟩ := bcell hb2; (try simp at hz2)); have y20 : w.heap.size < w2.heap.size := (by omega)) | (go_at_call 14; refine (Back_any _ _ _).mono ?_; rintro e w' ⟨rfl, rfl⟩) | go_in)
      go_ret
      refine ⟨rfl, ?_⟩
      (repeat (first | exact Below.refl _ _ | assumption | refine Ba.below_step (by assumption) (by first | exact Nat.le_refl _ | omega | (simp; done) | (simp; omega)) ?_ | apply Below.drew | apply Ba.below_drewN | refine Below.alloc ?_ (by first | exact Nat.le_refl _ | omega | (simp; done) | (simp; omega)) _ | refine Below.setCell ?_ (by first | exact Nat.le_refl _ | omega | (simp; done) | (simp; omega)) _))
  · have t1 : ((spanR a0 a1_0 a1_1).2.2 != 0) = true := by simpa using hE
    clear hE
    go_enter Try.func4, Try.ntmps4
    go_wp2_with (first | ((go_at_call 11; refine (awake_ok _).mono ?_; rintro e w1 ⟨rfl, hb1⟩; obtain ⟨hc1, hf1, hz1⟩ := bcell hb1; (try simp at hz1)); have y10 : w.heap.size < w1.heap.size := (by omega)) | ((go_at_call 12; refine (Span_any _ _ _ _).mono ?_; rintro e w2 ⟨rfl, hb2⟩; obtain ⟨hc2, hf2, hz2⟩ := bcell hb2; (try simp at hz2)); have y20 : w.heap.size < w2.heap.size := (by omega)) | (go_at_call 14; refine (Back_any _ _ _).mono ?_; rintro e w' ⟨rfl, rfl⟩) | go_in)
    go_ret
    refine ⟨rfl, ?_⟩
    (repeat (first | exact Below.refl _ _ | assumption | refine Ba.below_step (by assumption) (by first | exact Nat.le_refl _ | omega | (simp; done) | (simp; omega)) ?_ | apply Below.drew | apply Ba.below_drewN | refine Below.alloc ?_ (by first | exact Nat.le_refl _ | omega | (simp; done) | (simp; omega)) _ | refine Below.setCell ?_ (by first | exact Nat.le_refl _ | omega | (simp; done) | (simp; omega)) _))
end Go.Proofs.Ytbdbohjpicpbcaa.Pc
