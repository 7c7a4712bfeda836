/- Contracts of layer 4 (pulldown) and of its reference: what each function returns, in integers. No condition but those that each theorem names. -/
import Derived.Test.YtbdbohjpicpbcaaChecked
import Derived.Test.YtbdbohjpicpbcaaPull
import Derived.Test.YtbdbohjpicpbcaaBase
import Derived.Test.YtbdbohjpicpbcaaPf
namespace Go.Proofs.Ytbdbohjpicpbcaa.Pc
open Go.RowKit Pu Ba
set_option linter.unusedVariables false
set_option linter.unusedSimpArgs false

/-! ### Phase -/
/-- The first n of the video frames from f on are clean in phase p as they are told. -/
def agr (p f : Int) (z : Nat → Bool) : Nat → Bool
  | 0 => true
  | n + 1 => agr p f z n && (cl p (f + n) == z n)
theorem agr_no {p f : Int} {z : Nat → Bool} {k n : Nat} (h : cl p (f + k) ≠ z k) (hk : k < n) : agr p f z n = false := by
  induction n with
  | zero => omega
  | succ n ih =>
    unfold agr
    by_cases e : k = n
    · subst e; simp [h]
    · rw [ih (by omega)]; rfl
theorem agr_yes {p f : Int} {z : Nat → Bool} {k : Nat} (h : agr p f z k = true) (hk : cl p (f + k) = z k) : agr p f z (k + 1) = true := by
  unfold agr; rw [h, hk]; simp

def firstP (f : Int) (n : Nat) (z : Nat → Bool) : Int × Int :=
  if agr 0 f z n then (0, 0) else if agr 1 f z n then (1, 0) else if agr 2 f z n then (2, 0) else if agr 3 f z n then (3, 0) else (0, 6)
def phaseR (f : Int) (n : Nat) (z : Nat → Bool) : Int × Int :=
  if n = 0 then (0, 1) else if 400 < n then (0, 9) else if f < 0 ∨ 5184000 < f + n then (0, 2) else firstP f n z
theorem phase_arg (f : Int) (z : Nat → Bool) : phaseR f 0 z = (0, 1) := by unfold phaseR; rw [if_pos rfl]
theorem phase_lim (f : Int) (n : Nat) (z : Nat → Bool) (h : 400 < n) : phaseR f n z = (0, 9) := by unfold phaseR; rw [if_neg (by omega), if_pos h]
theorem phase_rng (f : Int) (n : Nat) (z : Nat → Bool) (h0 : n ≠ 0) (h1 : n ≤ 400) (h : f < 0 ∨ 5184000 < f + n) : phaseR f n z = (0, 2) := by unfold phaseR; rw [if_neg (by omega), if_neg (by omega), if_pos h]
theorem phase_fit (f : Int) (n : Nat) (z : Nat → Bool) (h0 : n ≠ 0) (h1 : n ≤ 400) (h2 : 0 ≤ f) (h3 : f + n ≤ 5184000) : phaseR f n z = firstP f n z := by unfold phaseR; rw [if_neg (by omega), if_neg (by omega), if_neg (by omega)]

theorem agrees_ok (p f : Int) (b off len cap : Nat) (z : Nat → Bool) (w : World) (h0 : 0 ≤ p) (h1 : p < 4) (h2 : 0 ≤ f) (h3 : f + len ≤ 5184000) (hl : len ≤ 400)
    (hc : ∀ i, i < len → w.cell? ⟨b, off + i, none⟩ = some (.bool (z i))) :
    Calls Try.prog 34 #[.int .i64 p, .int .i64 f, .slice (some ⟨b, off, none⟩) len cap] w fun e w' => e = .returned (.bool (agr p f z len)) ∧ w = w' := by
  have HB := Lib.hid (fun v => back_fit p v h0 h1)
  go_enter Try.func34, Try.ntmps34
  go_wp2
  go_loop [14] (fun v => ∃ k : Nat, k ≤ len ∧ v = .int .i64 k ∧ agr p f z k = true) (fun v => len - (intOf v).toNat)
  case atStart => exact ⟨0, by omega, rfl, rfl⟩
  case round =>
    obtain ⟨k, hk, rfl, hg⟩ := hrel
    have HG := Lib.hid hg
    clear hg
    by_cases hlt : k < len
    · have hck := hc k hlt
      by_cases hz : cl p (f + k) = z k
      · have HZ := Lib.hid hz
        have hne : (cl p (f + k) == z k) = true := by simp [hz]
        clear hz
        go_wp2_with (first | (go_at_call 14; refine (Back_any p (f + k) _).mono ?_; rintro e w' ⟨rfl, rfl⟩; rw [HB.out _ (by omega) (by omega)]) | go_in)
        go_round
        case rel => exact ⟨k + 1, by omega, by go_num, agr_yes HG.out HZ.out⟩
        case measure => simp [intOf]; omega
      · have HZ := Lib.hid hz
        have hne : (cl p (f + k) == z k) = false := by simp [hz]
        clear hz
        go_wp2_with (first | (go_at_call 14; refine (Back_any p (f + k) _).mono ?_; rintro e w' ⟨rfl, rfl⟩; rw [HB.out _ (by omega) (by omega)]) | go_in)
        go_ret
        exact ⟨by rw [agr_no HZ.out hlt]; rfl, rfl⟩
    · obtain rfl : k = len := by omega
      go_wp2
      go_ret
      exact ⟨by rw [HG.out]; rfl, rfl⟩

theorem fits_ok (p f : Int) (b off len cap : Nat) (z : Nat → Bool) (w : World) (h0 : 0 ≤ p) (h1 : p < 4) (h2 : 0 ≤ f) (h3 : f + len ≤ 5184000) (hl : len ≤ 400)
    (hc : ∀ i, i < len → w.cell? ⟨b, off + i, none⟩ = some (.bool (z i))) :
    Calls Try.prog 35 #[.int .i64 p, .int .i64 f, .slice (some ⟨b, off, none⟩) len cap] w fun e w' => e = .returned (.bool (agr p f z len)) ∧ w = w' := by
  have HB := Lib.hid (fun v => back_fit p v h0 h1)
  go_enter Try.func35, Try.ntmps35
  go_wp2
  go_loop [14] (fun v => ∃ k : Nat, k ≤ len ∧ v = .int .i64 k ∧ agr p f z k = true) (fun v => len - (intOf v).toNat)
  case atStart => exact ⟨0, by omega, rfl, rfl⟩
  case round =>
    obtain ⟨k, hk, rfl, hg⟩ := hrel
    have HG := Lib.hid hg
    clear hg
    by_cases hlt : k < len
    · have hck := hc k hlt
      by_cases hz : cl p (f + k) = z k
      · have HZ := Lib.hid hz
        have hne : (cl p (f + k) == z k) = true := by simp [hz]
        clear hz
        go_wp2_with (first | (go_at_call 21; refine (RBack_any p (f + k) _).mono ?_; rintro e w' ⟨rfl, rfl⟩; rw [HB.out _ (by omega) (by omega)]) | go_in)
        go_round
        case rel => exact ⟨k + 1, by omega, by go_num, agr_yes HG.out HZ.out⟩
        case measure => simp [intOf]; omega
      · have HZ := Lib.hid hz
        have hne : (cl p (f + k) == z k) = false := by simp [hz]
        clear hz
        go_wp2_with (first | (go_at_call 21; refine (RBack_any p (f + k) _).mono ?_; rintro e w' ⟨rfl, rfl⟩; rw [HB.out _ (by omega) (by omega)]) | go_in)
        go_ret
        exact ⟨by rw [agr_no HZ.out hlt]; rfl, rfl⟩
    · obtain rfl : k = len := by omega
      go_wp2
      go_ret
      exact ⟨by rw [HG.out]; rfl, rfl⟩


theorem firstP_of {f : Int} {n : Nat} {z : Nat → Bool} {k : Nat} (hk : k < 4) (h : ∀ j : Nat, j < k → agr j f z n = false) (hy : agr k f z n = true) : firstP f n z = ((k : Int), 0) := by
  have h0 := h 0; have h1 := h 1; have h2 := h 2
  match k, hk with
  | 0, _ => unfold firstP; simp at hy; simp [hy]
  | 1, _ => simp at h0 hy; unfold firstP; simp [h0, hy]
  | 2, _ => simp at h0 h1 hy; unfold firstP; simp [h0, h1, hy]
  | 3, _ => simp at h0 h1 h2 hy; unfold firstP; simp [h0, h1, h2, hy]
theorem firstP_no {f : Int} {n : Nat} {z : Nat → Bool} (h : ∀ j : Nat, j < 4 → agr j f z n = false) : firstP f n z = (0, 6) := by
  have h0 := h 0; have h1 := h 1; have h2 := h 2; have h3 := h 3
  simp at h0 h1 h2 h3
  unfold firstP; simp [h0, h1, h2, h3]

theorem Phase_any_nil (f : Int) (cap : Nat) (a : Option Addr) (z : Nat → Bool) (w : World) :
    Calls Try.prog 22 #[.int .i64 f, .slice a 0 cap] w fun e w' => e = .returned (ret2 (phaseR f 0 z)) ∧ w = w' := by
  rw [phase_arg]
  go_enter Try.func22, Try.ntmps22
  go_wp2
  go_ret2
  exact ⟨rfl, rfl⟩

theorem Phase_any (f : Int) (b off len cap : Nat) (z : Nat → Bool) (w : World) (hm : len ≤ 9223372036854775807) (fl : -9223372036854775808 ≤ f) (fu : f ≤ 9223372036854775807)
    (hc : ∀ i, i < len → w.cell? ⟨b, off + i, none⟩ = some (.bool (z i))) :
    Calls Try.prog 22 #[.int .i64 f, .slice (some ⟨b, off, none⟩) len cap] w fun e w' => e = .returned (ret2 (phaseR f len z)) ∧ w = w' := by
  have HC := Lib.hid hc
  clear hc
  by_cases c0 : len = 0
  · subst c0
    exact Phase_any_nil f cap _ z w
  have l0 : ((len : Int) == 0) = false := by simp; omega
  by_cases c1 : 400 < len
  · rw [phase_lim f len z c1]
    have t1 : decide ((400 : Int) < (len : Int)) = true := decide_eq_true (by omega)
    go_enter Try.func22, Try.ntmps22
    go_wp2
    go_ret2
    exact ⟨rfl, rfl⟩
  by_cases c2 : f < 0
  · rw [phase_rng f len z (by omega) (by omega) (by omega)]
    clear c0
    have t2 : decide ((400 : Int) < (len : Int)) = false := decide_eq_false (by omega)
    have t3 : decide (f < 0) = true := decide_eq_true (by omega)
    have t4 : decide (0 ≤ f) = false := decide_eq_false (by omega)
    go_enter Try.func22, Try.ntmps22
    go_wp2
    go_ret2
    exact ⟨rfl, rfl⟩
  by_cases c3 : 5184000 < f
  · rw [phase_rng f len z (by omega) (by omega) (by omega)]
    clear c0
    have t5 : decide ((400 : Int) < (len : Int)) = false := decide_eq_false (by omega)
    have t6 : decide (f < 0) = false := decide_eq_false (by omega)
    have t7 : decide (0 ≤ f) = true := decide_eq_true (by omega)
    have t8 : decide (5184000 < f) = true := decide_eq_true (by omega)
    have t9 : decide (f ≤ 5184000 - (len : Int)) = false := decide_eq_false (by omega)
    go_enter Try.func22, Try.ntmps22
    go_wp2
    go_ret2
    exact ⟨rfl, rfl⟩
  by_cases c4 : 5184000 < f + len
  · rw [phase_rng f len z (by omega) (by omega) (by omega)]
    clear c0
    have t10 : decide ((400 : Int) < (len : Int)) = false := decide_eq_false (by omega)
    have t11 : decide (f < 0) = false := decide_eq_false (by omega)
    have t12 : decide (0 ≤ f) = true := decide_eq_true (by omega)
    have t13 : decide (5184000 < f) = false := decide_eq_false (by omega)
    have t14 : decide (5184000 < f + (len : Int)) = true := decide_eq_true (by omega)
    have t15 : decide (f ≤ 5184000 - (len : Int)) = false := decide_eq_false (by omega)
    go_enter Try.func22, Try.ntmps22
    go_wp2
    go_ret2
    exact ⟨rfl, rfl⟩
  rw [phase_fit f len z (by omega) (by omega) (by omega) (by omega)]
  have t16 : decide ((400 : Int) < (len : Int)) = false := decide_eq_false (by omega)
  have t17 : decide (f < 0) = false := decide_eq_false (by omega)
  have t18 : decide (0 ≤ f) = true := decide_eq_true (by omega)
  have t19 : decide (5184000 < f) = false := decide_eq_false (by omega)
  have t20 : decide (5184000 < f + (len : Int)) = false := decide_eq_false (by omega)
  have t21 : decide (f ≤ 5184000 - (len : Int)) = true := decide_eq_true (by omega)
  clear c0
  go_enter Try.func22, Try.ntmps22
  go_wp2
  go_loop [22] (fun v => ∃ k : Nat, k ≤ 4 ∧ v = .int .i64 k ∧ ∀ j : Nat, j < k → agr j f z len = false) (fun v => 4 - (intOf v).toNat)
  case atStart => exact ⟨0, by omega, rfl, fun j hj => absurd hj (by omega)⟩
  case round =>
    obtain ⟨k, hk, rfl, hg⟩ := hrel
    have HG := Lib.hid hg
    clear hg
    by_cases hlt : k < 4
    · cases hz : agr (k : Int) f z len with
      | false =>
        have HZ := Lib.hid hz
        go_wp2_with (first | (go_at_call 34; refine (agrees_ok (k : Int) f b off len cap z _ (by omega) (by omega) (by omega) (by omega) (by omega) HC.out).mono ?_; rintro e w' ⟨rfl, rfl⟩; rw [HZ.out]) | go_in)
        go_round
        case rel =>
          refine ⟨k + 1, by omega, by go_num, fun j hj => ?_⟩
          by_cases e : j = k
          · subst e; exact HZ.out
          · exact HG.out j (by omega)
        case measure => simp [intOf]; omega
      | true =>
        have HZ := Lib.hid hz
        go_wp2_with (first | (go_at_call 34; refine (agrees_ok (k : Int) f b off len cap z _ (by omega) (by omega) (by omega) (by omega) (by omega) HC.out).mono ?_; rintro e w' ⟨rfl, rfl⟩; rw [HZ.out]) | go_in)
        go_ret2
        exact ⟨by rw [firstP_of hlt HG.out HZ.out]; rfl, rfl⟩
    · obtain rfl : k = 4 := by omega
      go_wp2
      go_ret2
      exact ⟨by rw [firstP_no HG.out]; rfl, rfl⟩

theorem RPhase_any_nil (f : Int) (cap : Nat) (a : Option Addr) (z : Nat → Bool) (w : World) :
    Calls Try.prog 23 #[.int .i64 f, .slice a 0 cap] w fun e w' => e = .returned (ret2 (phaseR f 0 z)) ∧ w = w' := by
  rw [phase_arg]
  go_enter Try.func23, Try.ntmps23
  go_wp2
  go_ret2
  exact ⟨rfl, rfl⟩

theorem RPhase_any (f : Int) (b off len cap : Nat) (z : Nat → Bool) (w : World) (hm : len ≤ 9223372036854775807) (fl : -9223372036854775808 ≤ f) (fu : f ≤ 9223372036854775807)
    (hc : ∀ i, i < len → w.cell? ⟨b, off + i, none⟩ = some (.bool (z i))) :
    Calls Try.prog 23 #[.int .i64 f, .slice (some ⟨b, off, none⟩) len cap] w fun e w' => e = .returned (ret2 (phaseR f len z)) ∧ w = w' := by
  have HC := Lib.hid hc
  clear hc
  by_cases c0 : len = 0
  · subst c0
    exact RPhase_any_nil f cap _ z w
  have l0 : ((len : Int) == 0) = false := by simp; omega
  by_cases c1 : 400 < len
  · rw [phase_lim f len z c1]
    have t22 : decide ((400 : Int) < (len : Int)) = true := decide_eq_true (by omega)
    go_enter Try.func23, Try.ntmps23
    go_wp2
    go_ret2
    exact ⟨rfl, rfl⟩
  by_cases c2 : f < 0
  · rw [phase_rng f len z (by omega) (by omega) (by omega)]
    clear c0
    have t23 : decide ((400 : Int) < (len : Int)) = false := decide_eq_false (by omega)
    have t24 : decide (f < 0) = true := decide_eq_true (by omega)
    have t25 : decide (0 ≤ f) = false := decide_eq_false (by omega)
    go_enter Try.func23, Try.ntmps23
    go_wp2
    go_ret2
    exact ⟨rfl, rfl⟩
  by_cases c3 : 5184000 < f
  · rw [phase_rng f len z (by omega) (by omega) (by omega)]
    clear c0
    have t26 : decide ((400 : Int) < (len : Int)) = false := decide_eq_false (by omega)
    have t27 : decide (f < 0) = false := decide_eq_false (by omega)
    have t28 : decide (0 ≤ f) = true := decide_eq_true (by omega)
    have t29 : decide (5184000 < f) = true := decide_eq_true (by omega)
    have t30 : decide (f ≤ 5184000 - (len : Int)) = false := decide_eq_false (by omega)
    go_enter Try.func23, Try.ntmps23
    go_wp2
    go_ret2
    exact ⟨rfl, rfl⟩
  by_cases c4 : 5184000 < f + len
  · rw [phase_rng f len z (by omega) (by omega) (by omega)]
    clear c0
    have t31 : decide ((400 : Int) < (len : Int)) = false := decide_eq_false (by omega)
    have t32 : decide (f < 0) = false := decide_eq_false (by omega)
    have t33 : decide (0 ≤ f) = true := decide_eq_true (by omega)
    have t34 : decide (5184000 < f) = false := decide_eq_false (by omega)
    have t35 : decide (5184000 < f + (len : Int)) = true := decide_eq_true (by omega)
    have t36 : decide (f ≤ 5184000 - (len : Int)) = false := decide_eq_false (by omega)
    go_enter Try.func23, Try.ntmps23
    go_wp2
    go_ret2
    exact ⟨rfl, rfl⟩
  rw [phase_fit f len z (by omega) (by omega) (by omega) (by omega)]
  have t37 : decide ((400 : Int) < (len : Int)) = false := decide_eq_false (by omega)
  have t38 : decide (f < 0) = false := decide_eq_false (by omega)
  have t39 : decide (0 ≤ f) = true := decide_eq_true (by omega)
  have t40 : decide (5184000 < f) = false := decide_eq_false (by omega)
  have t41 : decide (5184000 < f + (len : Int)) = false := decide_eq_false (by omega)
  have t42 : decide (f ≤ 5184000 - (len : Int)) = true := decide_eq_true (by omega)
  clear c0
  go_enter Try.func23, Try.ntmps23
  go_wp2
  go_loop [6] (fun v => ∃ k : Nat, k ≤ 4 ∧ v = .int .i64 k ∧ ∀ j : Nat, j < k → agr j f z len = false) (fun v => 4 - (intOf v).toNat)
  case atStart => exact ⟨0, by omega, rfl, fun j hj => absurd hj (by omega)⟩
  case round =>
    obtain ⟨k, hk, rfl, hg⟩ := hrel
    have HG := Lib.hid hg
    clear hg
    by_cases hlt : k < 4
    · cases hz : agr (k : Int) f z len with
      | false =>
        have HZ := Lib.hid hz
        go_wp2_with (first | (go_at_call 35; refine (fits_ok (k : Int) f b off len cap z _ (by omega) (by omega) (by omega) (by omega) (by omega) HC.out).mono ?_; rintro e w' ⟨rfl, rfl⟩; rw [HZ.out]) | go_in)
        go_round
        case rel =>
          refine ⟨k + 1, by omega, by go_num, fun j hj => ?_⟩
          by_cases e : j = k
          · subst e; exact HZ.out
          · exact HG.out j (by omega)
        case measure => simp [intOf]; omega
      | true =>
        have HZ := Lib.hid hz
        go_wp2_with (first | (go_at_call 35; refine (fits_ok (k : Int) f b off len cap z _ (by omega) (by omega) (by omega) (by omega) (by omega) HC.out).mono ?_; rintro e w' ⟨rfl, rfl⟩; rw [HZ.out]) | go_in)
        go_ret2
        exact ⟨by rw [firstP_of hlt HG.out HZ.out]; rfl, rfl⟩
    · obtain rfl : k = 4 := by omega
      go_wp2
      go_ret2
      exact ⟨by rw [firstP_no HG.out]; rfl, rfl⟩

end Go.Proofs.Ytbdbohjpicpbcaa.Pc
