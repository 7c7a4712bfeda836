/- Contracts of layer 4 (pulldown) and of its reference: what each function returns, in integers. No condition but those that each theorem names. -/
import Derived.Test.YtbdbohjpicpbcaaChecked
import Derived.Test.YtbdbohjpicpbcaaPull
import Derived.Test.YtbdbohjpicpbcaaBase
import Derived.Test.YtbdbohjpicpbcaaPc
namespace Go.Proofs.Ytbdbohjpicpbcaa.Pc
open Go.RowKit Pu Ba
set_option linter.unusedVariables false
set_option linter.unusedSimpArgs false

/-! ### seen, Film -/
theorem seen_ok (p f : Int) (w : World) (h0 : 0 ≤ p) (h1 : p < 4) (h2 : 0 ≤ f) (h3 : f ≤ 10368000) :
    Calls Try.prog 32 #[.int .i64 p, .int .i64 f] w fun e w' => e = .returned (.int .i64 (sn p f)) ∧ w = w' := by
  by_cases c : 2 + (1 + p % 2) / 2 ≤ f % 5
  · have hs : sn p f = 2 * (f / 5) + 1 := by unfold sn; rw [if_pos c]
    rw [hs]
    clear hs
    go_enter Try.func32, Try.ntmps32
    go_wp2
    go_ret
    exact ⟨rfl, rfl⟩
  · have hs : sn p f = 2 * (f / 5) := by unfold sn; rw [if_neg c]; omega
    rw [hs]
    clear hs
    go_enter Try.func32, Try.ntmps32
    go_wp2
    go_ret
    exact ⟨rfl, rfl⟩

def filmR (p f : Int) : Int × Int := if p < 0 ∨ 4 ≤ p then (0, 1) else if f < 0 ∨ 10368000 < f then (0, 2) else (sn p f, 0)
theorem film_arg (p n : Int) (h : p < 0 ∨ 4 ≤ p) : filmR p n = (0, 1) := by unfold filmR; rw [if_pos h]
theorem film_rng (p n : Int) (h0 : 0 ≤ p) (h1 : p < 4) (h : n < 0 ∨ 10368000 < n) : filmR p n = (0, 2) := by unfold filmR; rw [if_neg (by omega), if_pos h]
theorem film_fit (p n : Int) (h0 : 0 ≤ p) (h1 : p < 4) (h2 : 0 ≤ n) (h3 : n ≤ 10368000) : filmR p n = (sn p n, 0) := by unfold filmR; rw [if_neg (by omega), if_neg (by omega)]

theorem Film_any (p f : Int) (w : World) :
    Calls Try.prog 19 #[.int .i64 p, .int .i64 f] w fun e w' => e = .returned (ret2 (filmR p f)) ∧ w = w' := by
  by_cases c1 : p < 0
  · rw [film_arg p f (by omega)]
    have t1 : decide (0 ≤ p) = false := decide_eq_false (by omega)
    go_enter Try.func19, Try.ntmps19
    go_wp2
    go_ret2
    exact ⟨rfl, rfl⟩
  by_cases c2 : 4 ≤ p
  · rw [film_arg p f (by omega)]
    have t2 : decide (0 ≤ p) = true := decide_eq_true (by omega)
    have t3 : decide (p < 4) = false := decide_eq_false (by omega)
    go_enter Try.func19, Try.ntmps19
    go_wp2
    go_ret2
    exact ⟨rfl, rfl⟩
  by_cases c4 : f < 0
  · rw [film_rng p f (by omega) (by omega) (by omega)]
    have t4 : decide (0 ≤ p) = true := decide_eq_true (by omega)
    have t5 : decide (p < 4) = true := decide_eq_true (by omega)
    have t6 : decide (0 ≤ f) = false := decide_eq_false (by omega)
    have t7 : decide (f < 0) = true := decide_eq_true (by omega)
    go_enter Try.func19, Try.ntmps19
    go_wp2
    go_ret2
    exact ⟨rfl, rfl⟩
  by_cases c5 : 10368000 < f
  · rw [film_rng p f (by omega) (by omega) (by omega)]
    have t8 : decide (0 ≤ p) = true := decide_eq_true (by omega)
    have t9 : decide (p < 4) = true := decide_eq_true (by omega)
    have t10 : decide (0 ≤ f) = true := decide_eq_true (by omega)
    have t11 : decide (f ≤ 10368000) = false := decide_eq_false (by omega)
    have t12 : decide (f < 0) = false := decide_eq_false (by omega)
    have t13 : decide (10368000 < f) = true := decide_eq_true (by omega)
    go_enter Try.func19, Try.ntmps19
    go_wp2
    go_ret2
    exact ⟨rfl, rfl⟩
  rw [film_fit p f (by omega) (by omega) (by omega) (by omega)]
  have t14 : decide (0 ≤ p) = true := decide_eq_true (by omega)
  have t15 : decide (p < 4) = true := decide_eq_true (by omega)
  have t16 : decide (0 ≤ f) = true := decide_eq_true (by omega)
  have t17 : decide (f ≤ 10368000) = true := decide_eq_true (by omega)
  have t18 : decide (f < 0) = false := decide_eq_false (by omega)
  have t19 : decide (10368000 < f) = false := decide_eq_false (by omega)
  go_enter Try.func19, Try.ntmps19

  go_wp2_with (first | (go_at_call 32; refine (seen_ok p f _ (by omega) (by omega) (by omega) (by omega)).mono ?_; rintro e w' ⟨rfl, rfl⟩) | go_in)
  go_ret2
  exact ⟨rfl, rfl⟩

theorem RFilm_any (p f : Int) (w : World) :
    Calls Try.prog 20 #[.int .i64 p, .int .i64 f] w fun e w' => e = .returned (ret2 (filmR p f)) ∧ w = w' := by
  by_cases c1 : p < 0
  · rw [film_arg p f (by omega)]
    have t20 : decide (0 ≤ p) = false := decide_eq_false (by omega)
    go_enter Try.func20, Try.ntmps20
    go_wp2
    go_ret2
    exact ⟨rfl, rfl⟩
  by_cases c2 : 4 ≤ p
  · rw [film_arg p f (by omega)]
    have t21 : decide (0 ≤ p) = true := decide_eq_true (by omega)
    have t22 : decide (p < 4) = false := decide_eq_false (by omega)
    go_enter Try.func20, Try.ntmps20
    go_wp2
    go_ret2
    exact ⟨rfl, rfl⟩
  by_cases c4 : f < 0
  · rw [film_rng p f (by omega) (by omega) (by omega)]
    have t23 : decide (0 ≤ p) = true := decide_eq_true (by omega)
    have t24 : decide (p < 4) = true := decide_eq_true (by omega)
    have t25 : decide (0 ≤ f) = false := decide_eq_false (by omega)
    have t26 : decide (f < 0) = true := decide_eq_true (by omega)
    go_enter Try.func20, Try.ntmps20
    go_wp2
    go_ret2
    exact ⟨rfl, rfl⟩
  by_cases c5 : 10368000 < f
  · rw [film_rng p f (by omega) (by omega) (by omega)]
    have t27 : decide (0 ≤ p) = true := decide_eq_true (by omega)
    have t28 : decide (p < 4) = true := decide_eq_true (by omega)
    have t29 : decide (0 ≤ f) = true := decide_eq_true (by omega)
    have t30 : decide (f ≤ 10368000) = false := decide_eq_false (by omega)
    have t31 : decide (f < 0) = false := decide_eq_false (by omega)
    have t32 : decide (10368000 < f) = true := decide_eq_true (by omega)
    go_enter Try.func20, Try.ntmps20
    go_wp2
    go_ret2
    exact ⟨rfl, rfl⟩
  rw [film_fit p f (by omega) (by omega) (by omega) (by omega)]
  have t33 : decide (0 ≤ p) = true := decide_eq_true (by omega)
  have t34 : decide (p < 4) = true := decide_eq_true (by omega)
  have t35 : decide (0 ≤ f) = true := decide_eq_true (by omega)
  have t36 : decide (f ≤ 10368000) = true := decide_eq_true (by omega)
  have t37 : decide (f < 0) = false := decide_eq_false (by omega)
  have t38 : decide (10368000 < f) = false := decide_eq_false (by omega)
  go_enter Try.func20, Try.ntmps20

  have hs := sn_of p f
  have HS : Hid (∀ n : Int, fld p n ≤ f → f < fld p (n + 1) → sn p f = n) := hs
  clear hs
  have hq : ∀ k : Int, fld p k ≤ f → k ≤ 4147200 := fun k h => by unfold fld at h; omega
  have HQ := Lib.hid hq
  clear hq
  go_wp2
  go_loop [6] (fun v => ∃ k : Int, 0 ≤ k ∧ fld p k ≤ f ∧ v = .int .i64 k) (fun v => (intOf v).toNat)
  case atStart => exact ⟨_, by omega, by unfold fld; omega, rfl⟩
  case round =>
    obtain ⟨k, k0, k2, rfl⟩ := hrel
    have k1 := HQ.out k k2
    have hb2 := fld_bd p k (by omega) (by omega)
    have hk : decide (f < fld p k) = false := decide_eq_false (by omega)
    by_cases kz : k = 0
    all_goals
      first | (have kp : decide (0 < k) = false := decide_eq_false (by omega)) | (have kp : decide (0 < k) = true := decide_eq_true (by omega))
      clear kz
      go_wp2_with (go_at_call 31; refine (field_ok p k _ (by omega) (by omega) (by omega) (by omega)).mono ?_; rintro e w' ⟨rfl, rfl⟩)
      clear kp hk hb2
      go_loop [6] (fun v => ∃ k : Int, 0 ≤ k ∧ fld p k ≤ f ∧ v = .int .i64 k) (fun v => 4147201 - (intOf v).toNat)
      case atStart => exact ⟨k, by omega, by omega, rfl⟩
      case round =>
        obtain ⟨j, j0, j2, rfl⟩ := hrel
        have j1 := HQ.out j j2
        by_cases hk : fld p (j + 1) ≤ f
        · have k3 := HQ.out (j + 1) hk
          go_wp2_with (go_at_call 31; refine (field_ok p (j + 1) _ (by omega) (by omega) (by omega) (by omega)).mono ?_; rintro e w' ⟨rfl, rfl⟩)
          go_round
          case rel => exact ⟨j + 1, by omega, hk, rfl⟩
          case measure => simp [intOf]; omega
        · have hk2 : decide (fld p (j + 1) ≤ f) = false := decide_eq_false hk
          go_wp2_with (go_at_call 31; refine (field_ok p (j + 1) _ (by omega) (by omega) (by omega) (by omega)).mono ?_; rintro e w' ⟨rfl, rfl⟩)
          go_ret2
          exact ⟨by rw [HS.out j j2 (by omega)]; rfl, rfl⟩
end Go.Proofs.Ytbdbohjpicpbcaa.Pc
