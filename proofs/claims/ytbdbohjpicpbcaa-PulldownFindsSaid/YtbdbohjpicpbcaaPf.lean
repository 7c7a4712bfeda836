/- Contracts of layer 4 (pulldown) and of its reference: what each function returns, in integers. No condition but those that each theorem names. -/
import Derived.Test.YtbdbohjpicpbcaaChecked
import Derived.Test.YtbdbohjpicpbcaaPull
import Derived.Test.YtbdbohjpicpbcaaBase
import Derived.Test.YtbdbohjpicpbcaaPe
namespace Go.Proofs.Ytbdbohjpicpbcaa.Pc
open Go.RowKit Pu Ba
set_option linter.unusedVariables false
set_option linter.unusedSimpArgs false

/-! ### Back -/
def backR (p v : Int) : Int × Bool × Int := if p < 0 ∨ 4 ≤ p then (0, false, 1) else if v < 0 ∨ 5183999 < v then (0, false, 2) else (sn p (2 * v), cl p v, 0)
theorem back_arg (p n : Int) (h : p < 0 ∨ 4 ≤ p) : backR p n = (0, false, 1) := by unfold backR; rw [if_pos h]
theorem back_rng (p n : Int) (h0 : 0 ≤ p) (h1 : p < 4) (h : n < 0 ∨ 5183999 < n) : backR p n = (0, false, 2) := by unfold backR; rw [if_neg (by omega), if_pos h]
theorem back_fit (p n : Int) (h0 : 0 ≤ p) (h1 : p < 4) (h2 : 0 ≤ n) (h3 : n ≤ 5183999) : backR p n = (sn p (2 * n), cl p n, 0) := by unfold backR; rw [if_neg (by omega), if_neg (by omega)]

theorem Back_any (p v : Int) (w : World) :
    Calls Try.prog 14 #[.int .i64 p, .int .i64 v] w fun e w' => e = .returned (ret2b (backR p v)) ∧ w = w' := by
  by_cases c1 : p < 0
  · rw [back_arg p v (by omega)]
    have t1 : decide (0 ≤ p) = false := decide_eq_false (by omega)
    go_enter Try.func14, Try.ntmps14
    go_wp2
    go_ret3
    exact ⟨rfl, rfl⟩
  by_cases c2 : 4 ≤ p
  · rw [back_arg p v (by omega)]
    have t2 : decide (0 ≤ p) = true := decide_eq_true (by omega)
    have t3 : decide (p < 4) = false := decide_eq_false (by omega)
    go_enter Try.func14, Try.ntmps14
    go_wp2
    go_ret3
    exact ⟨rfl, rfl⟩
  by_cases c4 : v < 0
  · rw [back_rng p v (by omega) (by omega) (by omega)]
    have t4 : decide (0 ≤ p) = true := decide_eq_true (by omega)
    have t5 : decide (p < 4) = true := decide_eq_true (by omega)
    have t6 : decide (0 ≤ v) = false := decide_eq_false (by omega)
    have t7 : decide (v < 0) = true := decide_eq_true (by omega)
    go_enter Try.func14, Try.ntmps14
    go_wp2
    go_ret3
    exact ⟨rfl, rfl⟩
  by_cases c5 : 5183999 < v
  · rw [back_rng p v (by omega) (by omega) (by omega)]
    have t8 : decide (0 ≤ p) = true := decide_eq_true (by omega)
    have t9 : decide (p < 4) = true := decide_eq_true (by omega)
    have t10 : decide (0 ≤ v) = true := decide_eq_true (by omega)
    have t11 : decide (v ≤ 5183999) = false := decide_eq_false (by omega)
    have t12 : decide (v < 0) = false := decide_eq_false (by omega)
    have t13 : decide (5183999 < v) = true := decide_eq_true (by omega)
    go_enter Try.func14, Try.ntmps14
    go_wp2
    go_ret3
    exact ⟨rfl, rfl⟩
  rw [back_fit p v (by omega) (by omega) (by omega) (by omega)]
  have t14 : decide (0 ≤ p) = true := decide_eq_true (by omega)
  have t15 : decide (p < 4) = true := decide_eq_true (by omega)
  have t16 : decide (0 ≤ v) = true := decide_eq_true (by omega)
  have t17 : decide (v ≤ 5183999) = true := decide_eq_true (by omega)
  have t18 : decide (v < 0) = false := decide_eq_false (by omega)
  have t19 : decide (5183999 < v) = false := decide_eq_false (by omega)

  go_enter Try.func14, Try.ntmps14
  go_wp2_with (first | (go_at_call 32; refine (seen_ok p _ _ (by omega) (by omega) (by omega) (by omega)).mono ?_; rintro e w' ⟨rfl, rfl⟩) | go_in)
  go_ret3
  exact ⟨rfl, rfl⟩

theorem RBack_any (p v : Int) (w : World) :
    Calls Try.prog 21 #[.int .i64 p, .int .i64 v] w fun e w' => e = .returned (ret2b (backR p v)) ∧ w = w' := by
  by_cases c1 : p < 0
  · rw [back_arg p v (by omega)]
    have t20 : decide (0 ≤ p) = false := decide_eq_false (by omega)
    go_enter Try.func21, Try.ntmps21
    go_wp2
    go_ret3
    exact ⟨rfl, rfl⟩
  by_cases c2 : 4 ≤ p
  · rw [back_arg p v (by omega)]
    have t21 : decide (0 ≤ p) = true := decide_eq_true (by omega)
    have t22 : decide (p < 4) = false := decide_eq_false (by omega)
    go_enter Try.func21, Try.ntmps21
    go_wp2
    go_ret3
    exact ⟨rfl, rfl⟩
  by_cases c4 : v < 0
  · rw [back_rng p v (by omega) (by omega) (by omega)]
    have t23 : decide (0 ≤ p) = true := decide_eq_true (by omega)
    have t24 : decide (p < 4) = true := decide_eq_true (by omega)
    have t25 : decide (0 ≤ v) = false := decide_eq_false (by omega)
    have t26 : decide (v < 0) = true := decide_eq_true (by omega)
    go_enter Try.func21, Try.ntmps21
    go_wp2
    go_ret3
    exact ⟨rfl, rfl⟩
  by_cases c5 : 5183999 < v
  · rw [back_rng p v (by omega) (by omega) (by omega)]
    have t27 : decide (0 ≤ p) = true := decide_eq_true (by omega)
    have t28 : decide (p < 4) = true := decide_eq_true (by omega)
    have t29 : decide (0 ≤ v) = true := decide_eq_true (by omega)
    have t30 : decide (v ≤ 5183999) = false := decide_eq_false (by omega)
    have t31 : decide (v < 0) = false := decide_eq_false (by omega)
    have t32 : decide (5183999 < v) = true := decide_eq_true (by omega)
    go_enter Try.func21, Try.ntmps21
    go_wp2
    go_ret3
    exact ⟨rfl, rfl⟩
  rw [back_fit p v (by omega) (by omega) (by omega) (by omega)]
  have t33 : decide (0 ≤ p) = true := decide_eq_true (by omega)
  have t34 : decide (p < 4) = true := decide_eq_true (by omega)
  have t35 : decide (0 ≤ v) = true := decide_eq_true (by omega)
  have t36 : decide (v ≤ 5183999) = true := decide_eq_true (by omega)
  have t37 : decide (v < 0) = false := decide_eq_false (by omega)
  have t38 : decide (5183999 < v) = false := decide_eq_false (by omega)

  have f0 := film_fit p (2 * v) (by omega) (by omega) (by omega) (by omega)
  have f1 := film_fit p (2 * v + 1) (by omega) (by omega) (by omega) (by omega)
  have F0 := Lib.hid f0
  have F1 := Lib.hid f1
  clear f0 f1
  go_enter Try.func21, Try.ntmps21
  go_wp2_with (first | (go_at_call 20; refine (RFilm_any p _ _).mono ?_; rintro e w' ⟨rfl, rfl⟩; first | rw [F0.out] | rw [F1.out]) | go_in)
  go_ret3
  exact ⟨by rw [← cl_comm]; rfl, rfl⟩
end Go.Proofs.Ytbdbohjpicpbcaa.Pc
