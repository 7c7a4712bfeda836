/- Contracts of layer 4 (pulldown) and of its reference: what each function returns, in integers. No condition but those that each theorem names. -/
import Derived.Test.YtbdbohjpicpbcaaChecked
import Derived.Test.YtbdbohjpicpbcaaPull
import Derived.Test.YtbdbohjpicpbcaaBase
import Derived.Test.YtbdbohjpicpbcaaPc
namespace Go.Proofs.Ytbdbohjpicpbcaa.Pc
open Go.RowKit Pu Ba
set_option linter.unusedVariables false
set_option linter.unusedSimpArgs false

/-! ### Field, Fields -/
def fieldR (p n : Int) : Int × Int := if p < 0 ∨ 4 ≤ p then (0, 1) else if n < 0 ∨ 5184000 < n then (0, 2) else (fld p n, 0)
theorem field_arg (p n : Int) (h : p < 0 ∨ 4 ≤ p) : fieldR p n = (0, 1) := by unfold fieldR; rw [if_pos h]
theorem field_rng (p n : Int) (h0 : 0 ≤ p) (h1 : p < 4) (h : n < 0 ∨ 5184000 < n) : fieldR p n = (0, 2) := by unfold fieldR; rw [if_neg (by omega), if_pos h]
theorem field_fit (p n : Int) (h0 : 0 ≤ p) (h1 : p < 4) (h2 : 0 ≤ n) (h3 : n ≤ 5184000) : fieldR p n = (fld p n, 0) := by unfold fieldR; rw [if_neg (by omega), if_neg (by omega)]
def fieldsR (p n : Int) : Int × Int × Int := if p < 0 ∨ 4 ≤ p then (0, 0, 1) else if n < 0 ∨ 5184000 < n then (0, 0, 2) else (fld p n, fld p (n + 1), 0)
theorem fields_arg (p n : Int) (h : p < 0 ∨ 4 ≤ p) : fieldsR p n = (0, 0, 1) := by unfold fieldsR; rw [if_pos h]
theorem fields_rng (p n : Int) (h0 : 0 ≤ p) (h1 : p < 4) (h : n < 0 ∨ 5184000 < n) : fieldsR p n = (0, 0, 2) := by unfold fieldsR; rw [if_neg (by omega), if_pos h]
theorem fields_fit (p n : Int) (h0 : 0 ≤ p) (h1 : p < 4) (h2 : 0 ≤ n) (h3 : n ≤ 5184000) : fieldsR p n = (fld p n, fld p (n + 1), 0) := by unfold fieldsR; rw [if_neg (by omega), if_neg (by omega)]

theorem Field_any (p n : Int) (w : World) :
    Calls Try.prog 15 #[.int .i64 p, .int .i64 n] w fun e w' => e = .returned (ret2 (fieldR p n)) ∧ w = w' := by
  by_cases c1 : p < 0
  · rw [field_arg p n (by omega)]
    have t1 : decide (0 ≤ p) = false := decide_eq_false (by omega)
    go_enter Try.func15, Try.ntmps15
    go_wp2
    go_ret2
    exact ⟨rfl, rfl⟩
  by_cases c2 : 4 ≤ p
  · rw [field_arg p n (by omega)]
    have t2 : decide (0 ≤ p) = true := decide_eq_true (by omega)
    have t3 : decide (p < 4) = false := decide_eq_false (by omega)
    go_enter Try.func15, Try.ntmps15
    go_wp2
    go_ret2
    exact ⟨rfl, rfl⟩
  by_cases c4 : n < 0
  · rw [field_rng p n (by omega) (by omega) (by omega)]
    have t4 : decide (0 ≤ p) = true := decide_eq_true (by omega)
    have t5 : decide (p < 4) = true := decide_eq_true (by omega)
    have t6 : decide (0 ≤ n) = false := decide_eq_false (by omega)
    have t7 : decide (n < 0) = true := decide_eq_true (by omega)
    go_enter Try.func15, Try.ntmps15
    go_wp2
    go_ret2
    exact ⟨rfl, rfl⟩
  by_cases c5 : 5184000 < n
  · rw [field_rng p n (by omega) (by omega) (by omega)]
    have t8 : decide (0 ≤ p) = true := decide_eq_true (by omega)
    have t9 : decide (p < 4) = true := decide_eq_true (by omega)
    have t10 : decide (0 ≤ n) = true := decide_eq_true (by omega)
    have t11 : decide (n ≤ 5184000) = false := decide_eq_false (by omega)
    have t12 : decide (n < 0) = false := decide_eq_false (by omega)
    have t13 : decide (5184000 < n) = true := decide_eq_true (by omega)
    go_enter Try.func15, Try.ntmps15
    go_wp2
    go_ret2
    exact ⟨rfl, rfl⟩
  rw [field_fit p n (by omega) (by omega) (by omega) (by omega)]
  have t14 : decide (0 ≤ p) = true := decide_eq_true (by omega)
  have t15 : decide (p < 4) = true := decide_eq_true (by omega)
  have t16 : decide (0 ≤ n) = true := decide_eq_true (by omega)
  have t17 : decide (n ≤ 5184000) = true := decide_eq_true (by omega)
  have t18 : decide (n < 0) = false := decide_eq_false (by omega)
  have t19 : decide (5184000 < n) = false := decide_eq_false (by omega)
  go_enter Try.func15, Try.ntmps15
  go_wp2_with (first | (go_at_call 28; refine (begin_ok p n _ (by omega) (by omega) (by omega) (by omega)).mono ?_; rintro e w' ⟨rfl, rfl⟩) | go_in)
  go_ret2
  exact ⟨rfl, rfl⟩

theorem RField_any (p n : Int) (w : World) :
    Calls Try.prog 16 #[.int .i64 p, .int .i64 n] w fun e w' => e = .returned (ret2 (fieldR p n)) ∧ w = w' := by
  by_cases c1 : p < 0
  · rw [field_arg p n (by omega)]
    have t20 : decide (0 ≤ p) = false := decide_eq_false (by omega)
    go_enter Try.func16, Try.ntmps16
    go_wp2
    go_ret2
    exact ⟨rfl, rfl⟩
  by_cases c2 : 4 ≤ p
  · rw [field_arg p n (by omega)]
    have t21 : decide (0 ≤ p) = true := decide_eq_true (by omega)
    have t22 : decide (p < 4) = false := decide_eq_false (by omega)
    go_enter Try.func16, Try.ntmps16
    go_wp2
    go_ret2
    exact ⟨rfl, rfl⟩
  by_cases c4 : n < 0
  · rw [field_rng p n (by omega) (by omega) (by omega)]
    have t23 : decide (0 ≤ p) = true := decide_eq_true (by omega)
    have t24 : decide (p < 4) = true := decide_eq_true (by omega)
    have t25 : decide (0 ≤ n) = false := decide_eq_false (by omega)
    have t26 : decide (n < 0) = true := decide_eq_true (by omega)
    go_enter Try.func16, Try.ntmps16
    go_wp2
    go_ret2
    exact ⟨rfl, rfl⟩
  by_cases c5 : 5184000 < n
  · rw [field_rng p n (by omega) (by omega) (by omega)]
    have t27 : decide (0 ≤ p) = true := decide_eq_true (by omega)
    have t28 : decide (p < 4) = true := decide_eq_true (by omega)
    have t29 : decide (0 ≤ n) = true := decide_eq_true (by omega)
    have t30 : decide (n ≤ 5184000) = false := decide_eq_false (by omega)
    have t31 : decide (n < 0) = false := decide_eq_false (by omega)
    have t32 : decide (5184000 < n) = true := decide_eq_true (by omega)
    go_enter Try.func16, Try.ntmps16
    go_wp2
    go_ret2
    exact ⟨rfl, rfl⟩
  rw [field_fit p n (by omega) (by omega) (by omega) (by omega)]
  have t33 : decide (0 ≤ p) = true := decide_eq_true (by omega)
  have t34 : decide (p < 4) = true := decide_eq_true (by omega)
  have t35 : decide (0 ≤ n) = true := decide_eq_true (by omega)
  have t36 : decide (n ≤ 5184000) = true := decide_eq_true (by omega)
  have t37 : decide (n < 0) = false := decide_eq_false (by omega)
  have t38 : decide (5184000 < n) = false := decide_eq_false (by omega)
  go_enter Try.func16, Try.ntmps16
  go_wp2_with (first | (go_at_call 31; refine (field_ok p n _ (by omega) (by omega) (by omega) (by omega)).mono ?_; rintro e w' ⟨rfl, rfl⟩) | go_in)
  go_ret2
  exact ⟨rfl, rfl⟩


theorem Fields_any (p n : Int) (w : World) :
    Calls Try.prog 17 #[.int .i64 p, .int .i64 n] w fun e w' => e = .returned (ret3 (fieldsR p n)) ∧ Below w.heap.size w w' := by
  by_cases c1 : p < 0
  · rw [fields_arg p n (by omega)]
    have t39 : decide (0 ≤ p) = false := decide_eq_false (by omega)
    go_enter Try.func17, Try.ntmps17
    go_wp2
    refine bodyPost_ret (v := ret3 (0, 0, 1)) (by simp [results, Try.results17, go_sem, ret3, ret2b]) rfl ⟨rfl, ?_⟩
    (repeat (first | exact Below.refl _ _ | assumption | refine Ba.below_step (by assumption) (by first | exact Nat.le_refl _ | (simp; done) | (simp; omega) | omega) ?_ | apply Below.drew | apply Ba.below_drewN | refine Below.alloc ?_ (by first | exact Nat.le_refl _ | (simp; done) | (simp; omega)) _ | refine Below.setCell ?_ (by first | exact Nat.le_refl _ | (simp; done) | (simp; omega)) _))
  by_cases c2 : 4 ≤ p
  · rw [fields_arg p n (by omega)]
    have t40 : decide (0 ≤ p) = true := decide_eq_true (by omega)
    have t41 : decide (p < 4) = false := decide_eq_false (by omega)
    go_enter Try.func17, Try.ntmps17
    go_wp2
    refine bodyPost_ret (v := ret3 (0, 0, 1)) (by simp [results, Try.results17, go_sem, ret3, ret2b]) rfl ⟨rfl, ?_⟩
    (repeat (first | exact Below.refl _ _ | assumption | refine Ba.below_step (by assumption) (by first | exact Nat.le_refl _ | (simp; done) | (simp; omega) | omega) ?_ | apply Below.drew | apply Ba.below_drewN | refine Below.alloc ?_ (by first | exact Nat.le_refl _ | (simp; done) | (simp; omega)) _ | refine Below.setCell ?_ (by first | exact Nat.le_refl _ | (simp; done) | (simp; omega)) _))
  by_cases c4 : n < 0
  · rw [fields_rng p n (by omega) (by omega) (by omega)]
    have t42 : decide (0 ≤ p) = true := decide_eq_true (by omega)
    have t43 : decide (p < 4) = true := decide_eq_true (by omega)
    have t44 : decide (0 ≤ n) = false := decide_eq_false (by omega)
    have t45 : decide (n < 0) = true := decide_eq_true (by omega)
    go_enter Try.func17, Try.ntmps17
    go_wp2
    refine bodyPost_ret (v := ret3 (0, 0, 2)) (by simp [results, Try.results17, go_sem, ret3, ret2b]) rfl ⟨rfl, ?_⟩
    (repeat (first | exact Below.refl _ _ | assumption | refine Ba.below_step (by assumption) (by first | exact Nat.le_refl _ | (simp; done) | (simp; omega) | omega) ?_ | apply Below.drew | apply Ba.below_drewN | refine Below.alloc ?_ (by first | exact Nat.le_refl _ | (simp; done) | (simp; omega)) _ | refine Below.setCell ?_ (by first | exact Nat.le_refl _ | (simp; done) | (simp; omega)) _))
  by_cases c5 : 5184000 < n
  · rw [fields_rng p n (by omega) (by omega) (by omega)]
    have t46 : decide (0 ≤ p) = true := decide_eq_true (by omega)
    have t47 : decide (p < 4) = true := decide_eq_true (by omega)
    have t48 : decide (0 ≤ n) = true := decide_eq_true (by omega)
    have t49 : decide (n ≤ 5184000) = false := decide_eq_false (by omega)
    have t50 : decide (n < 0) = false := decide_eq_false (by omega)
    have t51 : decide (5184000 < n) = true := decide_eq_true (by omega)
    go_enter Try.func17, Try.ntmps17
    go_wp2
    refine bodyPost_ret (v := ret3 (0, 0, 2)) (by simp [results, Try.results17, go_sem, ret3, ret2b]) rfl ⟨rfl, ?_⟩
    (repeat (first | exact Below.refl _ _ | assumption | refine Ba.below_step (by assumption) (by first | exact Nat.le_refl _ | (simp; done) | (simp; omega) | omega) ?_ | apply Below.drew | apply Ba.below_drewN | refine Below.alloc ?_ (by first | exact Nat.le_refl _ | (simp; done) | (simp; omega)) _ | refine Below.setCell ?_ (by first | exact Nat.le_refl _ | (simp; done) | (simp; omega)) _))
  rw [fields_fit p n (by omega) (by omega) (by omega) (by omega)]
  have t52 : decide (0 ≤ p) = true := decide_eq_true (by omega)
  have t53 : decide (p < 4) = true := decide_eq_true (by omega)
  have t54 : decide (0 ≤ n) = true := decide_eq_true (by omega)
  have t55 : decide (n ≤ 5184000) = true := decide_eq_true (by omega)
  have t56 : decide (n < 0) = false := decide_eq_false (by omega)
  have t57 : decide (5184000 < n) = false := decide_eq_false (by omega)
  go_enter Try.func17, Try.ntmps17
  go_wp2_with (first | (go_at_call 28; refine (begin_ok p _ _ (by omega) (by omega) (by omega) (by omega)).mono ?_; rintro e w' ⟨rfl, rfl⟩) | go_in)
  refine bodyPost_ret (v := ret3 (fld p n, fld p (n + 1), 0)) (by simp [results, Try.results17, go_sem, ret3, ret2b]) rfl ⟨rfl, ?_⟩
  (repeat (first | exact Below.refl _ _ | assumption | refine Ba.below_step (by assumption) (by first | exact Nat.le_refl _ | (simp; done) | (simp; omega) | omega) ?_ | apply Below.drew | apply Ba.below_drewN | refine Below.alloc ?_ (by first | exact Nat.le_refl _ | (simp; done) | (simp; omega)) _ | refine Below.setCell ?_ (by first | exact Nat.le_refl _ | (simp; done) | (simp; omega)) _))

theorem RFields_any (p n : Int) (w : World) :
    Calls Try.prog 18 #[.int .i64 p, .int .i64 n] w fun e w' => e = .returned (ret3 (fieldsR p n)) ∧ Below w.heap.size w w' := by
  by_cases c1 : p < 0
  · rw [fields_arg p n (by omega)]
    have t58 : decide (0 ≤ p) = false := decide_eq_false (by omega)
    go_enter Try.func18, Try.ntmps18
    go_wp2
    refine bodyPost_ret (v := ret3 (0, 0, 1)) (by simp [results, Try.results18, go_sem, ret3, ret2b]) rfl ⟨rfl, ?_⟩
    (repeat (first | exact Below.refl _ _ | assumption | refine Ba.below_step (by assumption) (by first | exact Nat.le_refl _ | (simp; done) | (simp; omega) | omega) ?_ | apply Below.drew | apply Ba.below_drewN | refine Below.alloc ?_ (by first | exact Nat.le_refl _ | (simp; done) | (simp; omega)) _ | refine Below.setCell ?_ (by first | exact Nat.le_refl _ | (simp; done) | (simp; omega)) _))
  by_cases c2 : 4 ≤ p
  · rw [fields_arg p n (by omega)]
    have t59 : decide (0 ≤ p) = true := decide_eq_true (by omega)
    have t60 : decide (p < 4) = false := decide_eq_false (by omega)
    go_enter Try.func18, Try.ntmps18
    go_wp2
    refine bodyPost_ret (v := ret3 (0, 0, 1)) (by simp [results, Try.results18, go_sem, ret3, ret2b]) rfl ⟨rfl, ?_⟩
    (repeat (first | exact Below.refl _ _ | assumption | refine Ba.below_step (by assumption) (by first | exact Nat.le_refl _ | (simp; done) | (simp; omega) | omega) ?_ | apply Below.drew | apply Ba.below_drewN | refine Below.alloc ?_ (by first | exact Nat.le_refl _ | (simp; done) | (simp; omega)) _ | refine Below.setCell ?_ (by first | exact Nat.le_refl _ | (simp; done) | (simp; omega)) _))
  by_cases c4 : n < 0
  · rw [fields_rng p n (by omega) (by omega) (by omega)]
    have t61 : decide (0 ≤ p) = true := decide_eq_true (by omega)
    have t62 : decide (p < 4) = true := decide_eq_true (by omega)
    have t63 : decide (0 ≤ n) = false := decide_eq_false (by omega)
    have t64 : decide (n < 0) = true := decide_eq_true (by omega)
    go_enter Try.func18, Try.ntmps18
    go_wp2
    refine bodyPost_ret (v := ret3 (0, 0, 2)) (by simp [results, Try.results18, go_sem, ret3, ret2b]) rfl ⟨rfl, ?_⟩
    (repeat (first | exact Below.refl _ _ | assumption | refine Ba.below_step (by assumption) (by first | exact Nat.le_refl _ | (simp; done) | (simp; omega) | omega) ?_ | apply Below.drew | apply Ba.below_drewN | refine Below.alloc ?_ (by first | exact Nat.le_refl _ | (simp; done) | (simp; omega)) _ | refine Below.setCell ?_ (by first | exact Nat.le_refl _ | (simp; done) | (simp; omega)) _))
  by_cases c5 : 5184000 < n
  · rw [fields_rng p n (by omega) (by omega) (by omega)]
    have t65 : decide (0 ≤ p) = true := decide_eq_true (by omega)
    have t66 : decide (p < 4) = true := decide_eq_true (by omega)
    have t67 : decide (0 ≤ n) = true := decide_eq_true (by omega)
    have t68 : decide (n ≤ 5184000) = false := decide_eq_false (by omega)
    have t69 : decide (n < 0) = false := decide_eq_false (by omega)
    have t70 : decide (5184000 < n) = true := decide_eq_true (by omega)
    go_enter Try.func18, Try.ntmps18
    go_wp2
    refine bodyPost_ret (v := ret3 (0, 0, 2)) (by simp [results, Try.results18, go_sem, ret3, ret2b]) rfl ⟨rfl, ?_⟩
    (repeat (first | exact Below.refl _ _ | assumption | refine Ba.below_step (by assumption) (by first | exact Nat.le_refl _ | (simp; done) | (simp; omega) | omega) ?_ | apply Below.drew | apply Ba.below_drewN | refine Below.alloc ?_ (by first | exact Nat.le_refl _ | (simp; done) | (simp; omega)) _ | refine Below.setCell ?_ (by first | exact Nat.le_refl _ | (simp; done) | (simp; omega)) _))
  rw [fields_fit p n (by omega) (by omega) (by omega) (by omega)]
  have t71 : decide (0 ≤ p) = true := decide_eq_true (by omega)
  have t72 : decide (p < 4) = true := decide_eq_true (by omega)
  have t73 : decide (0 ≤ n) = true := decide_eq_true (by omega)
  have t74 : decide (n ≤ 5184000) = true := decide_eq_true (by omega)
  have t75 : decide (n < 0) = false := decide_eq_false (by omega)
  have t76 : decide (5184000 < n) = false := decide_eq_false (by omega)
  go_enter Try.func18, Try.ntmps18
  go_wp2_with (first | (go_at_call 31; refine (field_ok p _ _ (by omega) (by omega) (by omega) (by omega)).mono ?_; rintro e w' ⟨rfl, rfl⟩) | go_in)
  refine bodyPost_ret (v := ret3 (fld p n, fld p (n + 1), 0)) (by simp [results, Try.results18, go_sem, ret3, ret2b]) rfl ⟨rfl, ?_⟩
  (repeat (first | exact Below.refl _ _ | assumption | refine Ba.below_step (by assumption) (by first | exact Nat.le_refl _ | (simp; done) | (simp; omega) | omega) ?_ | apply Below.drew | apply Ba.below_drewN | refine Below.alloc ?_ (by first | exact Nat.le_refl _ | (simp; done) | (simp; omega)) _ | refine Below.setCell ?_ (by first | exact Nat.le_refl _ | (simp; done) | (simp; omega)) _))


end Go.Proofs.Ytbdbohjpicpbcaa.Pc
