/- Contracts of layer 4 (pulldown) and of its reference: what each function returns, in integers. No condition but those that each theorem names. -/
import Derived.Test.YtbdbohjpicpbcaaChecked
import Derived.Test.YtbdbohjpicpbcaaPull
import Derived.Test.YtbdbohjpicpbcaaBase
namespace Go.Proofs.Ytbdbohjpicpbcaa.Pc
open Go.RowKit Pu Ba
set_option linter.unusedVariables false
set_option linter.unusedSimpArgs false

theorem begin_ok (p n : Int) (w : World) (h0 : 0 ≤ p) (h1 : p < 4) (h2 : 0 ≤ n) (h3 : n ≤ 5184001) :
    Calls Try.prog 28 #[.int .i64 p, .int .i64 n] w fun e w' => e = .returned (.int .i64 (fld p n)) ∧ w = w' := by
  go_enter Try.func28, Try.ntmps28
  go_wp2
  go_ret
  exact ⟨rfl, rfl⟩
theorem field_ok (p n : Int) (w : World) (h0 : 0 ≤ p) (h1 : p < 4) (h2 : 0 ≤ n) (h3 : n ≤ 5184001) :
    Calls Try.prog 31 #[.int .i64 p, .int .i64 n] w fun e w' => e = .returned (.int .i64 (fld p n)) ∧ w = w' := by
  go_enter Try.func31, Try.ntmps31
  go_wp2
  go_ret
  exact ⟨rfl, rfl⟩

/-! ### Span -/
def spanR (p a b : Int) : Int × Int × Int :=
  if p < 0 ∨ 4 ≤ p ∨ b ≤ a then (0, 0, 1) else if a < 0 ∨ 5184000 < b then (0, 0, 2) else (fld p a / 2, (fld p b + 1) / 2, 0)
theorem span_arg (p a b : Int) (h : p < 0 ∨ 4 ≤ p ∨ b ≤ a) : spanR p a b = (0, 0, 1) := by unfold spanR; rw [if_pos h]
theorem span_rng (p a b : Int) (h0 : 0 ≤ p) (h1 : p < 4) (h2 : a < b) (h : a < 0 ∨ 5184000 < b) : spanR p a b = (0, 0, 2) := by unfold spanR; rw [if_neg (by omega), if_pos h]
theorem span_fit (p a b : Int) (h0 : 0 ≤ p) (h1 : p < 4) (h2 : a < b) (h3 : 0 ≤ a) (h4 : b ≤ 5184000) : spanR p a b = (fld p a / 2, (fld p b + 1) / 2, 0) := by unfold spanR; rw [if_neg (by omega), if_neg (by omega)]

theorem Span_any (p a b : Int) (w : World) :
    Calls Try.prog 12 #[.int .i64 p, .agg #[.int .i64 a, .int .i64 b]] w fun e w' => e = .returned (ret3 (spanR p a b)) ∧ Below w.heap.size w w' := by
  by_cases c1 : p < 0
  · rw [span_arg p a b (by omega)]
    have t1 : decide (0 ≤ p) = false := decide_eq_false (by omega)
    go_enter Try.func12, Try.ntmps12
    go_wp2
    refine bodyPost_ret (v := ret3 (0, 0, 1)) (by simp [results, Try.results12, go_sem, ret3, ret2b]) rfl ⟨rfl, ?_⟩
    (repeat (first | exact Below.refl _ _ | assumption | refine Ba.below_step (by assumption) (by first | exact Nat.le_refl _ | (simp; done) | (simp; omega) | omega) ?_ | apply Below.drew | apply Ba.below_drewN | refine Below.alloc ?_ (by first | exact Nat.le_refl _ | (simp; done) | (simp; omega)) _ | refine Below.setCell ?_ (by first | exact Nat.le_refl _ | (simp; done) | (simp; omega)) _))
  by_cases c2 : 4 ≤ p
  · rw [span_arg p a b (by omega)]
    have t2 : decide (0 ≤ p) = true := decide_eq_true (by omega)
    have t3 : decide (p < 4) = false := decide_eq_false (by omega)
    go_enter Try.func12, Try.ntmps12
    go_wp2
    refine bodyPost_ret (v := ret3 (0, 0, 1)) (by simp [results, Try.results12, go_sem, ret3, ret2b]) rfl ⟨rfl, ?_⟩
    (repeat (first | exact Below.refl _ _ | assumption | refine Ba.below_step (by assumption) (by first | exact Nat.le_refl _ | (simp; done) | (simp; omega) | omega) ?_ | apply Below.drew | apply Ba.below_drewN | refine Below.alloc ?_ (by first | exact Nat.le_refl _ | (simp; done) | (simp; omega)) _ | refine Below.setCell ?_ (by first | exact Nat.le_refl _ | (simp; done) | (simp; omega)) _))
  by_cases c3 : b ≤ a
  · rw [span_arg p a b (by omega)]
    have t4 : decide (0 ≤ p) = true := decide_eq_true (by omega)
    have t5 : decide (p < 4) = true := decide_eq_true (by omega)
    have t6 : decide (b ≤ a) = true := decide_eq_true (by omega)
    go_enter Try.func12, Try.ntmps12
    go_wp2
    refine bodyPost_ret (v := ret3 (0, 0, 1)) (by simp [results, Try.results12, go_sem, ret3, ret2b]) rfl ⟨rfl, ?_⟩
    (repeat (first | exact Below.refl _ _ | assumption | refine Ba.below_step (by assumption) (by first | exact Nat.le_refl _ | (simp; done) | (simp; omega) | omega) ?_ | apply Below.drew | apply Ba.below_drewN | refine Below.alloc ?_ (by first | exact Nat.le_refl _ | (simp; done) | (simp; omega)) _ | refine Below.setCell ?_ (by first | exact Nat.le_refl _ | (simp; done) | (simp; omega)) _))
  by_cases c4 : a < 0
  · rw [span_rng p a b (by omega) (by omega) (by omega) (by omega)]
    have t7 : decide (0 ≤ p) = true := decide_eq_true (by omega)
    have t8 : decide (p < 4) = true := decide_eq_true (by omega)
    have t9 : decide (b ≤ a) = false := decide_eq_false (by omega)
    have t10 : decide (0 ≤ a) = false := decide_eq_false (by omega)
    have t11 : decide (a < 0) = true := decide_eq_true (by omega)
    go_enter Try.func12, Try.ntmps12
    go_wp2
    refine bodyPost_ret (v := ret3 (0, 0, 2)) (by simp [results, Try.results12, go_sem, ret3, ret2b]) rfl ⟨rfl, ?_⟩
    (repeat (first | exact Below.refl _ _ | assumption | refine Ba.below_step (by assumption) (by first | exact Nat.le_refl _ | (simp; done) | (simp; omega) | omega) ?_ | apply Below.drew | apply Ba.below_drewN | refine Below.alloc ?_ (by first | exact Nat.le_refl _ | (simp; done) | (simp; omega)) _ | refine Below.setCell ?_ (by first | exact Nat.le_refl _ | (simp; done) | (simp; omega)) _))
  by_cases c5 : 5184000 < a
  · rw [span_rng p a b (by omega) (by omega) (by omega) (by omega)]
    have t12 : decide (0 ≤ p) = true := decide_eq_true (by omega)
    have t13 : decide (p < 4) = true := decide_eq_true (by omega)
    have t14 : decide (b ≤ a) = false := decide_eq_false (by omega)
    have t15 : decide (0 ≤ a) = true := decide_eq_true (by omega)
    have t16 : decide (a ≤ 5184000) = false := decide_eq_false (by omega)
    have t17 : decide (a < 0) = false := decide_eq_false (by omega)
    have t18 : decide (5184000 < a) = true := decide_eq_true (by omega)
    go_enter Try.func12, Try.ntmps12
    go_wp2
    refine bodyPost_ret (v := ret3 (0, 0, 2)) (by simp [results, Try.results12, go_sem, ret3, ret2b]) rfl ⟨rfl, ?_⟩
    (repeat (first | exact Below.refl _ _ | assumption | refine Ba.below_step (by assumption) (by first | exact Nat.le_refl _ | (simp; done) | (simp; omega) | omega) ?_ | apply Below.drew | apply Ba.below_drewN | refine Below.alloc ?_ (by first | exact Nat.le_refl _ | (simp; done) | (simp; omega)) _ | refine Below.setCell ?_ (by first | exact Nat.le_refl _ | (simp; done) | (simp; omega)) _))
  by_cases c6 : 5184000 < b
  · rw [span_rng p a b (by omega) (by omega) (by omega) (by omega)]
    have t19 : decide (0 ≤ p) = true := decide_eq_true (by omega)
    have t20 : decide (p < 4) = true := decide_eq_true (by omega)
    have t21 : decide (b ≤ a) = false := decide_eq_false (by omega)
    have t22 : decide (0 ≤ a) = true := decide_eq_true (by omega)
    have t23 : decide (a ≤ 5184000) = true := decide_eq_true (by omega)
    have t24 : decide (0 ≤ b) = true := decide_eq_true (by omega)
    have t25 : decide (b ≤ 5184000) = false := decide_eq_false (by omega)
    have t26 : decide (a < 0) = false := decide_eq_false (by omega)
    have t27 : decide (5184000 < a) = false := decide_eq_false (by omega)
    have t28 : decide (b < 0) = false := decide_eq_false (by omega)
    have t29 : decide (5184000 < b) = true := decide_eq_true (by omega)
    go_enter Try.func12, Try.ntmps12
    go_wp2
    refine bodyPost_ret (v := ret3 (0, 0, 2)) (by simp [results, Try.results12, go_sem, ret3, ret2b]) rfl ⟨rfl, ?_⟩
    (repeat (first | exact Below.refl _ _ | assumption | refine Ba.below_step (by assumption) (by first | exact Nat.le_refl _ | (simp; done) | (simp; omega) | omega) ?_ | apply Below.drew | apply Ba.below_drewN | refine Below.alloc ?_ (by first | exact Nat.le_refl _ | (simp; done) | (simp; omega)) _ | refine Below.setCell ?_ (by first | exact Nat.le_refl _ | (simp; done) | (simp; omega)) _))
  rw [span_fit p a b (by omega) (by omega) (by omega) (by omega) (by omega)]
  have t30 : decide (0 ≤ p) = true := decide_eq_true (by omega)
  have t31 : decide (p < 4) = true := decide_eq_true (by omega)
  have t32 : decide (b ≤ a) = false := decide_eq_false (by omega)
  have t33 : decide (0 ≤ a) = true := decide_eq_true (by omega)
  have t34 : decide (a ≤ 5184000) = true := decide_eq_true (by omega)
  have t35 : decide (0 ≤ b) = true := decide_eq_true (by omega)
  have t36 : decide (b ≤ 5184000) = true := decide_eq_true (by omega)
  have t37 : decide (a < 0) = false := decide_eq_false (by omega)
  have t38 : decide (5184000 < a) = false := decide_eq_false (by omega)
  have t39 : decide (b < 0) = false := decide_eq_false (by omega)
  have t40 : decide (5184000 < b) = false := decide_eq_false (by omega)
  have fa := fld_bd p a (by omega) (by omega)
  have fb := fld_bd p b (by omega) (by omega)
  have d1 := half64 (fld p a) (by omega) (by omega)
  have d2 := in64 (fld p b + 1) (by omega)
  have d3 := half64 (fld p b + 1) (by omega) (by omega)
  have D := Lib.hid (And.intro d1 (And.intro d2 d3))
  clear d1 d2 d3
  go_enter Try.func12, Try.ntmps12
  go_wp2
  refine region_tail 12 (by kernel_rfl) (by kernel_rfl) ?_
  simp only [List.take_succ_cons, List.take_zero, List.drop_succ_cons, List.drop_zero]
  repeat still_step
  still_call (sm (begin_ok p a _ (by omega) (by omega) (by omega) (by omega)))
  repeat still_step
  still_call (sm (begin_ok p b _ (by omega) (by omega) (by omega) (by omega)))
  repeat still_step
  refine wpStill_nil ?_
  go_wp2
  refine bodyPost_ret (v := ret3 (fld p a / 2, (fld p b + 1) / 2, 0)) (by simp [results, Try.results12, go_sem, ret3, ret2b, D.out.1, D.out.2.1, D.out.2.2]) rfl ⟨rfl, ?_⟩
  (repeat (first | exact Below.refl _ _ | assumption | refine Ba.below_step (by assumption) (by first | exact Nat.le_refl _ | (simp; done) | (simp; omega) | omega) ?_ | apply Below.drew | apply Ba.below_drewN | refine Below.alloc ?_ (by first | exact Nat.le_refl _ | (simp; done) | (simp; omega)) _ | refine Below.setCell ?_ (by first | exact Nat.le_refl _ | (simp; done) | (simp; omega)) _))

theorem RSpan_any (p a b : Int) (w : World) :
    Calls Try.prog 13 #[.int .i64 p, .agg #[.int .i64 a, .int .i64 b]] w fun e w' => e = .returned (ret3 (spanR p a b)) ∧ Below w.heap.size w w' := by
  by_cases c1 : p < 0
  · rw [span_arg p a b (by omega)]
    have t41 : decide (0 ≤ p) = false := decide_eq_false (by omega)
    go_enter Try.func13, Try.ntmps13
    go_wp2
    refine bodyPost_ret (v := ret3 (0, 0, 1)) (by simp [results, Try.results13, go_sem, ret3, ret2b]) rfl ⟨rfl, ?_⟩
    (repeat (first | exact Below.refl _ _ | assumption | refine Ba.below_step (by assumption) (by first | exact Nat.le_refl _ | (simp; done) | (simp; omega) | omega) ?_ | apply Below.drew | apply Ba.below_drewN | refine Below.alloc ?_ (by first | exact Nat.le_refl _ | (simp; done) | (simp; omega)) _ | refine Below.setCell ?_ (by first | exact Nat.le_refl _ | (simp; done) | (simp; omega)) _))
  by_cases c2 : 4 ≤ p
  · rw [span_arg p a b (by omega)]
    have t42 : decide (0 ≤ p) = true := decide_eq_true (by omega)
    have t43 : decide (p < 4) = false := decide_eq_false (by omega)
    go_enter Try.func13, Try.ntmps13
    go_wp2
    refine bodyPost_ret (v := ret3 (0, 0, 1)) (by simp [results, Try.results13, go_sem, ret3, ret2b]) rfl ⟨rfl, ?_⟩
    (repeat (first | exact Below.refl _ _ | assumption | refine Ba.below_step (by assumption) (by first | exact Nat.le_refl _ | (simp; done) | (simp; omega) | omega) ?_ | apply Below.drew | apply Ba.below_drewN | refine Below.alloc ?_ (by first | exact Nat.le_refl _ | (simp; done) | (simp; omega)) _ | refine Below.setCell ?_ (by first | exact Nat.le_refl _ | (simp; done) | (simp; omega)) _))
  by_cases c3 : b ≤ a
  · rw [span_arg p a b (by omega)]
    have t44 : decide (0 ≤ p) = true := decide_eq_true (by omega)
    have t45 : decide (p < 4) = true := decide_eq_true (by omega)
    have t46 : decide (b ≤ a) = true := decide_eq_true (by omega)
    go_enter Try.func13, Try.ntmps13
    go_wp2
    refine bodyPost_ret (v := ret3 (0, 0, 1)) (by simp [results, Try.results13, go_sem, ret3, ret2b]) rfl ⟨rfl, ?_⟩
    (repeat (first | exact Below.refl _ _ | assumption | refine Ba.below_step (by assumption) (by first | exact Nat.le_refl _ | (simp; done) | (simp; omega) | omega) ?_ | apply Below.drew | apply Ba.below_drewN | refine Below.alloc ?_ (by first | exact Nat.le_refl _ | (simp; done) | (simp; omega)) _ | refine Below.setCell ?_ (by first | exact Nat.le_refl _ | (simp; done) | (simp; omega)) _))
  by_cases c4 : a < 0
  · rw [span_rng p a b (by omega) (by omega) (by omega) (by omega)]
    have t47 : decide (0 ≤ p) = true := decide_eq_true (by omega)
    have t48 : decide (p < 4) = true := decide_eq_true (by omega)
    have t49 : decide (b ≤ a) = false := decide_eq_false (by omega)
    have t50 : decide (0 ≤ a) = false := decide_eq_false (by omega)
    have t51 : decide (a < 0) = true := decide_eq_true (by omega)
    go_enter Try.func13, Try.ntmps13
    go_wp2
    refine bodyPost_ret (v := ret3 (0, 0, 2)) (by simp [results, Try.results13, go_sem, ret3, ret2b]) rfl ⟨rfl, ?_⟩
    (repeat (first | exact Below.refl _ _ | assumption | refine Ba.below_step (by assumption) (by first | exact Nat.le_refl _ | (simp; done) | (simp; omega) | omega) ?_ | apply Below.drew | apply Ba.below_drewN | refine Below.alloc ?_ (by first | exact Nat.le_refl _ | (simp; done) | (simp; omega)) _ | refine Below.setCell ?_ (by first | exact Nat.le_refl _ | (simp; done) | (simp; omega)) _))
  by_cases c5 : 5184000 < a
  · rw [span_rng p a b (by omega) (by omega) (by omega) (by omega)]
    have t52 : decide (0 ≤ p) = true := decide_eq_true (by omega)
    have t53 : decide (p < 4) = true := decide_eq_true (by omega)
    have t54 : decide (b ≤ a) = false := decide_eq_false (by omega)
    have t55 : decide (0 ≤ a) = true := decide_eq_true (by omega)
    have t56 : decide (a ≤ 5184000) = false := decide_eq_false (by omega)
    have t57 : decide (a < 0) = false := decide_eq_false (by omega)
    have t58 : decide (5184000 < a) = true := decide_eq_true (by omega)
    go_enter Try.func13, Try.ntmps13
    go_wp2
    refine bodyPost_ret (v := ret3 (0, 0, 2)) (by simp [results, Try.results13, go_sem, ret3, ret2b]) rfl ⟨rfl, ?_⟩
    (repeat (first | exact Below.refl _ _ | assumption | refine Ba.below_step (by assumption) (by first | exact Nat.le_refl _ | (simp; done) | (simp; omega) | omega) ?_ | apply Below.drew | apply Ba.below_drewN | refine Below.alloc ?_ (by first | exact Nat.le_refl _ | (simp; done) | (simp; omega)) _ | refine Below.setCell ?_ (by first | exact Nat.le_refl _ | (simp; done) | (simp; omega)) _))
  by_cases c6 : 5184000 < b
  · rw [span_rng p a b (by omega) (by omega) (by omega) (by omega)]
    have t59 : decide (0 ≤ p) = true := decide_eq_true (by omega)
    have t60 : decide (p < 4) = true := decide_eq_true (by omega)
    have t61 : decide (b ≤ a) = false := decide_eq_false (by omega)
    have t62 : decide (0 ≤ a) = true := decide_eq_true (by omega)
    have t63 : decide (a ≤ 5184000) = true := decide_eq_true (by omega)
    have t64 : decide (0 ≤ b) = true := decide_eq_true (by omega)
    have t65 : decide (b ≤ 5184000) = false := decide_eq_false (by omega)
    have t66 : decide (a < 0) = false := decide_eq_false (by omega)
    have t67 : decide (5184000 < a) = false := decide_eq_false (by omega)
    have t68 : decide (b < 0) = false := decide_eq_false (by omega)
    have t69 : decide (5184000 < b) = true := decide_eq_true (by omega)
    go_enter Try.func13, Try.ntmps13
    go_wp2
    refine bodyPost_ret (v := ret3 (0, 0, 2)) (by simp [results, Try.results13, go_sem, ret3, ret2b]) rfl ⟨rfl, ?_⟩
    (repeat (first | exact Below.refl _ _ | assumption | refine Ba.below_step (by assumption) (by first | exact Nat.le_refl _ | (simp; done) | (simp; omega) | omega) ?_ | apply Below.drew | apply Ba.below_drewN | refine Below.alloc ?_ (by first | exact Nat.le_refl _ | (simp; done) | (simp; omega)) _ | refine Below.setCell ?_ (by first | exact Nat.le_refl _ | (simp; done) | (simp; omega)) _))
  rw [span_fit p a b (by omega) (by omega) (by omega) (by omega) (by omega)]
  have t70 : decide (0 ≤ p) = true := decide_eq_true (by omega)
  have t71 : decide (p < 4) = true := decide_eq_true (by omega)
  have t72 : decide (b ≤ a) = false := decide_eq_false (by omega)
  have t73 : decide (0 ≤ a) = true := decide_eq_true (by omega)
  have t74 : decide (a ≤ 5184000) = true := decide_eq_true (by omega)
  have t75 : decide (0 ≤ b) = true := decide_eq_true (by omega)
  have t76 : decide (b ≤ 5184000) = true := decide_eq_true (by omega)
  have t77 : decide (a < 0) = false := decide_eq_false (by omega)
  have t78 : decide (5184000 < a) = false := decide_eq_false (by omega)
  have t79 : decide (b < 0) = false := decide_eq_false (by omega)
  have t80 : decide (5184000 < b) = false := decide_eq_false (by omega)
  have fa := fld_bd p a (by omega) (by omega)
  have fb := fld_bd p b (by omega) (by omega)
  have d1 := half64 (fld p a) (by omega) (by omega)
  have d2 := in64 (fld p b + 1) (by omega)
  have d3 := half64 (fld p b + 1) (by omega) (by omega)
  have D := Lib.hid (And.intro d1 (And.intro d2 d3))
  clear d1 d2 d3
  go_enter Try.func13, Try.ntmps13
  go_wp2
  refine region_tail 12 (by kernel_rfl) (by kernel_rfl) ?_
  simp only [List.take_succ_cons, List.take_zero, List.drop_succ_cons, List.drop_zero]
  repeat still_step
  still_call (sm (field_ok p a _ (by omega) (by omega) (by omega) (by omega)))
  repeat still_step
  still_call (sm (field_ok p b _ (by omega) (by omega) (by omega) (by omega)))
  repeat still_step
  refine wpStill_nil ?_
  go_wp2
  refine bodyPost_ret (v := ret3 (fld p a / 2, (fld p b + 1) / 2, 0)) (by simp [results, Try.results13, go_sem, ret3, ret2b, D.out.1, D.out.2.1, D.out.2.2]) rfl ⟨rfl, ?_⟩
  (repeat (first | exact Below.refl _ _ | assumption | refine Ba.below_step (by assumption) (by first | exact Nat.le_refl _ | (simp; done) | (simp; omega) | omega) ?_ | apply Below.drew | apply Ba.below_drewN | refine Below.alloc ?_ (by first | exact Nat.le_refl _ | (simp; done) | (simp; omega)) _ | refine Below.setCell ?_ (by first | exact Nat.le_refl _ | (simp; done) | (simp; omega)) _))


end Go.Proofs.Ytbdbohjpicpbcaa.Pc
