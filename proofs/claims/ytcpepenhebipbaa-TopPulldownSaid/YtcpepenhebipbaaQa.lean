/- Contracts of pulldown (Span, Fields, Back) for the statement TopPulldown. -/
import Derived.Test.YtcpepenhebipbaaChecked
import Derived.Test.YtcpepenhebipbaaPull
import Derived.Test.YtcpepenhebipbaaBase
namespace Go.Proofs.Ytcpepenhebipbaa.Pc
open Go.RowKit Pu Ba
set_option linter.unusedVariables false
set_option linter.unusedSimpArgs false

theorem begin_ok (p n : Int) (w : World) (h0 : 0 ≤ p) (h1 : p < 4) (h2 : 0 ≤ n) (h3 : n ≤ 5184001) :
    Calls Try.prog 11 #[.int .i64 p, .int .i64 n] w fun e w' => e = .returned (.int .i64 (fld p n)) ∧ w = w' := by
  go_enter Try.func11, Try.ntmps11
  go_wp2
  go_ret
  exact ⟨rfl, rfl⟩
/-! ### Span -/
def spanR (p a b : Int) : Int × Int × Int :=
  if p < 0 ∨ 4 ≤ p ∨ b ≤ a then (0, 0, 1) else if a < 0 ∨ 5184000 < b then (0, 0, 2) else (fld p a / 2, (fld p b + 1) / 2, 0)
theorem span_arg (p a b : Int) (h : p < 0 ∨ 4 ≤ p ∨ b ≤ a) : spanR p a b = (0, 0, 1) := by unfold spanR; rw [if_pos h]
theorem span_rng (p a b : Int) (h0 : 0 ≤ p) (h1 : p < 4) (h2 : a < b) (h : a < 0 ∨ 5184000 < b) : spanR p a b = (0, 0, 2) := by unfold spanR; rw [if_neg (by omega), if_pos h]
theorem span_fit (p a b : Int) (h0 : 0 ≤ p) (h1 : p < 4) (h2 : a < b) (h3 : 0 ≤ a) (h4 : b ≤ 5184000) : spanR p a b = (fld p a / 2, (fld p b + 1) / 2, 0) := by unfold spanR; rw [if_neg (by omega), if_neg (by omega)]

theorem Span_any (p a b : Int) (w : World) :
    Calls Try.prog 4 #[.int .i64 p, .agg #[.int .i64 a, .int .i64 b]] w fun e w' => e = .returned (ret3 (spanR p a b)) ∧ Below w.heap.size w w' := by
  by_cases c1 : p < 0
  · rw [span_arg p a b (by omega)]
    have t1 : decide (0 ≤ p) = false := decide_eq_false (by omega)
    go_enter Try.func4, Try.ntmps4
    go_wp2
    refine bodyPost_ret (v := ret3 (0, 0, 1)) (by simp [results, Try.results4, go_sem, ret3, ret2b]) rfl ⟨rfl, ?_⟩
    (repeat (first | exact Below.refl _ _ | assumption | refine Ba.below_step (by assumption) (by first | exact Nat.le_refl _ | omega | (simp; done) | (simp; omega)) ?_ | apply Below.drew | apply Ba.below_drewN | refine Below.alloc ?_ (by first | exact Nat.le_refl _ | omega | (simp; done) | (simp; omega)) _ | refine Below.setCell ?_ (by first | exact Nat.le_refl _ | omega | (simp; done) | (simp; omega)) _))
  by_cases c2 : 4 ≤ p
  · rw [span_arg p a b (by omega)]
    have t2 : decide (0 ≤ p) = true := decide_eq_true (by omega)
    have t3 : decide (p < 4) = false := decide_eq_false (by omega)
    go_enter Try.func4, Try.ntmps4
    go_wp2
    refine bodyPost_ret (v := ret3 (0, 0, 1)) (by simp [results, Try.results4, go_sem, ret3, ret2b]) rfl ⟨rfl, ?_⟩
    (repeat (first | exact Below.refl _ _ | assumption | refine Ba.below_step (by assumption) (by first | exact Nat.le_refl _ | omega | (simp; done) | (simp; omega)) ?_ | apply Below.drew | apply Ba.below_drewN | refine Below.alloc ?_ (by first | exact Nat.le_refl _ | omega | (simp; done) | (simp; omega)) _ | refine Below.setCell ?_ (by first | exact Nat.le_refl _ | omega | (simp; done) | (simp; omega)) _))
  by_cases c3 : b ≤ a
  · rw [span_arg p a b (by omega)]
    have t4 : decide (0 ≤ p) = true := decide_eq_true (by omega)
    have t5 : decide (p < 4) = true := decide_eq_true (by omega)
    have t6 : decide (b ≤ a) = true := decide_eq_true (by omega)
    go_enter Try.func4, Try.ntmps4
    go_wp2
    refine bodyPost_ret (v := ret3 (0, 0, 1)) (by simp [results, Try.results4, go_sem, ret3, ret2b]) rfl ⟨rfl, ?_⟩
    (repeat (first | exact Below.refl _ _ | assumption | refine Ba.below_step (by assumption) (by first | exact Nat.le_refl _ | omega | (simp; done) | (simp; omega)) ?_ | apply Below.drew | apply Ba.below_drewN | refine Below.alloc ?_ (by first | exact Nat.le_refl _ | omega | (simp; done) | (simp; omega)) _ | refine Below.setCell ?_ (by first | exact Nat.le_refl _ | omega | (simp; done) | (simp; omega)) _))
  by_cases c4 : a < 0
  · rw [span_rng p a b (by omega) (by omega) (by omega) (by omega)]
    have t7 : decide (0 ≤ p) = true := decide_eq_true (by omega)
    have t8 : decide (p < 4) = true := decide_eq_true (by omega)
    have t9 : decide (b ≤ a) = false := decide_eq_false (by omega)
    have t10 : decide (0 ≤ a) = false := decide_eq_false (by omega)
    have t11 : decide (a < 0) = true := decide_eq_true (by omega)
    go_enter Try.func4, Try.ntmps4
    go_wp2
    refine bodyPost_ret (v := ret3 (0, 0, 2)) (by simp [results, Try.results4, go_sem, ret3, ret2b]) rfl ⟨rfl, ?_⟩
    (repeat (first | exact Below.refl _ _ | assumption | refine Ba.below_step (by assumption) (by first | exact Nat.le_refl _ | omega | (simp; done) | (simp; omega)) ?_ | apply Below.drew | apply Ba.below_drewN | refine Below.alloc ?_ (by first | exact Nat.le_refl _ | omega | (simp; done) | (simp; omega)) _ | refine Below.setCell ?_ (by first | exact Nat.le_refl _ | omega | (simp; done) | (simp; omega)) _))
  by_cases c5 : 5184000 < a
  · rw [span_rng p a b (by omega) (by omega) (by omega) (by omega)]
    have t12 : decide (0 ≤ p) = true := decide_eq_true (by omega)
    have t13 : decide (p < 4) = true := decide_eq_true (by omega)
    have t14 : decide (b ≤ a) = false := decide_eq_false (by omega)
    have t15 : decide (0 ≤ a) = true := decide_eq_true (by omega)
    have t16 : decide (a ≤ 5184000) = false := decide_eq_false (by omega)
    have t17 : decide (a < 0) = false := decide_eq_false (by omega)
    have t18 : decide (5184000 < a) = true := decide_eq_true (by omega)
    go_enter Try.func4, Try.ntmps4
    go_wp2
    refine bodyPost_ret (v := ret3 (0, 0, 2)) (by simp [results, Try.results4, go_sem, ret3, ret2b]) rfl ⟨rfl, ?_⟩
    (repeat (first | exact Below.refl _ _ | assumption | refine Ba.below_step (by assumption) (by first | exact Nat.le_refl _ | omega | (simp; done) | (simp; omega)) ?_ | apply Below.drew | apply Ba.below_drewN | refine Below.alloc ?_ (by first | exact Nat.le_refl _ | omega | (simp; done) | (simp; omega)) _ | refine Below.setCell ?_ (by first | exact Nat.le_refl _ | omega | (simp; done) | (simp; omega)) _))
  by_cases c6 : 5184000 < b
  · rw [span_rng p a b (by omega) (by omega) (by omega) (by omega)]
    have t19 : decide (0 ≤ p) = true := decide_eq_true (by omega)
    have t20 : decide (p < 4) = true := decide_eq_true (by omega)
    have t21 : decide (b ≤ a) = false := decide_eq_false (by omega)
    have t22 : decide (0 ≤ a) = true := decide_eq_true (by omega)
    have t23 : decide (a ≤ 5184000) = true := decide_eq_true (by omega)
    have t24 : decide (0 ≤ b) = true := decide_eq_true (by omega)
    have t25 : decide (b ≤ 5184000) = false := decide_eq_false (by omega)
    have t26 : decide (a < 0) = false := decide_eq_false (by omega)
    have t27 : decide (5184000 < a) = false := decide_eq_false (by omega)
    have t28 : decide (b < 0) = false := decide_eq_false (by omega)
    have t29 : decide (5184000 < b) = true := decide_eq_true (by omega)
    go_enter Try.func4, Try.ntmps4
    go_wp2
    refine bodyPost_ret (v := ret3 (0, 0, 2)) (by simp [results, Try.results4, go_sem, ret3, ret2b]) rfl ⟨rfl, ?_⟩
    (repeat (first | exact Below.refl _ _ | assumption | refine Ba.below_step (by assumption) (by first | exact Nat.le_refl _ | omega | (simp; done) | (simp; omega)) ?_ | apply Below.drew | apply Ba.below_drewN | refine Below.alloc ?_ (by first | exact Nat.le_refl _ | omega | (simp; done) | (simp; omega)) _ | refine Below.setCell ?_ (by first | exact Nat.le_refl _ | omega | (simp; done) | (simp; omega)) _))
  rw [span_fit p a b (by omega) (by omega) (by omega) (by omega) (by omega)]
  have t30 : decide (0 ≤ p) = true := decide_eq_true (by omega)
  have t31 : decide (p < 4) = true := decide_eq_true (by omega)
  have t32 : decide (b ≤ a) = false := decide_eq_false (by omega)
  have t33 : decide (0 ≤ a) = true := decide_eq_true (by omega)
  have t34 : decide (a ≤ 5184000) = true := decide_eq_true (by omega)
  have t35 : decide (0 ≤ b) = true := decide_eq_true (by omega)
  have t36 : decide (b ≤ 5184000) = true := decide_eq_true (by omega)
  have t37 : decide (a < 0) = false := decide_eq_false (by omega)
  have t38 : decide (5184000 < a) = false := decide_eq_false (by omega)
  have t39 : decide (b < 0) = false := decide_eq_false (by omega)
  have t40 : decide (5184000 < b) = false := decide_eq_false (by omega)
  have fa := fld_bd p a (by omega) (by omega)
  have fb := fld_bd p b (by omega) (by omega)
  have d1 := half64 (fld p a) (by omega) (by omega)
  have d2 := in64 (fld p b + 1) (by omega)
  have d3 := half64 (fld p b + 1) (by omega) (by omega)
  have D := Lib.hid (And.intro d1 (And.intro d2 d3))
  clear d1 d2 d3
  go_enter Try.func4, Try.ntmps4
  go_wp2
  refine region_tail 12 (by kernel_rfl) (by kernel_rfl) ?_
  simp only [List.take_succ_cons, List.take_zero, List.drop_succ_cons, List.drop_zero]
  repeat still_step
  still_call (sm (begin_ok p a _ (by omega) (by omega) (by omega) (by omega)))
  repeat still_step
  still_call (sm (begin_ok p b _ (by omega) (by omega) (by omega) (by omega)))
  repeat still_step
  refine wpStill_nil ?_
  go_wp2
  refine bodyPost_ret (v := ret3 (fld p a / 2, (fld p b + 1) / 2, 0)) (by simp [results, Try.results4, go_sem, ret3, ret2b, D.out.1, D.out.2.1, D.out.2.2]) rfl ⟨rfl, ?_⟩
  (repeat (first | exact Below.refl _ _ | assumption | refine Ba.below_step (by assumption) (by first | exact Nat.le_refl _ | omega | (simp; done) | (simp; omega)) ?_ | apply Below.drew | apply Ba.below_drewN | refine Below.alloc ?_ (by first | exact Nat.le_refl _ | omega | (simp; done) | (simp; omega)) _ | refine Below.setCell ?_ (by first | exact Nat.le_refl _ | omega | (simp; done) | (simp; omega)) _))

def fieldsR (p n : Int) : Int × Int × Int := if p < 0 ∨ 4 ≤ p then (0, 0, 1) else if n < 0 ∨ 5184000 < n then (0, 0, 2) else (fld p n, fld p (n + 1), 0)
theorem fields_arg (p n : Int) (h : p < 0 ∨ 4 ≤ p) : fieldsR p n = (0, 0, 1) := by unfold fieldsR; rw [if_pos h]
theorem fields_rng (p n : Int) (h0 : 0 ≤ p) (h1 : p < 4) (h : n < 0 ∨ 5184000 < n) : fieldsR p n = (0, 0, 2) := by unfold fieldsR; rw [if_neg (by omega), if_pos h]
theorem fields_fit (p n : Int) (h0 : 0 ≤ p) (h1 : p < 4) (h2 : 0 ≤ n) (h3 : n ≤ 5184000) : fieldsR p n = (fld p n, fld p (n + 1), 0) := by unfold fieldsR; rw [if_neg (by omega), if_neg (by omega)]

theorem Fields_any (p n : Int) (w : World) :
    Calls Try.prog 5 #[.int .i64 p, .int .i64 n] w fun e w' => e = .returned (ret3 (fieldsR p n)) ∧ Below w.heap.size w w' := by
  by_cases c1 : p < 0
  · rw [fields_arg p n (by omega)]
    have t41 : decide (0 ≤ p) = false := decide_eq_false (by omega)
    go_enter Try.func5, Try.ntmps5
    go_wp2
    refine bodyPost_ret (v := ret3 (0, 0, 1)) (by simp [results, Try.results5, go_sem, ret3, ret2b]) rfl ⟨rfl, ?_⟩
    (repeat (first | exact Below.refl _ _ | assumption | refine Ba.below_step (by assumption) (by first | exact Nat.le_refl _ | omega | (simp; done) | (simp; omega)) ?_ | apply Below.drew | apply Ba.below_drewN | refine Below.alloc ?_ (by first | exact Nat.le_refl _ | omega | (simp; done) | (simp; omega)) _ | refine Below.setCell ?_ (by first | exact Nat.le_refl _ | omega | (simp; done) | (simp; omega)) _))
  by_cases c2 : 4 ≤ p
  · rw [fields_arg p n (by omega)]
    have t42 : decide (0 ≤ p) = true := decide_eq_true (by omega)
    have t43 : decide (p < 4) = false := decide_eq_false (by omega)
    go_enter Try.func5, Try.ntmps5
    go_wp2
    refine bodyPost_ret (v := ret3 (0, 0, 1)) (by simp [results, Try.results5, go_sem, ret3, ret2b]) rfl ⟨rfl, ?_⟩
    (repeat (first | exact Below.refl _ _ | assumption | refine Ba.below_step (by assumption) (by first | exact Nat.le_refl _ | omega | (simp; done) | (simp; omega)) ?_ | apply Below.drew | apply Ba.below_drewN | refine Below.alloc ?_ (by first | exact Nat.le_refl _ | omega | (simp; done) | (simp; omega)) _ | refine Below.setCell ?_ (by first | exact Nat.le_refl _ | omega | (simp; done) | (simp; omega)) _))
  by_cases c4 : n < 0
  · rw [fields_rng p n (by omega) (by omega) (by omega)]
    have t44 : decide (0 ≤ p) = true := decide_eq_true (by omega)
    have t45 : decide (p < 4) = true := decide_eq_true (by omega)
    have t46 : decide (0 ≤ n) = false := decide_eq_false (by omega)
    have t47 : decide (n < 0) = true := decide_eq_true (by omega)
    go_enter Try.func5, Try.ntmps5
    go_wp2
    refine bodyPost_ret (v := ret3 (0, 0, 2)) (by simp [results, Try.results5, go_sem, ret3, ret2b]) rfl ⟨rfl, ?_⟩
    (repeat (first | exact Below.refl _ _ | assumption | refine Ba.below_step (by assumption) (by first | exact Nat.le_refl _ | omega | (simp; done) | (simp; omega)) ?_ | apply Below.drew | apply Ba.below_drewN | refine Below.alloc ?_ (by first | exact Nat.le_refl _ | omega | (simp; done) | (simp; omega)) _ | refine Below.setCell ?_ (by first | exact Nat.le_refl _ | omega | (simp; done) | (simp; omega)) _))
  by_cases c5 : 5184000 < n
  · rw [fields_rng p n (by omega) (by omega) (by omega)]
    have t48 : decide (0 ≤ p) = true := decide_eq_true (by omega)
    have t49 : decide (p < 4) = true := decide_eq_true (by omega)
    have t50 : decide (0 ≤ n) = true := decide_eq_true (by omega)
    have t51 : decide (n ≤ 5184000) = false := decide_eq_false (by omega)
    have t52 : decide (n < 0) = false := decide_eq_false (by omega)
    have t53 : decide (5184000 < n) = true := decide_eq_true (by omega)
    go_enter Try.func5, Try.ntmps5
    go_wp2
    refine bodyPost_ret (v := ret3 (0, 0, 2)) (by simp [results, Try.results5, go_sem, ret3, ret2b]) rfl ⟨rfl, ?_⟩
    (repeat (first | exact Below.refl _ _ | assumption | refine Ba.below_step (by assumption) (by first | exact Nat.le_refl _ | omega | (simp; done) | (simp; omega)) ?_ | apply Below.drew | apply Ba.below_drewN | refine Below.alloc ?_ (by first | exact Nat.le_refl _ | omega | (simp; done) | (simp; omega)) _ | refine Below.setCell ?_ (by first | exact Nat.le_refl _ | omega | (simp; done) | (simp; omega)) _))
  rw [fields_fit p n (by omega) (by omega) (by omega) (by omega)]
  have t54 : decide (0 ≤ p) = true := decide_eq_true (by omega)
  have t55 : decide (p < 4) = true := decide_eq_true (by omega)
  have t56 : decide (0 ≤ n) = true := decide_eq_true (by omega)
  have t57 : decide (n ≤ 5184000) = true := decide_eq_true (by omega)
  have t58 : decide (n < 0) = false := decide_eq_false (by omega)
  have t59 : decide (5184000 < n) = false := decide_eq_false (by omega)
  go_enter Try.func5, Try.ntmps5
  go_wp2_with (first | (go_at_call 11; refine (begin_ok p _ _ (by omega) (by omega) (by omega) (by omega)).mono ?_; rintro e w' ⟨rfl, rfl⟩) | go_in)
  refine bodyPost_ret (v := ret3 (fld p n, fld p (n + 1), 0)) (by simp [results, Try.results5, go_sem, ret3, ret2b]) rfl ⟨rfl, ?_⟩
  (repeat (first | exact Below.refl _ _ | assumption | refine Ba.below_step (by assumption) (by first | exact Nat.le_refl _ | omega | (simp; done) | (simp; omega)) ?_ | apply Below.drew | apply Ba.below_drewN | refine Below.alloc ?_ (by first | exact Nat.le_refl _ | omega | (simp; done) | (simp; omega)) _ | refine Below.setCell ?_ (by first | exact Nat.le_refl _ | omega | (simp; done) | (simp; omega)) _))

theorem seen_ok (p f : Int) (w : World) (h0 : 0 ≤ p) (h1 : p < 4) (h2 : 0 ≤ f) (h3 : f ≤ 10368000) :
    Calls Try.prog 15 #[.int .i64 p, .int .i64 f] w fun e w' => e = .returned (.int .i64 (sn p f)) ∧ w = w' := by
  by_cases c : 2 + (1 + p % 2) / 2 ≤ f % 5
  · have hs : sn p f = 2 * (f / 5) + 1 := by unfold sn; rw [if_pos c]
    rw [hs]
    clear hs
    go_enter Try.func15, Try.ntmps15
    go_wp2
    go_ret
    exact ⟨rfl, rfl⟩
  · have hs : sn p f = 2 * (f / 5) := by unfold sn; rw [if_neg c]; omega
    rw [hs]
    clear hs
    go_enter Try.func15, Try.ntmps15
    go_wp2
    go_ret
    exact ⟨rfl, rfl⟩

def backR (p v : Int) : Int × Bool × Int := if p < 0 ∨ 4 ≤ p then (0, false, 1) else if v < 0 ∨ 5183999 < v then (0, false, 2) else (sn p (2 * v), cl p v, 0)
theorem back_arg (p n : Int) (h : p < 0 ∨ 4 ≤ p) : backR p n = (0, false, 1) := by unfold backR; rw [if_pos h]
theorem back_rng (p n : Int) (h0 : 0 ≤ p) (h1 : p < 4) (h : n < 0 ∨ 5183999 < n) : backR p n = (0, false, 2) := by unfold backR; rw [if_neg (by omega), if_pos h]
theorem back_fit (p n : Int) (h0 : 0 ≤ p) (h1 : p < 4) (h2 : 0 ≤ n) (h3 : n ≤ 5183999) : backR p n = (sn p (2 * n), cl p n, 0) := by unfold backR; rw [if_neg (by omega), if_neg (by omega)]

theorem Back_any (p v : Int) (w : World) :
    Calls Try.prog 8 #[.int .i64 p, .int .i64 v] w fun e w' => e = .returned (ret2b (backR p v)) ∧ w = w' := by
  by_cases c1 : p < 0
  · rw [back_arg p v (by omega)]
    have t60 : decide (0 ≤ p) = false := decide_eq_false (by omega)
    go_enter Try.func8, Try.ntmps8
    go_wp2
    go_ret3
    exact ⟨rfl, rfl⟩
  by_cases c2 : 4 ≤ p
  · rw [back_arg p v (by omega)]
    have t61 : decide (0 ≤ p) = true := decide_eq_true (by omega)
    have t62 : decide (p < 4) = false := decide_eq_false (by omega)
    go_enter Try.func8, Try.ntmps8
    go_wp2
    go_ret3
    exact ⟨rfl, rfl⟩
  by_cases c4 : v < 0
  · rw [back_rng p v (by omega) (by omega) (by omega)]
    have t63 : decide (0 ≤ p) = true := decide_eq_true (by omega)
    have t64 : decide (p < 4) = true := decide_eq_true (by omega)
    have t65 : decide (0 ≤ v) = false := decide_eq_false (by omega)
    have t66 : decide (v < 0) = true := decide_eq_true (by omega)
    go_enter Try.func8, Try.ntmps8
    go_wp2
    go_ret3
    exact ⟨rfl, rfl⟩
  by_cases c5 : 5183999 < v
  · rw [back_rng p v (by omega) (by omega) (by omega)]
    have t67 : decide (0 ≤ p) = true := decide_eq_true (by omega)
    have t68 : decide (p < 4) = true := decide_eq_true (by omega)
    have t69 : decide (0 ≤ v) = true := decide_eq_true (by omega)
    have t70 : decide (v ≤ 5183999) = false := decide_eq_false (by omega)
    have t71 : decide (v < 0) = false := decide_eq_false (by omega)
    have t72 : decide (5183999 < v) = true := decide_eq_true (by omega)
    go_enter Try.func8, Try.ntmps8
    go_wp2
    go_ret3
    exact ⟨rfl, rfl⟩
  rw [back_fit p v (by omega) (by omega) (by omega) (by omega)]
  have t73 : decide (0 ≤ p) = true := decide_eq_true (by omega)
  have t74 : decide (p < 4) = true := decide_eq_true (by omega)
  have t75 : decide (0 ≤ v) = true := decide_eq_true (by omega)
  have t76 : decide (v ≤ 5183999) = true := decide_eq_true (by omega)
  have t77 : decide (v < 0) = false := decide_eq_false (by omega)
  have t78 : decide (5183999 < v) = false := decide_eq_false (by omega)

  go_enter Try.func8, Try.ntmps8
  go_wp2_with (first | (go_at_call 15; refine (seen_ok p _ _ (by omega) (by omega) (by omega) (by omega)).mono ?_; rintro e w' ⟨rfl, rfl⟩) | go_in)
  go_ret3
  exact ⟨rfl, rfl⟩

end Go.Proofs.Ytcpepenhebipbaa.Pc
