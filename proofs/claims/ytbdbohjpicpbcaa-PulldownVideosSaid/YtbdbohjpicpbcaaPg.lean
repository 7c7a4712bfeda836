/- Contracts of layer 4 (pulldown) and of its reference: what each function returns, in integers. No condition but those that each theorem names. -/
import Derived.Test.YtbdbohjpicpbcaaChecked
import Derived.Test.YtbdbohjpicpbcaaPull
import Derived.Test.YtbdbohjpicpbcaaBase
import Derived.Test.YtbdbohjpicpbcaaQuo
import Derived.Test.YtbdbohjpicpbcaaPc
namespace Go.Proofs.Ytbdbohjpicpbcaa.Pc
open Go.RowKit Pu Ba Qu
set_option linter.unusedVariables false
set_option linter.unusedSimpArgs false

/-! ### Video -/
def videoR (p n m : Int) : Int × Int := if p < 0 ∨ 4 ≤ p then (0, 1) else if m < 1 ∨ 3 < m then (0, 3) else if n < 0 ∨ 5184000 < n then (0, 2) else (quo (fld p n) 2 m, 0)
theorem video_arg (p n m : Int) (h : p < 0 ∨ 4 ≤ p) : videoR p n m = (0, 1) := by unfold videoR; rw [if_pos h]
theorem video_typ (p n m : Int) (h0 : 0 ≤ p) (h1 : p < 4) (h : m < 1 ∨ 3 < m) : videoR p n m = (0, 3) := by unfold videoR; rw [if_neg (by omega), if_pos h]
theorem video_rng (p n m : Int) (h0 : 0 ≤ p) (h1 : p < 4) (h2 : 1 ≤ m) (h3 : m ≤ 3) (h : n < 0 ∨ 5184000 < n) : videoR p n m = (0, 2) := by unfold videoR; rw [if_neg (by omega), if_neg (by omega), if_pos h]
theorem video_fit (p n m : Int) (h0 : 0 ≤ p) (h1 : p < 4) (h2 : 1 ≤ m) (h3 : m ≤ 3) (h4 : 0 ≤ n) (h5 : n ≤ 5184000) : videoR p n m = (quo (fld p n) 2 m, 0) := by unfold videoR; rw [if_neg (by omega), if_neg (by omega), if_neg (by omega)]

theorem Video_any (p n m : Int) (w : World) :
    Calls Try.prog 24 #[.int .i64 p, .int .i64 n, .int .u8 m] w fun e w' => e = .returned (ret2 (videoR p n m)) ∧ Below w.heap.size w w' := by
  by_cases c1 : p < 0
  · rw [video_arg p n m (by omega)]
    have t1 : decide (0 ≤ p) = false := decide_eq_false (by omega)
    go_enter Try.func24, Try.ntmps24
    go_wp2
    go_ret2
    exact ⟨rfl, by (repeat (first | exact Below.refl _ _ | assumption | refine Ba.below_step (by assumption) (by first | exact Nat.le_refl _ | omega | (simp; done) | (simp; omega)) ?_ | apply Below.drew | apply Ba.below_drewN | refine Below.alloc ?_ (by first | exact Nat.le_refl _ | omega | (simp; done) | (simp; omega)) _ | refine Below.setCell ?_ (by first | exact Nat.le_refl _ | omega | (simp; done) | (simp; omega)) _))⟩
  by_cases c2 : 4 ≤ p
  · rw [video_arg p n m (by omega)]
    have t2 : decide (0 ≤ p) = true := decide_eq_true (by omega)
    have t3 : decide (p < 4) = false := decide_eq_false (by omega)
    go_enter Try.func24, Try.ntmps24
    go_wp2
    go_ret2
    exact ⟨rfl, by (repeat (first | exact Below.refl _ _ | assumption | refine Ba.below_step (by assumption) (by first | exact Nat.le_refl _ | omega | (simp; done) | (simp; omega)) ?_ | apply Below.drew | apply Ba.below_drewN | refine Below.alloc ?_ (by first | exact Nat.le_refl _ | omega | (simp; done) | (simp; omega)) _ | refine Below.setCell ?_ (by first | exact Nat.le_refl _ | omega | (simp; done) | (simp; omega)) _))⟩
  by_cases c3 : m < 1
  · rw [video_typ p n m (by omega) (by omega) (by omega)]
    have t4 : decide (0 ≤ p) = true := decide_eq_true (by omega)
    have t5 : decide (p < 4) = true := decide_eq_true (by omega)
    have t6 : decide (1 ≤ m) = false := decide_eq_false (by omega)
    have t7 : decide (m < 1) = true := decide_eq_true (by omega)
    go_enter Try.func24, Try.ntmps24
    go_wp2
    go_ret2
    exact ⟨rfl, by (repeat (first | exact Below.refl _ _ | assumption | refine Ba.below_step (by assumption) (by first | exact Nat.le_refl _ | omega | (simp; done) | (simp; omega)) ?_ | apply Below.drew | apply Ba.below_drewN | refine Below.alloc ?_ (by first | exact Nat.le_refl _ | omega | (simp; done) | (simp; omega)) _ | refine Below.setCell ?_ (by first | exact Nat.le_refl _ | omega | (simp; done) | (simp; omega)) _))⟩
  by_cases c6 : 3 < m
  · rw [video_typ p n m (by omega) (by omega) (by omega)]
    have t8 : decide (0 ≤ p) = true := decide_eq_true (by omega)
    have t9 : decide (p < 4) = true := decide_eq_true (by omega)
    have t10 : decide (1 ≤ m) = true := decide_eq_true (by omega)
    have t11 : decide (m < 1) = false := decide_eq_false (by omega)
    have t12 : decide (m ≤ 3) = false := decide_eq_false (by omega)
    have t13 : decide (3 < m) = true := decide_eq_true (by omega)
    go_enter Try.func24, Try.ntmps24
    go_wp2
    go_ret2
    exact ⟨rfl, by (repeat (first | exact Below.refl _ _ | assumption | refine Ba.below_step (by assumption) (by first | exact Nat.le_refl _ | omega | (simp; done) | (simp; omega)) ?_ | apply Below.drew | apply Ba.below_drewN | refine Below.alloc ?_ (by first | exact Nat.le_refl _ | omega | (simp; done) | (simp; omega)) _ | refine Below.setCell ?_ (by first | exact Nat.le_refl _ | omega | (simp; done) | (simp; omega)) _))⟩
  by_cases c4 : n < 0
  · rw [video_rng p n m (by omega) (by omega) (by omega) (by omega) (by omega)]
    have t14 : decide (0 ≤ p) = true := decide_eq_true (by omega)
    have t15 : decide (p < 4) = true := decide_eq_true (by omega)
    have t16 : decide (0 ≤ n) = false := decide_eq_false (by omega)
    have t17 : decide (n < 0) = true := decide_eq_true (by omega)
    have t18 : decide (1 ≤ m) = true := decide_eq_true (by omega)
    have t19 : decide (m < 1) = false := decide_eq_false (by omega)
    have t20 : decide (m ≤ 3) = true := decide_eq_true (by omega)
    have t21 : decide (3 < m) = false := decide_eq_false (by omega)
    go_enter Try.func24, Try.ntmps24
    go_wp2
    go_ret2
    exact ⟨rfl, by (repeat (first | exact Below.refl _ _ | assumption | refine Ba.below_step (by assumption) (by first | exact Nat.le_refl _ | omega | (simp; done) | (simp; omega)) ?_ | apply Below.drew | apply Ba.below_drewN | refine Below.alloc ?_ (by first | exact Nat.le_refl _ | omega | (simp; done) | (simp; omega)) _ | refine Below.setCell ?_ (by first | exact Nat.le_refl _ | omega | (simp; done) | (simp; omega)) _))⟩
  by_cases c5 : 5184000 < n
  · rw [video_rng p n m (by omega) (by omega) (by omega) (by omega) (by omega)]
    have t22 : decide (0 ≤ p) = true := decide_eq_true (by omega)
    have t23 : decide (p < 4) = true := decide_eq_true (by omega)
    have t24 : decide (0 ≤ n) = true := decide_eq_true (by omega)
    have t25 : decide (n ≤ 5184000) = false := decide_eq_false (by omega)
    have t26 : decide (n < 0) = false := decide_eq_false (by omega)
    have t27 : decide (5184000 < n) = true := decide_eq_true (by omega)
    have t28 : decide (1 ≤ m) = true := decide_eq_true (by omega)
    have t29 : decide (m < 1) = false := decide_eq_false (by omega)
    have t30 : decide (m ≤ 3) = true := decide_eq_true (by omega)
    have t31 : decide (3 < m) = false := decide_eq_false (by omega)
    go_enter Try.func24, Try.ntmps24
    go_wp2
    go_ret2
    exact ⟨rfl, by (repeat (first | exact Below.refl _ _ | assumption | refine Ba.below_step (by assumption) (by first | exact Nat.le_refl _ | omega | (simp; done) | (simp; omega)) ?_ | apply Below.drew | apply Ba.below_drewN | refine Below.alloc ?_ (by first | exact Nat.le_refl _ | omega | (simp; done) | (simp; omega)) _ | refine Below.setCell ?_ (by first | exact Nat.le_refl _ | omega | (simp; done) | (simp; omega)) _))⟩
  rw [video_fit p n m (by omega) (by omega) (by omega) (by omega) (by omega) (by omega)]
  have t32 : decide (0 ≤ p) = true := decide_eq_true (by omega)
  have t33 : decide (p < 4) = true := decide_eq_true (by omega)
  have t34 : decide (0 ≤ n) = true := decide_eq_true (by omega)
  have t35 : decide (n ≤ 5184000) = true := decide_eq_true (by omega)
  have t36 : decide (n < 0) = false := decide_eq_false (by omega)
  have t37 : decide (5184000 < n) = false := decide_eq_false (by omega)
  have t38 : decide (1 ≤ m) = true := decide_eq_true (by omega)
  have t39 : decide (m < 1) = false := decide_eq_false (by omega)
  have t40 : decide (m ≤ 3) = true := decide_eq_true (by omega)
  have t41 : decide (3 < m) = false := decide_eq_false (by omega)
  have fb := fld_bd p n (by omega) (by omega)
  go_enter Try.func24, Try.ntmps24
  go_wp2_with (first | (go_at_call 28; refine (begin_ok p n _ (by omega) (by omega) (by omega) (by omega)).mono ?_; rintro e w' ⟨rfl, rfl⟩) | (go_at_call 36; refine (Quot_ok _ _ _ _ (by omega) (by omega) (by omega) (by omega) (by omega) (by omega)).mono ?_; rintro e w' ⟨rfl, k, rfl⟩) | go_in)
  go_ret2
  exact ⟨rfl, by (repeat (first | exact Below.refl _ _ | assumption | refine Ba.below_step (by assumption) (by first | exact Nat.le_refl _ | omega | (simp; done) | (simp; omega)) ?_ | apply Below.drew | apply Ba.below_drewN | refine Below.alloc ?_ (by first | exact Nat.le_refl _ | omega | (simp; done) | (simp; omega)) _ | refine Below.setCell ?_ (by first | exact Nat.le_refl _ | omega | (simp; done) | (simp; omega)) _))⟩

theorem RVideo_any (p n m : Int) (w : World) :
    Calls Try.prog 25 #[.int .i64 p, .int .i64 n, .int .u8 m] w fun e w' => e = .returned (ret2 (videoR p n m)) ∧ Below w.heap.size w w' := by
  by_cases c1 : p < 0
  · rw [video_arg p n m (by omega)]
    have t42 : decide (0 ≤ p) = false := decide_eq_false (by omega)
    go_enter Try.func25, Try.ntmps25
    go_wp2
    go_ret2
    exact ⟨rfl, by (repeat (first | exact Below.refl _ _ | assumption | refine Ba.below_step (by assumption) (by first | exact Nat.le_refl _ | omega | (simp; done) | (simp; omega)) ?_ | apply Below.drew | apply Ba.below_drewN | refine Below.alloc ?_ (by first | exact Nat.le_refl _ | omega | (simp; done) | (simp; omega)) _ | refine Below.setCell ?_ (by first | exact Nat.le_refl _ | omega | (simp; done) | (simp; omega)) _))⟩
  by_cases c2 : 4 ≤ p
  · rw [video_arg p n m (by omega)]
    have t43 : decide (0 ≤ p) = true := decide_eq_true (by omega)
    have t44 : decide (p < 4) = false := decide_eq_false (by omega)
    go_enter Try.func25, Try.ntmps25
    go_wp2
    go_ret2
    exact ⟨rfl, by (repeat (first | exact Below.refl _ _ | assumption | refine Ba.below_step (by assumption) (by first | exact Nat.le_refl _ | omega | (simp; done) | (simp; omega)) ?_ | apply Below.drew | apply Ba.below_drewN | refine Below.alloc ?_ (by first | exact Nat.le_refl _ | omega | (simp; done) | (simp; omega)) _ | refine Below.setCell ?_ (by first | exact Nat.le_refl _ | omega | (simp; done) | (simp; omega)) _))⟩
  by_cases c3 : m < 1
  · rw [video_typ p n m (by omega) (by omega) (by omega)]
    have t45 : decide (0 ≤ p) = true := decide_eq_true (by omega)
    have t46 : decide (p < 4) = true := decide_eq_true (by omega)
    have t47 : decide (1 ≤ m) = false := decide_eq_false (by omega)
    have t48 : decide (m < 1) = true := decide_eq_true (by omega)
    go_enter Try.func25, Try.ntmps25
    go_wp2
    go_ret2
    exact ⟨rfl, by (repeat (first | exact Below.refl _ _ | assumption | refine Ba.below_step (by assumption) (by first | exact Nat.le_refl _ | omega | (simp; done) | (simp; omega)) ?_ | apply Below.drew | apply Ba.below_drewN | refine Below.alloc ?_ (by first | exact Nat.le_refl _ | omega | (simp; done) | (simp; omega)) _ | refine Below.setCell ?_ (by first | exact Nat.le_refl _ | omega | (simp; done) | (simp; omega)) _))⟩
  by_cases c6 : 3 < m
  · rw [video_typ p n m (by omega) (by omega) (by omega)]
    have t49 : decide (0 ≤ p) = true := decide_eq_true (by omega)
    have t50 : decide (p < 4) = true := decide_eq_true (by omega)
    have t51 : decide (1 ≤ m) = true := decide_eq_true (by omega)
    have t52 : decide (m < 1) = false := decide_eq_false (by omega)
    have t53 : decide (m ≤ 3) = false := decide_eq_false (by omega)
    have t54 : decide (3 < m) = true := decide_eq_true (by omega)
    go_enter Try.func25, Try.ntmps25
    go_wp2
    go_ret2
    exact ⟨rfl, by (repeat (first | exact Below.refl _ _ | assumption | refine Ba.below_step (by assumption) (by first | exact Nat.le_refl _ | omega | (simp; done) | (simp; omega)) ?_ | apply Below.drew | apply Ba.below_drewN | refine Below.alloc ?_ (by first | exact Nat.le_refl _ | omega | (simp; done) | (simp; omega)) _ | refine Below.setCell ?_ (by first | exact Nat.le_refl _ | omega | (simp; done) | (simp; omega)) _))⟩
  by_cases c4 : n < 0
  · rw [video_rng p n m (by omega) (by omega) (by omega) (by omega) (by omega)]
    have t55 : decide (0 ≤ p) = true := decide_eq_true (by omega)
    have t56 : decide (p < 4) = true := decide_eq_true (by omega)
    have t57 : decide (0 ≤ n) = false := decide_eq_false (by omega)
    have t58 : decide (n < 0) = true := decide_eq_true (by omega)
    have t59 : decide (1 ≤ m) = true := decide_eq_true (by omega)
    have t60 : decide (m < 1) = false := decide_eq_false (by omega)
    have t61 : decide (m ≤ 3) = true := decide_eq_true (by omega)
    have t62 : decide (3 < m) = false := decide_eq_false (by omega)
    go_enter Try.func25, Try.ntmps25
    go_wp2
    go_ret2
    exact ⟨rfl, by (repeat (first | exact Below.refl _ _ | assumption | refine Ba.below_step (by assumption) (by first | exact Nat.le_refl _ | omega | (simp; done) | (simp; omega)) ?_ | apply Below.drew | apply Ba.below_drewN | refine Below.alloc ?_ (by first | exact Nat.le_refl _ | omega | (simp; done) | (simp; omega)) _ | refine Below.setCell ?_ (by first | exact Nat.le_refl _ | omega | (simp; done) | (simp; omega)) _))⟩
  by_cases c5 : 5184000 < n
  · rw [video_rng p n m (by omega) (by omega) (by omega) (by omega) (by omega)]
    have t63 : decide (0 ≤ p) = true := decide_eq_true (by omega)
    have t64 : decide (p < 4) = true := decide_eq_true (by omega)
    have t65 : decide (0 ≤ n) = true := decide_eq_true (by omega)
    have t66 : decide (n ≤ 5184000) = false := decide_eq_false (by omega)
    have t67 : decide (n < 0) = false := decide_eq_false (by omega)
    have t68 : decide (5184000 < n) = true := decide_eq_true (by omega)
    have t69 : decide (1 ≤ m) = true := decide_eq_true (by omega)
    have t70 : decide (m < 1) = false := decide_eq_false (by omega)
    have t71 : decide (m ≤ 3) = true := decide_eq_true (by omega)
    have t72 : decide (3 < m) = false := decide_eq_false (by omega)
    go_enter Try.func25, Try.ntmps25
    go_wp2
    go_ret2
    exact ⟨rfl, by (repeat (first | exact Below.refl _ _ | assumption | refine Ba.below_step (by assumption) (by first | exact Nat.le_refl _ | omega | (simp; done) | (simp; omega)) ?_ | apply Below.drew | apply Ba.below_drewN | refine Below.alloc ?_ (by first | exact Nat.le_refl _ | omega | (simp; done) | (simp; omega)) _ | refine Below.setCell ?_ (by first | exact Nat.le_refl _ | omega | (simp; done) | (simp; omega)) _))⟩
  rw [video_fit p n m (by omega) (by omega) (by omega) (by omega) (by omega) (by omega)]
  have t73 : decide (0 ≤ p) = true := decide_eq_true (by omega)
  have t74 : decide (p < 4) = true := decide_eq_true (by omega)
  have t75 : decide (0 ≤ n) = true := decide_eq_true (by omega)
  have t76 : decide (n ≤ 5184000) = true := decide_eq_true (by omega)
  have t77 : decide (n < 0) = false := decide_eq_false (by omega)
  have t78 : decide (5184000 < n) = false := decide_eq_false (by omega)
  have t79 : decide (1 ≤ m) = true := decide_eq_true (by omega)
  have t80 : decide (m < 1) = false := decide_eq_false (by omega)
  have t81 : decide (m ≤ 3) = true := decide_eq_true (by omega)
  have t82 : decide (3 < m) = false := decide_eq_false (by omega)
  have fb := fld_bd p n (by omega) (by omega)
  go_enter Try.func25, Try.ntmps25
  go_wp2_with (first | (go_at_call 31; refine (field_ok p n _ (by omega) (by omega) (by omega) (by omega)).mono ?_; rintro e w' ⟨rfl, rfl⟩) | (go_at_call 38; refine (RQuot_ok _ _ _ _ (by omega) (by omega) (by omega) (by omega) (by omega) (by omega)).mono ?_; rintro e w' ⟨rfl, k, rfl⟩) | go_in)
  go_ret2
  exact ⟨rfl, by (repeat (first | exact Below.refl _ _ | assumption | refine Ba.below_step (by assumption) (by first | exact Nat.le_refl _ | omega | (simp; done) | (simp; omega)) ?_ | apply Below.drew | apply Ba.below_drewN | refine Below.alloc ?_ (by first | exact Nat.le_refl _ | omega | (simp; done) | (simp; omega)) _ | refine Below.setCell ?_ (by first | exact Nat.le_refl _ | omega | (simp; done) | (simp; omega)) _))⟩

end Go.Proofs.Ytbdbohjpicpbcaa.Pc
