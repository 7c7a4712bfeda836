/- The table of the seven rates, in integers, and the contracts of the functions that read it (timebase) and of their references. No condition but that a rate is a byte. -/
import Derived.Test.YthmolfgjligaoaaChecked
import Derived.Test.YthmolfgjligaoaaBase
import Derived.Test.YthmolfgjligaoaaTim
import Derived.Test.YthmolfgjligaoaaQuo
namespace Go.Proofs.Ythmolfgjligaoaa.Tb
open Go.RowKit Ba Qu
set_option linter.unusedVariables false
set_option linter.unusedSimpArgs false

/-! ### Frame -/
def frameR (r t m : Int) : Int × Int := if va r = false ∨ m < 1 ∨ 3 < m then (0, 3) else if t < 0 ∨ 10378368000 < t then (0, 2) else if 10378368000 < quo t (tk r) m * tk r then (0, 2) else (quo t (tk r) m, 0)
theorem frame_typ (r t m : Int) (h : va r = false ∨ m < 1 ∨ 3 < m) : frameR r t m = (0, 3) := by unfold frameR; rw [if_pos h]
theorem frame_rng (r t m : Int) (h : va r = true) (m0 : 1 ≤ m) (m1 : m ≤ 3) (ht : t < 0 ∨ 10378368000 < t) : frameR r t m = (0, 2) := by
  unfold frameR; rw [if_neg (by simp [h]; omega), if_pos ht]
theorem frame_hi (r t m : Int) (h : va r = true) (m0 : 1 ≤ m) (m1 : m ≤ 3) (t0 : 0 ≤ t) (t1 : t ≤ 10378368000) (hq : 10378368000 < quo t (tk r) m * tk r) : frameR r t m = (0, 2) := by
  unfold frameR; rw [if_neg (by simp [h]; omega), if_neg (by omega), if_pos hq]
theorem frame_fit (r t m : Int) (h : va r = true) (m0 : 1 ≤ m) (m1 : m ≤ 3) (t0 : 0 ≤ t) (t1 : t ≤ 10378368000) (hq : quo t (tk r) m * tk r ≤ 10378368000) : frameR r t m = (quo t (tk r) m, 0) := by
  unfold frameR; rw [if_neg (by simp [h]; omega), if_neg (by omega), if_neg (by omega)]
theorem quo_prod (t d m : Int) (t0 : 0 ≤ t) (d0 : 0 < d) : 0 ≤ quo t d m * d ∧ quo t d m * d ≤ t + d := by
  have hq := quo_bd t d m t0 d0
  refine ⟨Int.mul_nonneg hq.1 (by omega), ?_⟩
  have h1 : t / d * d ≤ t := by have := Int.mul_ediv_add_emod t d; have := Int.emod_nonneg t (show d ≠ 0 by omega); rw [Int.mul_comm]; omega
  unfold quo
  rw [Int.add_mul]
  rcases up_01 (t % d) d m with h | h <;> rw [h] <;> omega

theorem Frame_any_core (r t m g p : Int) (c : Bool) (w : World) (r0 : 0 ≤ r) (r1 : r ≤ 255) (hv : va r = true) (m0 : 1 ≤ m) (m1 : m ≤ 3) (t0 : 0 ≤ t) (t1 : t ≤ 10378368000) (b0 : 2002 ≤ tk r) (b1 : tk r ≤ 5005) (g0 : 0 ≤ g) (g1 : g ≤ 10378368001) (p0 : 0 ≤ p) (p1 : p ≤ 10378373005)
    (eg : quo t (tk r) m = g) (ep : g * tk r = p) (hc : decide (10378368000 < p) = c) :
    Calls Try.prog 16 #[.int .u8 r, .int .i64 t, .int .u8 m] w fun e w' => e = .returned (if c = true then ret2 (0, 2) else ret2 (g, 0)) ∧ Below w.heap.size w w' := by
  have H := Lib.hid eg
  clear eg
  have t1 : decide (t < 0) = false := decide_eq_false (by omega)
  have t2 : decide (10378368000 < t) = false := decide_eq_false (by omega)
  have t3 : decide (m < 1) = false := decide_eq_false (by omega)
  have t4 : decide (3 < m) = false := decide_eq_false (by omega)
  have t5 : decide (1 ≤ m) = true := decide_eq_true (by omega)
  have t6 : decide (m ≤ 3) = true := decide_eq_true (by omega)
  cases c
  all_goals
    go_enter Try.func16, Try.ntmps16
    go_wp2_with (first | (go_at_call 20; refine (Valid_ok _ _ r0 r1).mono ?_; rintro e w1 ⟨rfl, hb1⟩; have hz1 := hb1.size; (try simp at hz1)) | (go_at_call 21; refine (RValid_ok _ _ r0 r1).mono ?_; rintro e w' ⟨rfl, rfl⟩) | (go_at_call 13; refine (Ticks_ok _ _ r0 r1).mono ?_; rintro e w1 ⟨rfl, hb1⟩; have hz1 := hb1.size; (try simp at hz1)) | (go_at_call 22; refine (RTicks_ok _ _ r0 r1).mono ?_; rintro e w1 ⟨rfl, hb1⟩; have hz1 := hb1.size; (try simp at hz1)) | (go_at_call 42; refine (Quot_ok _ _ _ _ t0 (by omega) (by omega) (by omega) m0 m1).mono ?_; rintro e w2 ⟨rfl, nq, rfl⟩; rw [H.out]) | (go_at_call 44; refine (RQuot_ok _ _ _ _ t0 (by omega) (by omega) (by omega) m0 m1).mono ?_; rintro e w2 ⟨rfl, nq, rfl⟩; rw [H.out]) | go_in)
    go_ret2
    exact ⟨rfl, by (repeat (first | exact Below.refl _ _ | assumption | refine Ba.below_step (by assumption) (by first | exact Nat.le_refl _ | omega | (simp; done) | (simp; omega)) ?_ | apply Below.drew | apply Ba.below_drewN | refine Below.alloc ?_ (by first | exact Nat.le_refl _ | omega | (simp; done) | (simp; omega)) _ | refine Below.setCell ?_ (by first | exact Nat.le_refl _ | omega | (simp; done) | (simp; omega)) _))⟩
theorem Frame_any (r t m : Int) (w : World) (r0 : 0 ≤ r) (r1 : r ≤ 255) (m0 : 0 ≤ m) (m1 : m ≤ 255) :
    Calls Try.prog 16 #[.int .u8 r, .int .i64 t, .int .u8 m] w fun e w' => e = .returned (ret2 (frameR r t m)) ∧ Below w.heap.size w w' := by
  rcases va_cases r with hv | hv
  · obtain ⟨b0, b1⟩ := tk_bd r hv
    by_cases c3 : m < 1
    · rw [frame_typ r t m (by omega)]
      have t7 : decide (m < 1) = true := decide_eq_true (by omega)
      have t8 : decide (1 ≤ m) = false := decide_eq_false (by omega)
      go_enter Try.func16, Try.ntmps16
      go_wp2_with (first | (go_at_call 20; refine (Valid_ok _ _ r0 r1).mono ?_; rintro e w1 ⟨rfl, hb1⟩; have hz1 := hb1.size; (try simp at hz1)) | (go_at_call 21; refine (RValid_ok _ _ r0 r1).mono ?_; rintro e w' ⟨rfl, rfl⟩) | go_in)
      go_ret2
      exact ⟨rfl, by (repeat (first | exact Below.refl _ _ | assumption | refine Ba.below_step (by assumption) (by first | exact Nat.le_refl _ | omega | (simp; done) | (simp; omega)) ?_ | apply Below.drew | apply Ba.below_drewN | refine Below.alloc ?_ (by first | exact Nat.le_refl _ | omega | (simp; done) | (simp; omega)) _ | refine Below.setCell ?_ (by first | exact Nat.le_refl _ | omega | (simp; done) | (simp; omega)) _))⟩
    by_cases c4 : 3 < m
    · rw [frame_typ r t m (by omega)]
      have t9 : decide (m < 1) = false := decide_eq_false (by omega)
      have t10 : decide (1 ≤ m) = true := decide_eq_true (by omega)
      have t11 : decide (3 < m) = true := decide_eq_true (by omega)
      have t12 : decide (m ≤ 3) = false := decide_eq_false (by omega)
      go_enter Try.func16, Try.ntmps16
      go_wp2_with (first | (go_at_call 20; refine (Valid_ok _ _ r0 r1).mono ?_; rintro e w1 ⟨rfl, hb1⟩; have hz1 := hb1.size; (try simp at hz1)) | (go_at_call 21; refine (RValid_ok _ _ r0 r1).mono ?_; rintro e w' ⟨rfl, rfl⟩) | go_in)
      go_ret2
      exact ⟨rfl, by (repeat (first | exact Below.refl _ _ | assumption | refine Ba.below_step (by assumption) (by first | exact Nat.le_refl _ | omega | (simp; done) | (simp; omega)) ?_ | apply Below.drew | apply Ba.below_drewN | refine Below.alloc ?_ (by first | exact Nat.le_refl _ | omega | (simp; done) | (simp; omega)) _ | refine Below.setCell ?_ (by first | exact Nat.le_refl _ | omega | (simp; done) | (simp; omega)) _))⟩
    by_cases c1 : t < 0
    · rw [frame_rng r t m hv (by omega) (by omega) (by omega)]
      have t13 : decide (m < 1) = false := decide_eq_false (by omega)
      have t14 : decide (1 ≤ m) = true := decide_eq_true (by omega)
      have t15 : decide (3 < m) = false := decide_eq_false (by omega)
      have t16 : decide (m ≤ 3) = true := decide_eq_true (by omega)
      have t17 : decide (t < 0) = true := decide_eq_true (by omega)
      go_enter Try.func16, Try.ntmps16
      go_wp2_with (first | (go_at_call 20; refine (Valid_ok _ _ r0 r1).mono ?_; rintro e w1 ⟨rfl, hb1⟩; have hz1 := hb1.size; (try simp at hz1)) | (go_at_call 21; refine (RValid_ok _ _ r0 r1).mono ?_; rintro e w' ⟨rfl, rfl⟩) | go_in)
      go_ret2
      exact ⟨rfl, by (repeat (first | exact Below.refl _ _ | assumption | refine Ba.below_step (by assumption) (by first | exact Nat.le_refl _ | omega | (simp; done) | (simp; omega)) ?_ | apply Below.drew | apply Ba.below_drewN | refine Below.alloc ?_ (by first | exact Nat.le_refl _ | omega | (simp; done) | (simp; omega)) _ | refine Below.setCell ?_ (by first | exact Nat.le_refl _ | omega | (simp; done) | (simp; omega)) _))⟩
    by_cases c2 : 10378368000 < t
    · rw [frame_rng r t m hv (by omega) (by omega) (by omega)]
      have t18 : decide (m < 1) = false := decide_eq_false (by omega)
      have t19 : decide (1 ≤ m) = true := decide_eq_true (by omega)
      have t20 : decide (3 < m) = false := decide_eq_false (by omega)
      have t21 : decide (m ≤ 3) = true := decide_eq_true (by omega)
      have t22 : decide (t < 0) = false := decide_eq_false (by omega)
      have t23 : decide (10378368000 < t) = true := decide_eq_true (by omega)
      go_enter Try.func16, Try.ntmps16
      go_wp2_with (first | (go_at_call 20; refine (Valid_ok _ _ r0 r1).mono ?_; rintro e w1 ⟨rfl, hb1⟩; have hz1 := hb1.size; (try simp at hz1)) | (go_at_call 21; refine (RValid_ok _ _ r0 r1).mono ?_; rintro e w' ⟨rfl, rfl⟩) | go_in)
      go_ret2
      exact ⟨rfl, by (repeat (first | exact Below.refl _ _ | assumption | refine Ba.below_step (by assumption) (by first | exact Nat.le_refl _ | omega | (simp; done) | (simp; omega)) ?_ | apply Below.drew | apply Ba.below_drewN | refine Below.alloc ?_ (by first | exact Nat.le_refl _ | omega | (simp; done) | (simp; omega)) _ | refine Below.setCell ?_ (by first | exact Nat.le_refl _ | omega | (simp; done) | (simp; omega)) _))⟩
    have g := quo_bd t (tk r) m (by omega) (by omega)
    have p := quo_prod t (tk r) m (by omega) (by omega)
    have hk := Frame_any_core r t m _ _ _ w r0 r1 hv (by omega) (by omega) (by omega) (by omega) b0 b1 g.1 (by omega) p.1 (by omega) rfl rfl rfl
    by_cases c5 : 10378368000 < quo t (tk r) m * tk r
    · rw [frame_hi r t m hv (by omega) (by omega) (by omega) (by omega) c5]
      rw [decide_eq_true c5] at hk
      exact hk
    · rw [frame_fit r t m hv (by omega) (by omega) (by omega) (by omega) (by omega)]
      rw [decide_eq_false c5] at hk
      exact hk
  · rw [frame_typ r t m (.inl hv)]
    go_enter Try.func16, Try.ntmps16
    go_wp2_with (first | (go_at_call 20; refine (Valid_ok _ _ r0 r1).mono ?_; rintro e w1 ⟨rfl, hb1⟩; have hz1 := hb1.size; (try simp at hz1)) | (go_at_call 21; refine (RValid_ok _ _ r0 r1).mono ?_; rintro e w' ⟨rfl, rfl⟩) | go_in)
    go_ret2
    exact ⟨rfl, by (repeat (first | exact Below.refl _ _ | assumption | refine Ba.below_step (by assumption) (by first | exact Nat.le_refl _ | omega | (simp; done) | (simp; omega)) ?_ | apply Below.drew | apply Ba.below_drewN | refine Below.alloc ?_ (by first | exact Nat.le_refl _ | omega | (simp; done) | (simp; omega)) _ | refine Below.setCell ?_ (by first | exact Nat.le_refl _ | omega | (simp; done) | (simp; omega)) _))⟩

theorem RFrame_any_core (r t m g p : Int) (c : Bool) (w : World) (r0 : 0 ≤ r) (r1 : r ≤ 255) (hv : va r = true) (m0 : 1 ≤ m) (m1 : m ≤ 3) (t0 : 0 ≤ t) (t1 : t ≤ 10378368000) (b0 : 2002 ≤ tk r) (b1 : tk r ≤ 5005) (g0 : 0 ≤ g) (g1 : g ≤ 10378368001) (p0 : 0 ≤ p) (p1 : p ≤ 10378373005)
    (eg : quo t (tk r) m = g) (ep : g * tk r = p) (hc : decide (10378368000 < p) = c) :
    Calls Try.prog 17 #[.int .u8 r, .int .i64 t, .int .u8 m] w fun e w' => e = .returned (if c = true then ret2 (0, 2) else ret2 (g, 0)) ∧ Below w.heap.size w w' := by
  have H := Lib.hid eg
  clear eg
  have t24 : decide (t < 0) = false := decide_eq_false (by omega)
  have t25 : decide (10378368000 < t) = false := decide_eq_false (by omega)
  have t26 : decide (m < 1) = false := decide_eq_false (by omega)
  have t27 : decide (3 < m) = false := decide_eq_false (by omega)
  have t28 : decide (1 ≤ m) = true := decide_eq_true (by omega)
  have t29 : decide (m ≤ 3) = true := decide_eq_true (by omega)
  cases c
  all_goals
    go_enter Try.func17, Try.ntmps17
    go_wp2_with (first | (go_at_call 20; refine (Valid_ok _ _ r0 r1).mono ?_; rintro e w1 ⟨rfl, hb1⟩; have hz1 := hb1.size; (try simp at hz1)) | (go_at_call 21; refine (RValid_ok _ _ r0 r1).mono ?_; rintro e w' ⟨rfl, rfl⟩) | (go_at_call 13; refine (Ticks_ok _ _ r0 r1).mono ?_; rintro e w1 ⟨rfl, hb1⟩; have hz1 := hb1.size; (try simp at hz1)) | (go_at_call 22; refine (RTicks_ok _ _ r0 r1).mono ?_; rintro e w1 ⟨rfl, hb1⟩; have hz1 := hb1.size; (try simp at hz1)) | (go_at_call 42; refine (Quot_ok _ _ _ _ t0 (by omega) (by omega) (by omega) m0 m1).mono ?_; rintro e w2 ⟨rfl, nq, rfl⟩; rw [H.out]) | (go_at_call 44; refine (RQuot_ok _ _ _ _ t0 (by omega) (by omega) (by omega) m0 m1).mono ?_; rintro e w2 ⟨rfl, nq, rfl⟩; rw [H.out]) | go_in)
    go_ret2
    exact ⟨rfl, by (repeat (first | exact Below.refl _ _ | assumption | refine Ba.below_step (by assumption) (by first | exact Nat.le_refl _ | omega | (simp; done) | (simp; omega)) ?_ | apply Below.drew | apply Ba.below_drewN | refine Below.alloc ?_ (by first | exact Nat.le_refl _ | omega | (simp; done) | (simp; omega)) _ | refine Below.setCell ?_ (by first | exact Nat.le_refl _ | omega | (simp; done) | (simp; omega)) _))⟩
theorem RFrame_any (r t m : Int) (w : World) (r0 : 0 ≤ r) (r1 : r ≤ 255) (m0 : 0 ≤ m) (m1 : m ≤ 255) :
    Calls Try.prog 17 #[.int .u8 r, .int .i64 t, .int .u8 m] w fun e w' => e = .returned (ret2 (frameR r t m)) ∧ Below w.heap.size w w' := by
  rcases va_cases r with hv | hv
  · obtain ⟨b0, b1⟩ := tk_bd r hv
    by_cases c3 : m < 1
    · rw [frame_typ r t m (by omega)]
      have t30 : decide (m < 1) = true := decide_eq_true (by omega)
      have t31 : decide (1 ≤ m) = false := decide_eq_false (by omega)
      go_enter Try.func17, Try.ntmps17
      go_wp2_with (first | (go_at_call 20; refine (Valid_ok _ _ r0 r1).mono ?_; rintro e w1 ⟨rfl, hb1⟩; have hz1 := hb1.size; (try simp at hz1)) | (go_at_call 21; refine (RValid_ok _ _ r0 r1).mono ?_; rintro e w' ⟨rfl, rfl⟩) | go_in)
      go_ret2
      exact ⟨rfl, by (repeat (first | exact Below.refl _ _ | assumption | refine Ba.below_step (by assumption) (by first | exact Nat.le_refl _ | omega | (simp; done) | (simp; omega)) ?_ | apply Below.drew | apply Ba.below_drewN | refine Below.alloc ?_ (by first | exact Nat.le_refl _ | omega | (simp; done) | (simp; omega)) _ | refine Below.setCell ?_ (by first | exact Nat.le_refl _ | omega | (simp; done) | (simp; omega)) _))⟩
    by_cases c4 : 3 < m
    · rw [frame_typ r t m (by omega)]
      have t32 : decide (m < 1) = false := decide_eq_false (by omega)
      have t33 : decide (1 ≤ m) = true := decide_eq_true (by omega)
      have t34 : decide (3 < m) = true := decide_eq_true (by omega)
      have t35 : decide (m ≤ 3) = false := decide_eq_false (by omega)
      go_enter Try.func17, Try.ntmps17
      go_wp2_with (first | (go_at_call 20; refine (Valid_ok _ _ r0 r1).mono ?_; rintro e w1 ⟨rfl, hb1⟩; have hz1 := hb1.size; (try simp at hz1)) | (go_at_call 21; refine (RValid_ok _ _ r0 r1).mono ?_; rintro e w' ⟨rfl, rfl⟩) | go_in)
      go_ret2
      exact ⟨rfl, by (repeat (first | exact Below.refl _ _ | assumption | refine Ba.below_step (by assumption) (by first | exact Nat.le_refl _ | omega | (simp; done) | (simp; omega)) ?_ | apply Below.drew | apply Ba.below_drewN | refine Below.alloc ?_ (by first | exact Nat.le_refl _ | omega | (simp; done) | (simp; omega)) _ | refine Below.setCell ?_ (by first | exact Nat.le_refl _ | omega | (simp; done) | (simp; omega)) _))⟩
    by_cases c1 : t < 0
    · rw [frame_rng r t m hv (by omega) (by omega) (by omega)]
      have t36 : decide (m < 1) = false := decide_eq_false (by omega)
      have t37 : decide (1 ≤ m) = true := decide_eq_true (by omega)
      have t38 : decide (3 < m) = false := decide_eq_false (by omega)
      have t39 : decide (m ≤ 3) = true := decide_eq_true (by omega)
      have t40 : decide (t < 0) = true := decide_eq_true (by omega)
      go_enter Try.func17, Try.ntmps17
      go_wp2_with (first | (go_at_call 20; refine (Valid_ok _ _ r0 r1).mono ?_; rintro e w1 ⟨rfl, hb1⟩; have hz1 := hb1.size; (try simp at hz1)) | (go_at_call 21; refine (RValid_ok _ _ r0 r1).mono ?_; rintro e w' ⟨rfl, rfl⟩) | go_in)
      go_ret2
      exact ⟨rfl, by (repeat (first | exact Below.refl _ _ | assumption | refine Ba.below_step (by assumption) (by first | exact Nat.le_refl _ | omega | (simp; done) | (simp; omega)) ?_ | apply Below.drew | apply Ba.below_drewN | refine Below.alloc ?_ (by first | exact Nat.le_refl _ | omega | (simp; done) | (simp; omega)) _ | refine Below.setCell ?_ (by first | exact Nat.le_refl _ | omega | (simp; done) | (simp; omega)) _))⟩
    by_cases c2 : 10378368000 < t
    · rw [frame_rng r t m hv (by omega) (by omega) (by omega)]
      have t41 : decide (m < 1) = false := decide_eq_false (by omega)
      have t42 : decide (1 ≤ m) = true := decide_eq_true (by omega)
      have t43 : decide (3 < m) = false := decide_eq_false (by omega)
      have t44 : decide (m ≤ 3) = true := decide_eq_true (by omega)
      have t45 : decide (t < 0) = false := decide_eq_false (by omega)
      have t46 : decide (10378368000 < t) = true := decide_eq_true (by omega)
      go_enter Try.func17, Try.ntmps17
      go_wp2_with (first | (go_at_call 20; refine (Valid_ok _ _ r0 r1).mono ?_; rintro e w1 ⟨rfl, hb1⟩; have hz1 := hb1.size; (try simp at hz1)) | (go_at_call 21; refine (RValid_ok _ _ r0 r1).mono ?_; rintro e w' ⟨rfl, rfl⟩) | go_in)
      go_ret2
      exact ⟨rfl, by (repeat (first | exact Below.refl _ _ | assumption | refine Ba.below_step (by assumption) (by first | exact Nat.le_refl _ | omega | (simp; done) | (simp; omega)) ?_ | apply Below.drew | apply Ba.below_drewN | refine Below.alloc ?_ (by first | exact Nat.le_refl _ | omega | (simp; done) | (simp; omega)) _ | refine Below.setCell ?_ (by first | exact Nat.le_refl _ | omega | (simp; done) | (simp; omega)) _))⟩
    have g := quo_bd t (tk r) m (by omega) (by omega)
    have p := quo_prod t (tk r) m (by omega) (by omega)
    have hk := RFrame_any_core r t m _ _ _ w r0 r1 hv (by omega) (by omega) (by omega) (by omega) b0 b1 g.1 (by omega) p.1 (by omega) rfl rfl rfl
    by_cases c5 : 10378368000 < quo t (tk r) m * tk r
    · rw [frame_hi r t m hv (by omega) (by omega) (by omega) (by omega) c5]
      rw [decide_eq_true c5] at hk
      exact hk
    · rw [frame_fit r t m hv (by omega) (by omega) (by omega) (by omega) (by omega)]
      rw [decide_eq_false c5] at hk
      exact hk
  · rw [frame_typ r t m (.inl hv)]
    go_enter Try.func17, Try.ntmps17
    go_wp2_with (first | (go_at_call 20; refine (Valid_ok _ _ r0 r1).mono ?_; rintro e w1 ⟨rfl, hb1⟩; have hz1 := hb1.size; (try simp at hz1)) | (go_at_call 21; refine (RValid_ok _ _ r0 r1).mono ?_; rintro e w' ⟨rfl, rfl⟩) | go_in)
    go_ret2
    exact ⟨rfl, by (repeat (first | exact Below.refl _ _ | assumption | refine Ba.below_step (by assumption) (by first | exact Nat.le_refl _ | omega | (simp; done) | (simp; omega)) ?_ | apply Below.drew | apply Ba.below_drewN | refine Below.alloc ?_ (by first | exact Nat.le_refl _ | omega | (simp; done) | (simp; omega)) _ | refine Below.setCell ?_ (by first | exact Nat.le_refl _ | omega | (simp; done) | (simp; omega)) _))⟩

end Go.Proofs.Ythmolfgjligaoaa.Tb
