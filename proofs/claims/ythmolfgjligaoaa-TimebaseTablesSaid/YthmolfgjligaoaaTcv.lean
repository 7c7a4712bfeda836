/- The table of the seven rates, in integers, and the contracts of the functions that read it (timebase) and of their references. No condition but that a rate is a byte. -/
import Derived.Test.YthmolfgjligaoaaChecked
import Derived.Test.YthmolfgjligaoaaBase
import Derived.Test.YthmolfgjligaoaaTim
import Derived.Test.YthmolfgjligaoaaQuo
import Derived.Test.YthmolfgjligaoaaTfr
namespace Go.Proofs.Ythmolfgjligaoaa.Tb
open Go.RowKit Ba Qu
set_option linter.unusedVariables false
set_option linter.unusedSimpArgs false

/-! ### Frames -/
def framesR (r t : Int) : Int × Int := if va r = false then (0, 3) else if t < 0 ∨ 10378368000 < t then (0, 2) else (t / tk r, 0)
theorem frames_typ (r t : Int) (h : va r = false) : framesR r t = (0, 3) := by unfold framesR; rw [if_pos h]
theorem frames_rng (r t : Int) (h : va r = true) (ht : t < 0 ∨ 10378368000 < t) : framesR r t = (0, 2) := by unfold framesR; rw [if_neg (by simp [h]), if_pos ht]
theorem frames_fit (r t : Int) (h : va r = true) (t0 : 0 ≤ t) (t1 : t ≤ 10378368000) : framesR r t = (t / tk r, 0) := by unfold framesR; rw [if_neg (by simp [h]), if_neg (by omega)]

theorem Frames_any_core (r t q : Int) (w : World) (r0 : 0 ≤ r) (r1 : r ≤ 255) (hv : va r = true) (t0 : 0 ≤ t) (t1 : t ≤ 10378368000) (b0 : 2002 ≤ tk r) (b1 : tk r ≤ 5005) (q0 : 0 ≤ q) (q1 : q ≤ 10378368000)
    (e1 : t.tdiv (tk r) = q) (e2 : t / tk r = q) :
    Calls Try.prog 31 #[.int .u8 r, .int .i64 t] w fun e w' => e = .returned (ret2 (q, 0)) ∧ Below w.heap.size w w' := by
  have t1 : decide (t < 0) = false := decide_eq_false (by omega)
  have t2 : decide (10378368000 < t) = false := decide_eq_false (by omega)
  go_enter Try.func31, Try.ntmps31
  go_wp2_with (first | (go_at_call 20; refine (Valid_ok _ _ (by omega) (by omega)).mono ?_; rintro e w1 ⟨rfl, hb1⟩; have hz1 := hb1.size; (try simp at hz1)) | (go_at_call 21; refine (RValid_ok _ _ (by omega) (by omega)).mono ?_; rintro e w' ⟨rfl, rfl⟩) | (go_at_call 13; refine (Ticks_ok _ _ r0 r1).mono ?_; rintro e w1 ⟨rfl, hb1⟩; have hz1 := hb1.size; (try simp at hz1)) | (go_at_call 22; refine (RTicks_ok _ _ r0 r1).mono ?_; rintro e w1 ⟨rfl, hb1⟩; have hz1 := hb1.size; (try simp at hz1)) | go_in)
  go_ret2
  exact ⟨rfl, by (repeat (first | exact Below.refl _ _ | assumption | refine Ba.below_step (by assumption) (by first | exact Nat.le_refl _ | omega | (simp; done) | (simp; omega)) ?_ | apply Below.drew | apply Ba.below_drewN | refine Below.alloc ?_ (by first | exact Nat.le_refl _ | omega | (simp; done) | (simp; omega)) _ | refine Below.setCell ?_ (by first | exact Nat.le_refl _ | omega | (simp; done) | (simp; omega)) _))⟩
theorem Frames_any (r t : Int) (w : World) (r0 : 0 ≤ r) (r1 : r ≤ 255) :
    Calls Try.prog 31 #[.int .u8 r, .int .i64 t] w fun e w' => e = .returned (ret2 (framesR r t)) ∧ Below w.heap.size w w' := by
  rcases va_cases r with hv | hv
  · obtain ⟨b0, b1⟩ := tk_bd r hv
    by_cases c1 : t < 0
    · rw [frames_rng r t hv (by omega)]
      have t3 : decide (t < 0) = true := decide_eq_true (by omega)
      go_enter Try.func31, Try.ntmps31
      go_wp2_with (first | (go_at_call 20; refine (Valid_ok _ _ (by omega) (by omega)).mono ?_; rintro e w1 ⟨rfl, hb1⟩; have hz1 := hb1.size; (try simp at hz1)) | (go_at_call 21; refine (RValid_ok _ _ (by omega) (by omega)).mono ?_; rintro e w' ⟨rfl, rfl⟩) | go_in)
      go_ret2
      exact ⟨rfl, by (repeat (first | exact Below.refl _ _ | assumption | refine Ba.below_step (by assumption) (by first | exact Nat.le_refl _ | omega | (simp; done) | (simp; omega)) ?_ | apply Below.drew | apply Ba.below_drewN | refine Below.alloc ?_ (by first | exact Nat.le_refl _ | omega | (simp; done) | (simp; omega)) _ | refine Below.setCell ?_ (by first | exact Nat.le_refl _ | omega | (simp; done) | (simp; omega)) _))⟩
    by_cases c2 : 10378368000 < t
    · rw [frames_rng r t hv (by omega)]
      have t4 : decide (t < 0) = false := decide_eq_false (by omega)
      have t5 : decide (10378368000 < t) = true := decide_eq_true (by omega)
      go_enter Try.func31, Try.ntmps31
      go_wp2_with (first | (go_at_call 20; refine (Valid_ok _ _ (by omega) (by omega)).mono ?_; rintro e w1 ⟨rfl, hb1⟩; have hz1 := hb1.size; (try simp at hz1)) | (go_at_call 21; refine (RValid_ok _ _ (by omega) (by omega)).mono ?_; rintro e w' ⟨rfl, rfl⟩) | go_in)
      go_ret2
      exact ⟨rfl, by (repeat (first | exact Below.refl _ _ | assumption | refine Ba.below_step (by assumption) (by first | exact Nat.le_refl _ | omega | (simp; done) | (simp; omega)) ?_ | apply Below.drew | apply Ba.below_drewN | refine Below.alloc ?_ (by first | exact Nat.le_refl _ | omega | (simp; done) | (simp; omega)) _ | refine Below.setCell ?_ (by first | exact Nat.le_refl _ | omega | (simp; done) | (simp; omega)) _))⟩
    rw [frames_fit r t hv (by omega) (by omega)]
    have d := div_bd t (tk r) (by omega) (by omega)
    exact Frames_any_core r t _ w r0 r1 hv (by omega) (by omega) b0 b1 d.1 (by omega) (Int.tdiv_eq_ediv_of_nonneg (by omega)) rfl
  · rw [frames_typ r t hv]
    go_enter Try.func31, Try.ntmps31
    go_wp2_with (first | (go_at_call 20; refine (Valid_ok _ _ (by omega) (by omega)).mono ?_; rintro e w1 ⟨rfl, hb1⟩; have hz1 := hb1.size; (try simp at hz1)) | (go_at_call 21; refine (RValid_ok _ _ (by omega) (by omega)).mono ?_; rintro e w' ⟨rfl, rfl⟩) | go_in)
    go_ret2
    exact ⟨rfl, by (repeat (first | exact Below.refl _ _ | assumption | refine Ba.below_step (by assumption) (by first | exact Nat.le_refl _ | omega | (simp; done) | (simp; omega)) ?_ | apply Below.drew | apply Ba.below_drewN | refine Below.alloc ?_ (by first | exact Nat.le_refl _ | omega | (simp; done) | (simp; omega)) _ | refine Below.setCell ?_ (by first | exact Nat.le_refl _ | omega | (simp; done) | (simp; omega)) _))⟩

theorem RFrames_any_core (r t q : Int) (w : World) (r0 : 0 ≤ r) (r1 : r ≤ 255) (hv : va r = true) (t0 : 0 ≤ t) (t1 : t ≤ 10378368000) (b0 : 2002 ≤ tk r) (b1 : tk r ≤ 5005) (q0 : 0 ≤ q) (q1 : q ≤ 10378368000)
    (e1 : t.tdiv (tk r) = q) (e2 : t / tk r = q) :
    Calls Try.prog 32 #[.int .u8 r, .int .i64 t] w fun e w' => e = .returned (ret2 (q, 0)) ∧ Below w.heap.size w w' := by
  have t6 : decide (t < 0) = false := decide_eq_false (by omega)
  have t7 : decide (10378368000 < t) = false := decide_eq_false (by omega)
  go_enter Try.func32, Try.ntmps32
  go_wp2_with (first | (go_at_call 20; refine (Valid_ok _ _ (by omega) (by omega)).mono ?_; rintro e w1 ⟨rfl, hb1⟩; have hz1 := hb1.size; (try simp at hz1)) | (go_at_call 21; refine (RValid_ok _ _ (by omega) (by omega)).mono ?_; rintro e w' ⟨rfl, rfl⟩) | (go_at_call 13; refine (Ticks_ok _ _ r0 r1).mono ?_; rintro e w1 ⟨rfl, hb1⟩; have hz1 := hb1.size; (try simp at hz1)) | (go_at_call 22; refine (RTicks_ok _ _ r0 r1).mono ?_; rintro e w1 ⟨rfl, hb1⟩; have hz1 := hb1.size; (try simp at hz1)) | go_in)
  go_ret2
  exact ⟨rfl, by (repeat (first | exact Below.refl _ _ | assumption | refine Ba.below_step (by assumption) (by first | exact Nat.le_refl _ | omega | (simp; done) | (simp; omega)) ?_ | apply Below.drew | apply Ba.below_drewN | refine Below.alloc ?_ (by first | exact Nat.le_refl _ | omega | (simp; done) | (simp; omega)) _ | refine Below.setCell ?_ (by first | exact Nat.le_refl _ | omega | (simp; done) | (simp; omega)) _))⟩
theorem RFrames_any (r t : Int) (w : World) (r0 : 0 ≤ r) (r1 : r ≤ 255) :
    Calls Try.prog 32 #[.int .u8 r, .int .i64 t] w fun e w' => e = .returned (ret2 (framesR r t)) ∧ Below w.heap.size w w' := by
  rcases va_cases r with hv | hv
  · obtain ⟨b0, b1⟩ := tk_bd r hv
    by_cases c1 : t < 0
    · rw [frames_rng r t hv (by omega)]
      have t8 : decide (t < 0) = true := decide_eq_true (by omega)
      go_enter Try.func32, Try.ntmps32
      go_wp2_with (first | (go_at_call 20; refine (Valid_ok _ _ (by omega) (by omega)).mono ?_; rintro e w1 ⟨rfl, hb1⟩; have hz1 := hb1.size; (try simp at hz1)) | (go_at_call 21; refine (RValid_ok _ _ (by omega) (by omega)).mono ?_; rintro e w' ⟨rfl, rfl⟩) | go_in)
      go_ret2
      exact ⟨rfl, by (repeat (first | exact Below.refl _ _ | assumption | refine Ba.below_step (by assumption) (by first | exact Nat.le_refl _ | omega | (simp; done) | (simp; omega)) ?_ | apply Below.drew | apply Ba.below_drewN | refine Below.alloc ?_ (by first | exact Nat.le_refl _ | omega | (simp; done) | (simp; omega)) _ | refine Below.setCell ?_ (by first | exact Nat.le_refl _ | omega | (simp; done) | (simp; omega)) _))⟩
    by_cases c2 : 10378368000 < t
    · rw [frames_rng r t hv (by omega)]
      have t9 : decide (t < 0) = false := decide_eq_false (by omega)
      have t10 : decide (10378368000 < t) = true := decide_eq_true (by omega)
      go_enter Try.func32, Try.ntmps32
      go_wp2_with (first | (go_at_call 20; refine (Valid_ok _ _ (by omega) (by omega)).mono ?_; rintro e w1 ⟨rfl, hb1⟩; have hz1 := hb1.size; (try simp at hz1)) | (go_at_call 21; refine (RValid_ok _ _ (by omega) (by omega)).mono ?_; rintro e w' ⟨rfl, rfl⟩) | go_in)
      go_ret2
      exact ⟨rfl, by (repeat (first | exact Below.refl _ _ | assumption | refine Ba.below_step (by assumption) (by first | exact Nat.le_refl _ | omega | (simp; done) | (simp; omega)) ?_ | apply Below.drew | apply Ba.below_drewN | refine Below.alloc ?_ (by first | exact Nat.le_refl _ | omega | (simp; done) | (simp; omega)) _ | refine Below.setCell ?_ (by first | exact Nat.le_refl _ | omega | (simp; done) | (simp; omega)) _))⟩
    rw [frames_fit r t hv (by omega) (by omega)]
    have d := div_bd t (tk r) (by omega) (by omega)
    exact RFrames_any_core r t _ w r0 r1 hv (by omega) (by omega) b0 b1 d.1 (by omega) (Int.tdiv_eq_ediv_of_nonneg (by omega)) rfl
  · rw [frames_typ r t hv]
    go_enter Try.func32, Try.ntmps32
    go_wp2_with (first | (go_at_call 20; refine (Valid_ok _ _ (by omega) (by omega)).mono ?_; rintro e w1 ⟨rfl, hb1⟩; have hz1 := hb1.size; (try simp at hz1)) | (go_at_call 21; refine (RValid_ok _ _ (by omega) (by omega)).mono ?_; rintro e w' ⟨rfl, rfl⟩) | go_in)
    go_ret2
    exact ⟨rfl, by (repeat (first | exact Below.refl _ _ | assumption | refine Ba.below_step (by assumption) (by first | exact Nat.le_refl _ | omega | (simp; done) | (simp; omega)) ?_ | apply Below.drew | apply Ba.below_drewN | refine Below.alloc ?_ (by first | exact Nat.le_refl _ | omega | (simp; done) | (simp; omega)) _ | refine Below.setCell ?_ (by first | exact Nat.le_refl _ | omega | (simp; done) | (simp; omega)) _))⟩


/-! ### Convert -/
def convR (a b f m : Int) : Int × Int := if va a = false ∨ va b = false ∨ m < 1 ∨ 3 < m then (0, 3) else if (timeR a f).2 = 0 then frameR b (timeR a f).1 m else (0, (timeR a f).2)
theorem conv_typ (a b f m : Int) (h : va a = false ∨ va b = false ∨ m < 1 ∨ 3 < m) : convR a b f m = (0, 3) := by unfold convR; rw [if_pos h]
theorem conv_err (a b f m : Int) (ha : va a = true) (hb : va b = true) (m0 : 1 ≤ m) (m1 : m ≤ 3) (h : (timeR a f).2 ≠ 0) : convR a b f m = (0, (timeR a f).2) := by
  unfold convR; rw [if_neg (by simp [ha, hb]; omega), if_neg h]
theorem conv_fit (a b f m : Int) (ha : va a = true) (hb : va b = true) (m0 : 1 ≤ m) (m1 : m ≤ 3) (h : (timeR a f).2 = 0) : convR a b f m = frameR b (timeR a f).1 m := by
  unfold convR; rw [if_neg (by simp [ha, hb]; omega), if_pos h]
theorem timeR_cases (r f : Int) : (timeR r f).2 = 0 ∨ (timeR r f).2 ≠ 0 := by omega

theorem Convert_any (a b f m : Int) (w : World) (a0 : 0 ≤ a) (a1 : a ≤ 255) (b0 : 0 ≤ b) (b1 : b ≤ 255) (m0 : 0 ≤ m) (m1 : m ≤ 255) :
    Calls Try.prog 12 #[.int .u8 a, .int .u8 b, .int .i64 f, .int .u8 m] w fun e w' => e = .returned (ret2 (convR a b f m)) ∧ Below w.heap.size w w' := by
  rcases va_cases a with ha | ha
  · rcases va_cases b with hb | hb
    · by_cases c3 : m < 1
      · rw [conv_typ a b f m (by omega)]
        have t11 : decide (m < 1) = true := decide_eq_true (by omega)
        have t12 : decide (1 ≤ m) = false := decide_eq_false (by omega)
        go_enter Try.func12, Try.ntmps12
        go_wp2_with (first | (go_at_call 20; refine (Valid_ok _ _ (by omega) (by omega)).mono ?_; rintro e w1 ⟨rfl, hb1⟩; have hz1 := hb1.size; (try simp at hz1)) | (go_at_call 21; refine (RValid_ok _ _ (by omega) (by omega)).mono ?_; rintro e w' ⟨rfl, rfl⟩) | go_in)
        go_ret2
        exact ⟨rfl, by (repeat (first | exact Below.refl _ _ | assumption | refine Ba.below_step (by assumption) (by first | exact Nat.le_refl _ | omega | (simp; done) | (simp; omega)) ?_ | apply Below.drew | apply Ba.below_drewN | refine Below.alloc ?_ (by first | exact Nat.le_refl _ | omega | (simp; done) | (simp; omega)) _ | refine Below.setCell ?_ (by first | exact Nat.le_refl _ | omega | (simp; done) | (simp; omega)) _))⟩
      by_cases c4 : 3 < m
      · rw [conv_typ a b f m (by omega)]
        have t13 : decide (m < 1) = false := decide_eq_false (by omega)
        have t14 : decide (1 ≤ m) = true := decide_eq_true (by omega)
        have t15 : decide (3 < m) = true := decide_eq_true (by omega)
        have t16 : decide (m ≤ 3) = false := decide_eq_false (by omega)
        go_enter Try.func12, Try.ntmps12
        go_wp2_with (first | (go_at_call 20; refine (Valid_ok _ _ (by omega) (by omega)).mono ?_; rintro e w1 ⟨rfl, hb1⟩; have hz1 := hb1.size; (try simp at hz1)) | (go_at_call 21; refine (RValid_ok _ _ (by omega) (by omega)).mono ?_; rintro e w' ⟨rfl, rfl⟩) | go_in)
        go_ret2
        exact ⟨rfl, by (repeat (first | exact Below.refl _ _ | assumption | refine Ba.below_step (by assumption) (by first | exact Nat.le_refl _ | omega | (simp; done) | (simp; omega)) ?_ | apply Below.drew | apply Ba.below_drewN | refine Below.alloc ?_ (by first | exact Nat.le_refl _ | omega | (simp; done) | (simp; omega)) _ | refine Below.setCell ?_ (by first | exact Nat.le_refl _ | omega | (simp; done) | (simp; omega)) _))⟩
      have t17 : decide (m < 1) = false := decide_eq_false (by omega)
      have t18 : decide (1 ≤ m) = true := decide_eq_true (by omega)
      have t19 : decide (3 < m) = false := decide_eq_false (by omega)
      have t20 : decide (m ≤ 3) = true := decide_eq_true (by omega)
      rcases timeR_cases a f with ht | ht
      · rw [conv_fit a b f m ha hb (by omega) (by omega) ht]
        have t1 : ((timeR a f).2 != 0) = false := by simpa using ht
        clear ht
        go_enter Try.func12, Try.ntmps12
        go_wp2_with (first | (go_at_call 20; refine (Valid_ok _ _ (by omega) (by omega)).mono ?_; rintro e w1 ⟨rfl, hb1⟩; have hz1 := hb1.size; (try simp at hz1)) | (go_at_call 21; refine (RValid_ok _ _ (by omega) (by omega)).mono ?_; rintro e w' ⟨rfl, rfl⟩) | (go_at_call 29; refine (Time_any _ _ _ a0 a1).mono ?_; rintro e w1 ⟨rfl, hb1⟩; have hz1 := hb1.size; (try simp at hz1)) | (go_at_call 16; refine (Frame_any _ _ _ _ b0 b1 m0 m1).mono ?_; rintro e w1 ⟨rfl, hb1⟩; have hz1 := hb1.size; (try simp at hz1)) | go_in)
        go_ret2
        exact ⟨rfl, by (repeat (first | exact Below.refl _ _ | assumption | refine Ba.below_step (by assumption) (by first | exact Nat.le_refl _ | omega | (simp; done) | (simp; omega)) ?_ | apply Below.drew | apply Ba.below_drewN | refine Below.alloc ?_ (by first | exact Nat.le_refl _ | omega | (simp; done) | (simp; omega)) _ | refine Below.setCell ?_ (by first | exact Nat.le_refl _ | omega | (simp; done) | (simp; omega)) _))⟩
      · rw [conv_err a b f m ha hb (by omega) (by omega) ht]
        have t1 : ((timeR a f).2 != 0) = true := by simpa using ht
        clear ht
        go_enter Try.func12, Try.ntmps12
        go_wp2_with (first | (go_at_call 20; refine (Valid_ok _ _ (by omega) (by omega)).mono ?_; rintro e w1 ⟨rfl, hb1⟩; have hz1 := hb1.size; (try simp at hz1)) | (go_at_call 21; refine (RValid_ok _ _ (by omega) (by omega)).mono ?_; rintro e w' ⟨rfl, rfl⟩) | (go_at_call 29; refine (Time_any _ _ _ a0 a1).mono ?_; rintro e w1 ⟨rfl, hb1⟩; have hz1 := hb1.size; (try simp at hz1)) | go_in)
        go_ret2
        exact ⟨rfl, by (repeat (first | exact Below.refl _ _ | assumption | refine Ba.below_step (by assumption) (by first | exact Nat.le_refl _ | omega | (simp; done) | (simp; omega)) ?_ | apply Below.drew | apply Ba.below_drewN | refine Below.alloc ?_ (by first | exact Nat.le_refl _ | omega | (simp; done) | (simp; omega)) _ | refine Below.setCell ?_ (by first | exact Nat.le_refl _ | omega | (simp; done) | (simp; omega)) _))⟩
    · rw [conv_typ a b f m (.inr (.inl hb))]
      go_enter Try.func12, Try.ntmps12
      go_wp2_with (first | (go_at_call 20; refine (Valid_ok _ _ (by omega) (by omega)).mono ?_; rintro e w1 ⟨rfl, hb1⟩; have hz1 := hb1.size; (try simp at hz1)) | (go_at_call 21; refine (RValid_ok _ _ (by omega) (by omega)).mono ?_; rintro e w' ⟨rfl, rfl⟩) | go_in)
      go_ret2
      exact ⟨rfl, by (repeat (first | exact Below.refl _ _ | assumption | refine Ba.below_step (by assumption) (by first | exact Nat.le_refl _ | omega | (simp; done) | (simp; omega)) ?_ | apply Below.drew | apply Ba.below_drewN | refine Below.alloc ?_ (by first | exact Nat.le_refl _ | omega | (simp; done) | (simp; omega)) _ | refine Below.setCell ?_ (by first | exact Nat.le_refl _ | omega | (simp; done) | (simp; omega)) _))⟩
  · rw [conv_typ a b f m (.inl ha)]
    go_enter Try.func12, Try.ntmps12
    go_wp2_with (first | (go_at_call 20; refine (Valid_ok _ _ (by omega) (by omega)).mono ?_; rintro e w1 ⟨rfl, hb1⟩; have hz1 := hb1.size; (try simp at hz1)) | (go_at_call 21; refine (RValid_ok _ _ (by omega) (by omega)).mono ?_; rintro e w' ⟨rfl, rfl⟩) | go_in)
    go_ret2
    exact ⟨rfl, by (repeat (first | exact Below.refl _ _ | assumption | refine Ba.below_step (by assumption) (by first | exact Nat.le_refl _ | omega | (simp; done) | (simp; omega)) ?_ | apply Below.drew | apply Ba.below_drewN | refine Below.alloc ?_ (by first | exact Nat.le_refl _ | omega | (simp; done) | (simp; omega)) _ | refine Below.setCell ?_ (by first | exact Nat.le_refl _ | omega | (simp; done) | (simp; omega)) _))⟩

theorem RConvert_any (a b f m : Int) (w : World) (a0 : 0 ≤ a) (a1 : a ≤ 255) (b0 : 0 ≤ b) (b1 : b ≤ 255) (m0 : 0 ≤ m) (m1 : m ≤ 255) :
    Calls Try.prog 37 #[.int .u8 a, .int .u8 b, .int .i64 f, .int .u8 m] w fun e w' => e = .returned (ret2 (convR a b f m)) ∧ Below w.heap.size w w' := by
  rcases va_cases a with ha | ha
  · rcases va_cases b with hb | hb
    · by_cases c3 : m < 1
      · rw [conv_typ a b f m (by omega)]
        have t21 : decide (m < 1) = true := decide_eq_true (by omega)
        have t22 : decide (1 ≤ m) = false := decide_eq_false (by omega)
        go_enter Try.func37, Try.ntmps37
        go_wp2_with (first | (go_at_call 20; refine (Valid_ok _ _ (by omega) (by omega)).mono ?_; rintro e w1 ⟨rfl, hb1⟩; have hz1 := hb1.size; (try simp at hz1)) | (go_at_call 21; refine (RValid_ok _ _ (by omega) (by omega)).mono ?_; rintro e w' ⟨rfl, rfl⟩) | go_in)
        go_ret2
        exact ⟨rfl, by (repeat (first | exact Below.refl _ _ | assumption | refine Ba.below_step (by assumption) (by first | exact Nat.le_refl _ | omega | (simp; done) | (simp; omega)) ?_ | apply Below.drew | apply Ba.below_drewN | refine Below.alloc ?_ (by first | exact Nat.le_refl _ | omega | (simp; done) | (simp; omega)) _ | refine Below.setCell ?_ (by first | exact Nat.le_refl _ | omega | (simp; done) | (simp; omega)) _))⟩
      by_cases c4 : 3 < m
      · rw [conv_typ a b f m (by omega)]
        have t23 : decide (m < 1) = false := decide_eq_false (by omega)
        have t24 : decide (1 ≤ m) = true := decide_eq_true (by omega)
        have t25 : decide (3 < m) = true := decide_eq_true (by omega)
        have t26 : decide (m ≤ 3) = false := decide_eq_false (by omega)
        go_enter Try.func37, Try.ntmps37
        go_wp2_with (first | (go_at_call 20; refine (Valid_ok _ _ (by omega) (by omega)).mono ?_; rintro e w1 ⟨rfl, hb1⟩; have hz1 := hb1.size; (try simp at hz1)) | (go_at_call 21; refine (RValid_ok _ _ (by omega) (by omega)).mono ?_; rintro e w' ⟨rfl, rfl⟩) | go_in)
        go_ret2
        exact ⟨rfl, by (repeat (first | exact Below.refl _ _ | assumption | refine Ba.below_step (by assumption) (by first | exact Nat.le_refl _ | omega | (simp; done) | (simp; omega)) ?_ | apply Below.drew | apply Ba.below_drewN | refine Below.alloc ?_ (by first | exact Nat.le_refl _ | omega | (simp; done) | (simp; omega)) _ | refine Below.setCell ?_ (by first | exact Nat.le_refl _ | omega | (simp; done) | (simp; omega)) _))⟩
      have t27 : decide (m < 1) = false := decide_eq_false (by omega)
      have t28 : decide (1 ≤ m) = true := decide_eq_true (by omega)
      have t29 : decide (3 < m) = false := decide_eq_false (by omega)
      have t30 : decide (m ≤ 3) = true := decide_eq_true (by omega)
      rcases timeR_cases a f with ht | ht
      · rw [conv_fit a b f m ha hb (by omega) (by omega) ht]
        have t1 : ((timeR a f).2 != 0) = false := by simpa using ht
        clear ht
        go_enter Try.func37, Try.ntmps37
        go_wp2_with (first | (go_at_call 20; refine (Valid_ok _ _ (by omega) (by omega)).mono ?_; rintro e w1 ⟨rfl, hb1⟩; have hz1 := hb1.size; (try simp at hz1)) | (go_at_call 21; refine (RValid_ok _ _ (by omega) (by omega)).mono ?_; rintro e w' ⟨rfl, rfl⟩) | (go_at_call 30; refine (RTime_any _ _ _ a0 a1).mono ?_; rintro e w1 ⟨rfl, hb1⟩; have hz1 := hb1.size; (try simp at hz1)) | (go_at_call 17; refine (RFrame_any _ _ _ _ b0 b1 m0 m1).mono ?_; rintro e w1 ⟨rfl, hb1⟩; have hz1 := hb1.size; (try simp at hz1)) | go_in)
        go_ret2
        exact ⟨rfl, by (repeat (first | exact Below.refl _ _ | assumption | refine Ba.below_step (by assumption) (by first | exact Nat.le_refl _ | omega | (simp; done) | (simp; omega)) ?_ | apply Below.drew | apply Ba.below_drewN | refine Below.alloc ?_ (by first | exact Nat.le_refl _ | omega | (simp; done) | (simp; omega)) _ | refine Below.setCell ?_ (by first | exact Nat.le_refl _ | omega | (simp; done) | (simp; omega)) _))⟩
      · rw [conv_err a b f m ha hb (by omega) (by omega) ht]
        have t1 : ((timeR a f).2 != 0) = true := by simpa using ht
        clear ht
        go_enter Try.func37, Try.ntmps37
        go_wp2_with (first | (go_at_call 20; refine (Valid_ok _ _ (by omega) (by omega)).mono ?_; rintro e w1 ⟨rfl, hb1⟩; have hz1 := hb1.size; (try simp at hz1)) | (go_at_call 21; refine (RValid_ok _ _ (by omega) (by omega)).mono ?_; rintro e w' ⟨rfl, rfl⟩) | (go_at_call 30; refine (RTime_any _ _ _ a0 a1).mono ?_; rintro e w1 ⟨rfl, hb1⟩; have hz1 := hb1.size; (try simp at hz1)) | go_in)
        go_ret2
        exact ⟨rfl, by (repeat (first | exact Below.refl _ _ | assumption | refine Ba.below_step (by assumption) (by first | exact Nat.le_refl _ | omega | (simp; done) | (simp; omega)) ?_ | apply Below.drew | apply Ba.below_drewN | refine Below.alloc ?_ (by first | exact Nat.le_refl _ | omega | (simp; done) | (simp; omega)) _ | refine Below.setCell ?_ (by first | exact Nat.le_refl _ | omega | (simp; done) | (simp; omega)) _))⟩
    · rw [conv_typ a b f m (.inr (.inl hb))]
      go_enter Try.func37, Try.ntmps37
      go_wp2_with (first | (go_at_call 20; refine (Valid_ok _ _ (by omega) (by omega)).mono ?_; rintro e w1 ⟨rfl, hb1⟩; have hz1 := hb1.size; (try simp at hz1)) | (go_at_call 21; refine (RValid_ok _ _ (by omega) (by omega)).mono ?_; rintro e w' ⟨rfl, rfl⟩) | go_in)
      go_ret2
      exact ⟨rfl, by (repeat (first | exact Below.refl _ _ | assumption | refine Ba.below_step (by assumption) (by first | exact Nat.le_refl _ | omega | (simp; done) | (simp; omega)) ?_ | apply Below.drew | apply Ba.below_drewN | refine Below.alloc ?_ (by first | exact Nat.le_refl _ | omega | (simp; done) | (simp; omega)) _ | refine Below.setCell ?_ (by first | exact Nat.le_refl _ | omega | (simp; done) | (simp; omega)) _))⟩
  · rw [conv_typ a b f m (.inl ha)]
    go_enter Try.func37, Try.ntmps37
    go_wp2_with (first | (go_at_call 20; refine (Valid_ok _ _ (by omega) (by omega)).mono ?_; rintro e w1 ⟨rfl, hb1⟩; have hz1 := hb1.size; (try simp at hz1)) | (go_at_call 21; refine (RValid_ok _ _ (by omega) (by omega)).mono ?_; rintro e w' ⟨rfl, rfl⟩) | go_in)
    go_ret2
    exact ⟨rfl, by (repeat (first | exact Below.refl _ _ | assumption | refine Ba.below_step (by assumption) (by first | exact Nat.le_refl _ | omega | (simp; done) | (simp; omega)) ?_ | apply Below.drew | apply Ba.below_drewN | refine Below.alloc ?_ (by first | exact Nat.le_refl _ | omega | (simp; done) | (simp; omega)) _ | refine Below.setCell ?_ (by first | exact Nat.le_refl _ | omega | (simp; done) | (simp; omega)) _))⟩


/-! ### Millis, FromMillis -/
def millisR (r f : Int) : Int × Int := if (timeR r f).2 = 0 then (quo (timeR r f).1 120 2, 0) else (0, (timeR r f).2)
theorem timeR_bd (r f : Int) (h : (timeR r f).2 = 0) : 0 ≤ (timeR r f).1 ∧ (timeR r f).1 ≤ 10378368000 := by
  unfold timeR at h ⊢
  split
  · simp
  · rename_i hv
    split
    · simp
    · have hv' : va r = true := by simpa using hv
      exact time_bd r f hv' (by omega) (by omega)

theorem Millis_any (r f : Int) (w : World) (r0 : 0 ≤ r) (r1 : r ≤ 255) :
    Calls Try.prog 33 #[.int .u8 r, .int .i64 f] w fun e w' => e = .returned (ret2 (millisR r f)) ∧ Below w.heap.size w w' := by
  rcases timeR_cases r f with ht | ht
  · have hm : millisR r f = (quo (timeR r f).1 120 2, 0) := by unfold millisR; rw [if_pos ht]
    rw [hm]
    have t1 : ((timeR r f).2 != 0) = false := by simpa using ht
    obtain ⟨p0, p1⟩ := timeR_bd r f ht
    clear ht hm
    go_enter Try.func33, Try.ntmps33
    go_wp2_with (first | (go_at_call 29; refine (Time_any _ _ _ r0 r1).mono ?_; rintro e w1 ⟨rfl, hb1⟩; have hz1 := hb1.size; (try simp at hz1)) | (go_at_call 42; refine (Quot_ok _ _ _ _ (by omega) (by omega) (by omega) (by omega) (by omega) (by omega)).mono ?_; rintro e w2 ⟨rfl, nq, rfl⟩) | (go_at_call 44; refine (RQuot_ok _ _ _ _ (by omega) (by omega) (by omega) (by omega) (by omega) (by omega)).mono ?_; rintro e w2 ⟨rfl, nq, rfl⟩) | go_in)
    go_ret2
    exact ⟨rfl, by (repeat (first | exact Below.refl _ _ | assumption | refine Ba.below_step (by assumption) (by first | exact Nat.le_refl _ | omega | (simp; done) | (simp; omega)) ?_ | apply Below.drew | apply Ba.below_drewN | refine Below.alloc ?_ (by first | exact Nat.le_refl _ | omega | (simp; done) | (simp; omega)) _ | refine Below.setCell ?_ (by first | exact Nat.le_refl _ | omega | (simp; done) | (simp; omega)) _))⟩
  · have hm : millisR r f = (0, (timeR r f).2) := by unfold millisR; rw [if_neg ht]
    rw [hm]
    have t1 : ((timeR r f).2 != 0) = true := by simpa using ht
    clear ht hm
    go_enter Try.func33, Try.ntmps33
    go_wp2_with (first | (go_at_call 29; refine (Time_any _ _ _ r0 r1).mono ?_; rintro e w1 ⟨rfl, hb1⟩; have hz1 := hb1.size; (try simp at hz1)) | go_in)
    go_ret2
    exact ⟨rfl, by (repeat (first | exact Below.refl _ _ | assumption | refine Ba.below_step (by assumption) (by first | exact Nat.le_refl _ | omega | (simp; done) | (simp; omega)) ?_ | apply Below.drew | apply Ba.below_drewN | refine Below.alloc ?_ (by first | exact Nat.le_refl _ | omega | (simp; done) | (simp; omega)) _ | refine Below.setCell ?_ (by first | exact Nat.le_refl _ | omega | (simp; done) | (simp; omega)) _))⟩

theorem RMillis_any (r f : Int) (w : World) (r0 : 0 ≤ r) (r1 : r ≤ 255) :
    Calls Try.prog 34 #[.int .u8 r, .int .i64 f] w fun e w' => e = .returned (ret2 (millisR r f)) ∧ Below w.heap.size w w' := by
  rcases timeR_cases r f with ht | ht
  · have hm : millisR r f = (quo (timeR r f).1 120 2, 0) := by unfold millisR; rw [if_pos ht]
    rw [hm]
    have t1 : ((timeR r f).2 != 0) = false := by simpa using ht
    obtain ⟨p0, p1⟩ := timeR_bd r f ht
    clear ht hm
    go_enter Try.func34, Try.ntmps34
    go_wp2_with (first | (go_at_call 30; refine (RTime_any _ _ _ r0 r1).mono ?_; rintro e w1 ⟨rfl, hb1⟩; have hz1 := hb1.size; (try simp at hz1)) | (go_at_call 42; refine (Quot_ok _ _ _ _ (by omega) (by omega) (by omega) (by omega) (by omega) (by omega)).mono ?_; rintro e w2 ⟨rfl, nq, rfl⟩) | (go_at_call 44; refine (RQuot_ok _ _ _ _ (by omega) (by omega) (by omega) (by omega) (by omega) (by omega)).mono ?_; rintro e w2 ⟨rfl, nq, rfl⟩) | go_in)
    go_ret2
    exact ⟨rfl, by (repeat (first | exact Below.refl _ _ | assumption | refine Ba.below_step (by assumption) (by first | exact Nat.le_refl _ | omega | (simp; done) | (simp; omega)) ?_ | apply Below.drew | apply Ba.below_drewN | refine Below.alloc ?_ (by first | exact Nat.le_refl _ | omega | (simp; done) | (simp; omega)) _ | refine Below.setCell ?_ (by first | exact Nat.le_refl _ | omega | (simp; done) | (simp; omega)) _))⟩
  · have hm : millisR r f = (0, (timeR r f).2) := by unfold millisR; rw [if_neg ht]
    rw [hm]
    have t1 : ((timeR r f).2 != 0) = true := by simpa using ht
    clear ht hm
    go_enter Try.func34, Try.ntmps34
    go_wp2_with (first | (go_at_call 30; refine (RTime_any _ _ _ r0 r1).mono ?_; rintro e w1 ⟨rfl, hb1⟩; have hz1 := hb1.size; (try simp at hz1)) | go_in)
    go_ret2
    exact ⟨rfl, by (repeat (first | exact Below.refl _ _ | assumption | refine Ba.below_step (by assumption) (by first | exact Nat.le_refl _ | omega | (simp; done) | (simp; omega)) ?_ | apply Below.drew | apply Ba.below_drewN | refine Below.alloc ?_ (by first | exact Nat.le_refl _ | omega | (simp; done) | (simp; omega)) _ | refine Below.setCell ?_ (by first | exact Nat.le_refl _ | omega | (simp; done) | (simp; omega)) _))⟩


def fromR (r ms : Int) : Int × Int := if va r = false then (0, 3) else if ms < 0 ∨ 86486400 < ms then (0, 2) else frameR r (ms * 120) 2
theorem from_typ (r t : Int) (h : va r = false) : fromR r t = (0, 3) := by unfold fromR; rw [if_pos h]
theorem from_rng (r t : Int) (h : va r = true) (ht : t < 0 ∨ 86486400 < t) : fromR r t = (0, 2) := by unfold fromR; rw [if_neg (by simp [h]), if_pos ht]
theorem from_fit (r t : Int) (h : va r = true) (t0 : 0 ≤ t) (t1 : t ≤ 86486400) : fromR r t = frameR r (t * 120) 2 := by unfold fromR; rw [if_neg (by simp [h]), if_neg (by omega)]

theorem From_any (r t : Int) (w : World) (r0 : 0 ≤ r) (r1 : r ≤ 255) :
    Calls Try.prog 35 #[.int .u8 r, .int .i64 t] w fun e w' => e = .returned (ret2 (fromR r t)) ∧ Below w.heap.size w w' := by
  rcases va_cases r with hv | hv
  · by_cases c1 : t < 0
    · rw [from_rng r t hv (by omega)]
      have t31 : decide (t < 0) = true := decide_eq_true (by omega)
      go_enter Try.func35, Try.ntmps35
      go_wp2_with (first | (go_at_call 20; refine (Valid_ok _ _ (by omega) (by omega)).mono ?_; rintro e w1 ⟨rfl, hb1⟩; have hz1 := hb1.size; (try simp at hz1)) | (go_at_call 21; refine (RValid_ok _ _ (by omega) (by omega)).mono ?_; rintro e w' ⟨rfl, rfl⟩) | go_in)
      go_ret2
      exact ⟨rfl, by (repeat (first | exact Below.refl _ _ | assumption | refine Ba.below_step (by assumption) (by first | exact Nat.le_refl _ | omega | (simp; done) | (simp; omega)) ?_ | apply Below.drew | apply Ba.below_drewN | refine Below.alloc ?_ (by first | exact Nat.le_refl _ | omega | (simp; done) | (simp; omega)) _ | refine Below.setCell ?_ (by first | exact Nat.le_refl _ | omega | (simp; done) | (simp; omega)) _))⟩
    by_cases c2 : 86486400 < t
    · rw [from_rng r t hv (by omega)]
      have t32 : decide (t < 0) = false := decide_eq_false (by omega)
      have t33 : decide (86486400 < t) = true := decide_eq_true (by omega)
      go_enter Try.func35, Try.ntmps35
      go_wp2_with (first | (go_at_call 20; refine (Valid_ok _ _ (by omega) (by omega)).mono ?_; rintro e w1 ⟨rfl, hb1⟩; have hz1 := hb1.size; (try simp at hz1)) | (go_at_call 21; refine (RValid_ok _ _ (by omega) (by omega)).mono ?_; rintro e w' ⟨rfl, rfl⟩) | go_in)
      go_ret2
      exact ⟨rfl, by (repeat (first | exact Below.refl _ _ | assumption | refine Ba.below_step (by assumption) (by first | exact Nat.le_refl _ | omega | (simp; done) | (simp; omega)) ?_ | apply Below.drew | apply Ba.below_drewN | refine Below.alloc ?_ (by first | exact Nat.le_refl _ | omega | (simp; done) | (simp; omega)) _ | refine Below.setCell ?_ (by first | exact Nat.le_refl _ | omega | (simp; done) | (simp; omega)) _))⟩
    rw [from_fit r t hv (by omega) (by omega)]
    have t34 : decide (t < 0) = false := decide_eq_false (by omega)
    have t35 : decide (86486400 < t) = false := decide_eq_false (by omega)
    go_enter Try.func35, Try.ntmps35
    go_wp2_with (first | (go_at_call 20; refine (Valid_ok _ _ (by omega) (by omega)).mono ?_; rintro e w1 ⟨rfl, hb1⟩; have hz1 := hb1.size; (try simp at hz1)) | (go_at_call 21; refine (RValid_ok _ _ (by omega) (by omega)).mono ?_; rintro e w' ⟨rfl, rfl⟩) | (go_at_call 16; refine (Frame_any _ _ _ _ r0 r1 (by omega) (by omega)).mono ?_; rintro e w1 ⟨rfl, hb1⟩; have hz1 := hb1.size; (try simp at hz1)) | go_in)
    go_ret2
    exact ⟨rfl, by (repeat (first | exact Below.refl _ _ | assumption | refine Ba.below_step (by assumption) (by first | exact Nat.le_refl _ | omega | (simp; done) | (simp; omega)) ?_ | apply Below.drew | apply Ba.below_drewN | refine Below.alloc ?_ (by first | exact Nat.le_refl _ | omega | (simp; done) | (simp; omega)) _ | refine Below.setCell ?_ (by first | exact Nat.le_refl _ | omega | (simp; done) | (simp; omega)) _))⟩
  · rw [from_typ r t hv]
    go_enter Try.func35, Try.ntmps35
    go_wp2_with (first | (go_at_call 20; refine (Valid_ok _ _ (by omega) (by omega)).mono ?_; rintro e w1 ⟨rfl, hb1⟩; have hz1 := hb1.size; (try simp at hz1)) | (go_at_call 21; refine (RValid_ok _ _ (by omega) (by omega)).mono ?_; rintro e w' ⟨rfl, rfl⟩) | go_in)
    go_ret2
    exact ⟨rfl, by (repeat (first | exact Below.refl _ _ | assumption | refine Ba.below_step (by assumption) (by first | exact Nat.le_refl _ | omega | (simp; done) | (simp; omega)) ?_ | apply Below.drew | apply Ba.below_drewN | refine Below.alloc ?_ (by first | exact Nat.le_refl _ | omega | (simp; done) | (simp; omega)) _ | refine Below.setCell ?_ (by first | exact Nat.le_refl _ | omega | (simp; done) | (simp; omega)) _))⟩

theorem RFrom_any (r t : Int) (w : World) (r0 : 0 ≤ r) (r1 : r ≤ 255) :
    Calls Try.prog 36 #[.int .u8 r, .int .i64 t] w fun e w' => e = .returned (ret2 (fromR r t)) ∧ Below w.heap.size w w' := by
  rcases va_cases r with hv | hv
  · by_cases c1 : t < 0
    · rw [from_rng r t hv (by omega)]
      have t36 : decide (t < 0) = true := decide_eq_true (by omega)
      go_enter Try.func36, Try.ntmps36
      go_wp2_with (first | (go_at_call 20; refine (Valid_ok _ _ (by omega) (by omega)).mono ?_; rintro e w1 ⟨rfl, hb1⟩; have hz1 := hb1.size; (try simp at hz1)) | (go_at_call 21; refine (RValid_ok _ _ (by omega) (by omega)).mono ?_; rintro e w' ⟨rfl, rfl⟩) | go_in)
      go_ret2
      exact ⟨rfl, by (repeat (first | exact Below.refl _ _ | assumption | refine Ba.below_step (by assumption) (by first | exact Nat.le_refl _ | omega | (simp; done) | (simp; omega)) ?_ | apply Below.drew | apply Ba.below_drewN | refine Below.alloc ?_ (by first | exact Nat.le_refl _ | omega | (simp; done) | (simp; omega)) _ | refine Below.setCell ?_ (by first | exact Nat.le_refl _ | omega | (simp; done) | (simp; omega)) _))⟩
    by_cases c2 : 86486400 < t
    · rw [from_rng r t hv (by omega)]
      have t37 : decide (t < 0) = false := decide_eq_false (by omega)
      have t38 : decide (86486400 < t) = true := decide_eq_true (by omega)
      go_enter Try.func36, Try.ntmps36
      go_wp2_with (first | (go_at_call 20; refine (Valid_ok _ _ (by omega) (by omega)).mono ?_; rintro e w1 ⟨rfl, hb1⟩; have hz1 := hb1.size; (try simp at hz1)) | (go_at_call 21; refine (RValid_ok _ _ (by omega) (by omega)).mono ?_; rintro e w' ⟨rfl, rfl⟩) | go_in)
      go_ret2
      exact ⟨rfl, by (repeat (first | exact Below.refl _ _ | assumption | refine Ba.below_step (by assumption) (by first | exact Nat.le_refl _ | omega | (simp; done) | (simp; omega)) ?_ | apply Below.drew | apply Ba.below_drewN | refine Below.alloc ?_ (by first | exact Nat.le_refl _ | omega | (simp; done) | (simp; omega)) _ | refine Below.setCell ?_ (by first | exact Nat.le_refl _ | omega | (simp; done) | (simp; omega)) _))⟩
    rw [from_fit r t hv (by omega) (by omega)]
    have t39 : decide (t < 0) = false := decide_eq_false (by omega)
    have t40 : decide (86486400 < t) = false := decide_eq_false (by omega)
    go_enter Try.func36, Try.ntmps36
    go_wp2_with (first | (go_at_call 20; refine (Valid_ok _ _ (by omega) (by omega)).mono ?_; rintro e w1 ⟨rfl, hb1⟩; have hz1 := hb1.size; (try simp at hz1)) | (go_at_call 21; refine (RValid_ok _ _ (by omega) (by omega)).mono ?_; rintro e w' ⟨rfl, rfl⟩) | (go_at_call 17; refine (RFrame_any _ _ _ _ r0 r1 (by omega) (by omega)).mono ?_; rintro e w1 ⟨rfl, hb1⟩; have hz1 := hb1.size; (try simp at hz1)) | go_in)
    go_ret2
    exact ⟨rfl, by (repeat (first | exact Below.refl _ _ | assumption | refine Ba.below_step (by assumption) (by first | exact Nat.le_refl _ | omega | (simp; done) | (simp; omega)) ?_ | apply Below.drew | apply Ba.below_drewN | refine Below.alloc ?_ (by first | exact Nat.le_refl _ | omega | (simp; done) | (simp; omega)) _ | refine Below.setCell ?_ (by first | exact Nat.le_refl _ | omega | (simp; done) | (simp; omega)) _))⟩
  · rw [from_typ r t hv]
    go_enter Try.func36, Try.ntmps36
    go_wp2_with (first | (go_at_call 20; refine (Valid_ok _ _ (by omega) (by omega)).mono ?_; rintro e w1 ⟨rfl, hb1⟩; have hz1 := hb1.size; (try simp at hz1)) | (go_at_call 21; refine (RValid_ok _ _ (by omega) (by omega)).mono ?_; rintro e w' ⟨rfl, rfl⟩) | go_in)
    go_ret2
    exact ⟨rfl, by (repeat (first | exact Below.refl _ _ | assumption | refine Ba.below_step (by assumption) (by first | exact Nat.le_refl _ | omega | (simp; done) | (simp; omega)) ?_ | apply Below.drew | apply Ba.below_drewN | refine Below.alloc ?_ (by first | exact Nat.le_refl _ | omega | (simp; done) | (simp; omega)) _ | refine Below.setCell ?_ (by first | exact Nat.le_refl _ | omega | (simp; done) | (simp; omega)) _))⟩

end Go.Proofs.Ythmolfgjligaoaa.Tb
