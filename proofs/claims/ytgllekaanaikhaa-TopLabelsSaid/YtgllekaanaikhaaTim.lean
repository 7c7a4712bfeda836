/- The table of the seven rates, in integers, and the contracts of the functions that read it (timebase) and of their references. No condition but that a rate is a byte. -/
import Derived.Test.YtgllekaanaikhaaChecked
import Derived.Test.YtgllekaanaikhaaBase
import Derived.Test.YtgllekaanaikhaaTad
namespace Go.Proofs.Ytgllekaanaikhaa.Tb
open Go.RowKit Ba
set_option linter.unusedVariables false
set_option linter.unusedSimpArgs false

/-! ### Time -/
def timeR (r f : Int) : Int × Int := if va r = false then (0, 3) else if f < 0 ∨ 10378368000 / tk r < f then (0, 2) else (f * tk r, 0)
theorem time_typ (r f : Int) (h : va r = false) : timeR r f = (0, 3) := by unfold timeR; rw [if_pos h]
theorem time_rng (r f : Int) (h : va r = true) (hf : f < 0 ∨ 10378368000 / tk r < f) : timeR r f = (0, 2) := by unfold timeR; rw [if_neg (by simp [h]), if_pos hf]
theorem time_fit (r f : Int) (h : va r = true) (h0 : 0 ≤ f) (h1 : f ≤ 10378368000 / tk r) : timeR r f = (f * tk r, 0) := by unfold timeR; rw [if_neg (by simp [h]), if_neg (by omega)]
theorem time_bd (r f : Int) (h : va r = true) (h0 : 0 ≤ f) (h1 : f ≤ 10378368000 / tk r) : 0 ≤ f * tk r ∧ f * tk r ≤ 10378368000 := by
  have hb := tk_bd r h
  exact ⟨Int.mul_nonneg h0 (by omega), (Int.le_ediv_iff_mul_le (by omega)).1 h1⟩
theorem max_bd (r : Int) (h : va r = true) : 0 ≤ 10378368000 / tk r ∧ 10378368000 / tk r ≤ 5184000 := by
  rcases va_yes r h with rfl | rfl | rfl | rfl | rfl | rfl | rfl <;> decide

theorem Time_any_core (r f q p : Int) (w : World) (r0 : 0 ≤ r) (r1 : r ≤ 255) (hv : va r = true) (f0 : 0 ≤ f) (fq : f ≤ q) (b0 : 2002 ≤ tk r) (b1 : tk r ≤ 5005) (q0 : q ≤ 5184000) (p0 : 0 ≤ p) (p1 : p ≤ 10378368000)
    (e1 : (10378368000 : Int).tdiv (tk r) = q) (e2 : 10378368000 / tk r = q) (e3 : f * tk r = p) :
    Calls Try.prog 20 #[.int .u8 r, .int .i64 f] w fun e w' => e = .returned (ret2 (p, 0)) ∧ Below w.heap.size w w' := by
  have t1 : decide (f < 0) = false := decide_eq_false (by omega)
  have t2 : decide (q < f) = false := decide_eq_false (by omega)
  have t3 : decide (f ≤ q) = true := decide_eq_true (by omega)
  go_enter Try.func20, Try.ntmps20
  go_wp2_with (first | (go_at_call 41; refine (Valid_ok _ _ r0 r1).mono ?_; rintro e w1 ⟨rfl, hb1⟩; have hz1 := hb1.size; (try simp at hz1)) | (go_at_call 47; refine (RValid_ok _ _ r0 r1).mono ?_; rintro e w' ⟨rfl, rfl⟩) | (go_at_call 42; refine (Ticks_ok _ _ r0 r1).mono ?_; rintro e w1 ⟨rfl, hb1⟩; have hz1 := hb1.size; (try simp at hz1)) | (go_at_call 49; refine (RTicks_ok _ _ r0 r1).mono ?_; rintro e w1 ⟨rfl, hb1⟩; have hz1 := hb1.size; (try simp at hz1)) | go_in)
  go_ret2
  exact ⟨rfl, by (repeat (first | exact Below.refl _ _ | assumption | refine Ba.below_step (by assumption) (by first | exact Nat.le_refl _ | omega | (simp; done) | (simp; omega)) ?_ | apply Below.drew | apply Ba.below_drewN | refine Below.alloc ?_ (by first | exact Nat.le_refl _ | omega | (simp; done) | (simp; omega)) _ | refine Below.setCell ?_ (by first | exact Nat.le_refl _ | omega | (simp; done) | (simp; omega)) _))⟩
theorem Time_any_hi (r f q : Int) (w : World) (r0 : 0 ≤ r) (r1 : r ≤ 255) (hv : va r = true) (f0 : 0 ≤ f) (fq : q < f) (b0 : 2002 ≤ tk r) (b1 : tk r ≤ 5005) (q0 : 0 ≤ q) (q1 : q ≤ 5184000)
    (e1 : (10378368000 : Int).tdiv (tk r) = q) (e2 : 10378368000 / tk r = q) :
    Calls Try.prog 20 #[.int .u8 r, .int .i64 f] w fun e w' => e = .returned (ret2 (0, 2)) ∧ Below w.heap.size w w' := by
  have t4 : decide (f < 0) = false := decide_eq_false (by omega)
  have t5 : decide (q < f) = true := decide_eq_true (by omega)
  go_enter Try.func20, Try.ntmps20
  go_wp2_with (first | (go_at_call 41; refine (Valid_ok _ _ r0 r1).mono ?_; rintro e w1 ⟨rfl, hb1⟩; have hz1 := hb1.size; (try simp at hz1)) | (go_at_call 47; refine (RValid_ok _ _ r0 r1).mono ?_; rintro e w' ⟨rfl, rfl⟩) | (go_at_call 42; refine (Ticks_ok _ _ r0 r1).mono ?_; rintro e w1 ⟨rfl, hb1⟩; have hz1 := hb1.size; (try simp at hz1)) | (go_at_call 49; refine (RTicks_ok _ _ r0 r1).mono ?_; rintro e w1 ⟨rfl, hb1⟩; have hz1 := hb1.size; (try simp at hz1)) | go_in)
  go_ret2
  exact ⟨rfl, by (repeat (first | exact Below.refl _ _ | assumption | refine Ba.below_step (by assumption) (by first | exact Nat.le_refl _ | omega | (simp; done) | (simp; omega)) ?_ | apply Below.drew | apply Ba.below_drewN | refine Below.alloc ?_ (by first | exact Nat.le_refl _ | omega | (simp; done) | (simp; omega)) _ | refine Below.setCell ?_ (by first | exact Nat.le_refl _ | omega | (simp; done) | (simp; omega)) _))⟩
theorem Time_any (r f : Int) (w : World) (r0 : 0 ≤ r) (r1 : r ≤ 255) :
    Calls Try.prog 20 #[.int .u8 r, .int .i64 f] w fun e w' => e = .returned (ret2 (timeR r f)) ∧ Below w.heap.size w w' := by
  rcases va_cases r with hv | hv
  · obtain ⟨b0, b1⟩ := tk_bd r hv
    obtain ⟨q0, q1⟩ := max_bd r hv
    by_cases c1 : f < 0
    · rw [time_rng r f hv (by omega)]
      clear q0 q1
      have t6 : decide (f < 0) = true := decide_eq_true (by omega)
      go_enter Try.func20, Try.ntmps20
      go_wp2_with (first | (go_at_call 41; refine (Valid_ok _ _ r0 r1).mono ?_; rintro e w1 ⟨rfl, hb1⟩; have hz1 := hb1.size; (try simp at hz1)) | (go_at_call 47; refine (RValid_ok _ _ r0 r1).mono ?_; rintro e w' ⟨rfl, rfl⟩) | (go_at_call 42; refine (Ticks_ok _ _ r0 r1).mono ?_; rintro e w1 ⟨rfl, hb1⟩; have hz1 := hb1.size; (try simp at hz1)) | (go_at_call 49; refine (RTicks_ok _ _ r0 r1).mono ?_; rintro e w1 ⟨rfl, hb1⟩; have hz1 := hb1.size; (try simp at hz1)) | go_in)
      go_ret2
      exact ⟨rfl, by (repeat (first | exact Below.refl _ _ | assumption | refine Ba.below_step (by assumption) (by first | exact Nat.le_refl _ | omega | (simp; done) | (simp; omega)) ?_ | apply Below.drew | apply Ba.below_drewN | refine Below.alloc ?_ (by first | exact Nat.le_refl _ | omega | (simp; done) | (simp; omega)) _ | refine Below.setCell ?_ (by first | exact Nat.le_refl _ | omega | (simp; done) | (simp; omega)) _))⟩
    by_cases c2 : 10378368000 / tk r < f
    · rw [time_rng r f hv (by omega)]
      exact Time_any_hi r f _ w r0 r1 hv (by omega) c2 b0 b1 q0 q1 (Int.tdiv_eq_ediv_of_nonneg (by omega)) rfl
    · rw [time_fit r f hv (by omega) (by omega)]
      obtain ⟨p0, p1⟩ := time_bd r f hv (by omega) (by omega)
      exact Time_any_core r f _ _ w r0 r1 hv (by omega) (by omega) b0 b1 q1 p0 p1 (Int.tdiv_eq_ediv_of_nonneg (by omega)) rfl rfl
  · rw [time_typ r f hv]
    go_enter Try.func20, Try.ntmps20
    go_wp2_with (first | (go_at_call 41; refine (Valid_ok _ _ r0 r1).mono ?_; rintro e w1 ⟨rfl, hb1⟩; have hz1 := hb1.size; (try simp at hz1)) | (go_at_call 47; refine (RValid_ok _ _ r0 r1).mono ?_; rintro e w' ⟨rfl, rfl⟩) | go_in)
    go_ret2
    exact ⟨rfl, by (repeat (first | exact Below.refl _ _ | assumption | refine Ba.below_step (by assumption) (by first | exact Nat.le_refl _ | omega | (simp; done) | (simp; omega)) ?_ | apply Below.drew | apply Ba.below_drewN | refine Below.alloc ?_ (by first | exact Nat.le_refl _ | omega | (simp; done) | (simp; omega)) _ | refine Below.setCell ?_ (by first | exact Nat.le_refl _ | omega | (simp; done) | (simp; omega)) _))⟩


end Go.Proofs.Ytgllekaanaikhaa.Tb
