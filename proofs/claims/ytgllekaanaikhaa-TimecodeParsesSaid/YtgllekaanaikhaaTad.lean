/- The table of the seven rates, in integers, and the contracts of the functions that read it (timebase) and of their references. No condition but that a rate is a byte. -/
import Derived.Test.YtgllekaanaikhaaChecked
import Derived.Test.YtgllekaanaikhaaBase
import Derived.Test.YtgllekaanaikhaaTac
namespace Go.Proofs.Ytgllekaanaikhaa.Tb
open Go.RowKit Ba
set_option linter.unusedVariables false
set_option linter.unusedSimpArgs false

theorem RValid_ok (r : Int) (w : World) (h0 : 0 ≤ r) (h1 : r ≤ 255) :
    Calls Try.prog 47 #[.int .u8 r] w fun e w' => e = .returned (.bool (va r)) ∧ w = w' := by
  rcases va_cases r with h | h
  · rw [h]
    have h2 : 1 ≤ r ∧ r ≤ 7 := by unfold va at h; simpa using h
    obtain ⟨h3, h4⟩ := h2
    clear h
    have t1 : decide (1 ≤ r) = true := decide_eq_true (by omega)
    have t2 : decide (r ≤ 7) = true := decide_eq_true (by omega)
    go_enter Try.func47, Try.ntmps47
    go_wp2
    go_ret
    exact ⟨rfl, rfl⟩
  · rw [h]
    have h2 := no_of r h
    clear h
    by_cases c : r < 1
    · clear h2
      have t3 : decide (1 ≤ r) = false := decide_eq_false (by omega)
      go_enter Try.func47, Try.ntmps47
      go_wp2
      go_ret
      exact ⟨rfl, rfl⟩
    · have c1 : 1 ≤ r := by omega
      have c2 : 7 < r := by omega
      clear h2 c
      have t4 : decide (1 ≤ r) = true := decide_eq_true (by omega)
      have t5 : decide (r ≤ 7) = false := decide_eq_false (by omega)
      go_enter Try.func47, Try.ntmps47
      go_wp2
      go_ret
      exact ⟨rfl, rfl⟩

theorem RTicks_ok_at (r : Int) (w : World) (hv : va r = true) :
    Calls Try.prog 49 #[.int .u8 r] w fun e w' => e = .returned (.int .i64 (tk r)) ∧ Below w.heap.size w w' := by
  rcases va_yes r hv with rfl | rfl | rfl | rfl | rfl | rfl | rfl
  all_goals
    clear hv
    go_enter Try.func49, Try.ntmps49
    go_wp2
    go_ret
    refine ⟨rfl, ?_⟩
    (repeat (first | exact Below.refl _ _ | assumption | refine Ba.below_step (by assumption) (by first | exact Nat.le_refl _ | omega | (simp; done) | (simp; omega)) ?_ | apply Below.drew | apply Ba.below_drewN | refine Below.alloc ?_ (by first | exact Nat.le_refl _ | omega | (simp; done) | (simp; omega)) _ | refine Below.setCell ?_ (by first | exact Nat.le_refl _ | omega | (simp; done) | (simp; omega)) _))
theorem RTicks_ok (r : Int) (w : World) (h0 : 0 ≤ r) (h1 : r ≤ 255) :
    Calls Try.prog 49 #[.int .u8 r] w fun e w' => e = .returned (.int .i64 (tk r)) ∧ Below w.heap.size w w' := by
  rcases va_cases r with h | h
  · exact RTicks_ok_at r w h
  · have h3 := tk_no r h
    rw [h3]
    clear h3
    go_enter Try.func49, Try.ntmps49
    go_wp2_with (first | (go_at_call 47; refine (RValid_ok _ _ h0 h1).mono ?_; rintro e w' ⟨rfl, rfl⟩) | go_in)
    go_ret
    refine ⟨rfl, ?_⟩
    (repeat (first | exact Below.refl _ _ | assumption | refine Ba.below_step (by assumption) (by first | exact Nat.le_refl _ | omega | (simp; done) | (simp; omega)) ?_ | apply Below.drew | apply Ba.below_drewN | refine Below.alloc ?_ (by first | exact Nat.le_refl _ | omega | (simp; done) | (simp; omega)) _ | refine Below.setCell ?_ (by first | exact Nat.le_refl _ | omega | (simp; done) | (simp; omega)) _))

theorem RNominal_ok_at (r : Int) (w : World) (hv : va r = true) :
    Calls Try.prog 45 #[.int .u8 r] w fun e w' => e = .returned (.int .i64 (nm r)) ∧ Below w.heap.size w w' := by
  rcases va_yes r hv with rfl | rfl | rfl | rfl | rfl | rfl | rfl
  all_goals
    clear hv
    go_enter Try.func45, Try.ntmps45
    go_wp2
    go_ret
    refine ⟨rfl, ?_⟩
    (repeat (first | exact Below.refl _ _ | assumption | refine Ba.below_step (by assumption) (by first | exact Nat.le_refl _ | omega | (simp; done) | (simp; omega)) ?_ | apply Below.drew | apply Ba.below_drewN | refine Below.alloc ?_ (by first | exact Nat.le_refl _ | omega | (simp; done) | (simp; omega)) _ | refine Below.setCell ?_ (by first | exact Nat.le_refl _ | omega | (simp; done) | (simp; omega)) _))
theorem RNominal_ok (r : Int) (w : World) (h0 : 0 ≤ r) (h1 : r ≤ 255) :
    Calls Try.prog 45 #[.int .u8 r] w fun e w' => e = .returned (.int .i64 (nm r)) ∧ Below w.heap.size w w' := by
  rcases va_cases r with h | h
  · exact RNominal_ok_at r w h
  · have h3 := nm_no r h
    rw [h3]
    clear h3
    go_enter Try.func45, Try.ntmps45
    go_wp2_with (first | (go_at_call 47; refine (RValid_ok _ _ h0 h1).mono ?_; rintro e w' ⟨rfl, rfl⟩) | go_in)
    go_ret
    refine ⟨rfl, ?_⟩
    (repeat (first | exact Below.refl _ _ | assumption | refine Ba.below_step (by assumption) (by first | exact Nat.le_refl _ | omega | (simp; done) | (simp; omega)) ?_ | apply Below.drew | apply Ba.below_drewN | refine Below.alloc ?_ (by first | exact Nat.le_refl _ | omega | (simp; done) | (simp; omega)) _ | refine Below.setCell ?_ (by first | exact Nat.le_refl _ | omega | (simp; done) | (simp; omega)) _))


theorem RCanDrop_ok (r : Int) (w : World) (h0 : 0 ≤ r) (h1 : r ≤ 255) :
    Calls Try.prog 48 #[.int .u8 r] w fun e w' => e = .returned (.bool (dr r)) ∧ w = w' := by
  by_cases c4 : r = 4
  · subst c4
    go_enter Try.func48, Try.ntmps48
    go_wp2
    go_ret
    exact ⟨rfl, rfl⟩
  by_cases c7 : r = 7
  · subst c7
    go_enter Try.func48, Try.ntmps48
    go_wp2
    go_ret
    exact ⟨rfl, rfl⟩
  have hd : dr r = false := by unfold dr; simp [c4, c7]
  have t1 : (r == 4) = false := by simpa using c4
  have t2 : (r == 7) = false := by simpa using c7
  rw [hd]
  clear hd c4 c7
  go_enter Try.func48, Try.ntmps48
  go_wp2
  go_ret
  exact ⟨rfl, rfl⟩
end Go.Proofs.Ytgllekaanaikhaa.Tb
