/- The table of the seven rates, in integers, and the contracts of the functions that read it (timebase) and of their references. No condition but that a rate is a byte. -/
import Derived.Test.YtgllekaanaikhaaChecked
import Derived.Test.YtgllekaanaikhaaBase
import Derived.Test.YtgllekaanaikhaaTab
namespace Go.Proofs.Ytgllekaanaikhaa.Tb
open Go.RowKit Ba
set_option linter.unusedVariables false
set_option linter.unusedSimpArgs false

theorem fld_0 (x0 x1 x2 x3 : Value) (w : World) : (Instr.field 58 (.agg #[x0, x1, x2, x3]) 0).run Try.prog w = .ok x0 w := by kernel_rfl
theorem fld_1 (x0 x1 x2 x3 : Value) (w : World) : (Instr.field 58 (.agg #[x0, x1, x2, x3]) 1).run Try.prog w = .ok x1 w := by kernel_rfl
theorem fld_2 (x0 x1 x2 x3 : Value) (w : World) : (Instr.field 58 (.agg #[x0, x1, x2, x3]) 2).run Try.prog w = .ok x2 w := by kernel_rfl
theorem fld_3 (x0 x1 x2 x3 : Value) (w : World) : (Instr.field 58 (.agg #[x0, x1, x2, x3]) 3).run Try.prog w = .ok x3 w := by kernel_rfl

theorem va_tk (r : Int) (h0 : 0 ≤ r) (h1 : r ≤ 255) : decide (0 < tk r) = va r := by
  cases h : va r with
  | true => have := tk_bd r h; simp; omega
  | false => rw [tk_no r h]; rfl

theorem Valid_ok (r : Int) (w : World) (h0 : 0 ≤ r) (h1 : r ≤ 255) :
    Calls Try.prog 41 #[.int .u8 r] w fun e w' => e = .returned (.bool (va r)) ∧ Below w.heap.size w w' := by
  have H := Lib.hid (va_tk r h0 h1)
  have f1 := fld_1
  go_enter Try.func41, Try.ntmps41
  go_wp2_with (first | (go_at_call 43; refine (of_ok _ _ h0 h1).mono ?_; rintro e w1 ⟨rfl, hb1⟩; unfold ofR) | go_in)
  go_ret
  exact ⟨by rw [← H.out]; rfl, by (repeat (first | exact Below.refl _ _ | assumption | refine Ba.below_step (by assumption) (by first | exact Nat.le_refl _ | omega | (simp; done) | (simp; omega)) ?_ | apply Below.drew | apply Ba.below_drewN | refine Below.alloc ?_ (by first | exact Nat.le_refl _ | omega | (simp; done) | (simp; omega)) _ | refine Below.setCell ?_ (by first | exact Nat.le_refl _ | omega | (simp; done) | (simp; omega)) _))⟩
theorem Ticks_ok (r : Int) (w : World) (h0 : 0 ≤ r) (h1 : r ≤ 255) :
    Calls Try.prog 42 #[.int .u8 r] w fun e w' => e = .returned (.int .i64 (tk r)) ∧ Below w.heap.size w w' := by
  have f0 := fld_0
  have f1 := fld_1
  have f2 := fld_2
  have f3 := fld_3
  go_enter Try.func42, Try.ntmps42
  go_wp2_with (first | (go_at_call 43; refine (of_ok _ _ h0 h1).mono ?_; rintro e w1 ⟨rfl, hb1⟩; unfold ofR) | go_in)
  go_ret
  exact ⟨rfl, by (repeat (first | exact Below.refl _ _ | assumption | refine Ba.below_step (by assumption) (by first | exact Nat.le_refl _ | omega | (simp; done) | (simp; omega)) ?_ | apply Below.drew | apply Ba.below_drewN | refine Below.alloc ?_ (by first | exact Nat.le_refl _ | omega | (simp; done) | (simp; omega)) _ | refine Below.setCell ?_ (by first | exact Nat.le_refl _ | omega | (simp; done) | (simp; omega)) _))⟩

theorem Nominal_ok (r : Int) (w : World) (h0 : 0 ≤ r) (h1 : r ≤ 255) :
    Calls Try.prog 21 #[.int .u8 r] w fun e w' => e = .returned (.int .i64 (nm r)) ∧ Below w.heap.size w w' := by
  have f0 := fld_0
  have f1 := fld_1
  have f2 := fld_2
  have f3 := fld_3
  go_enter Try.func21, Try.ntmps21
  go_wp2_with (first | (go_at_call 43; refine (of_ok _ _ h0 h1).mono ?_; rintro e w1 ⟨rfl, hb1⟩; unfold ofR) | go_in)
  go_ret
  exact ⟨rfl, by (repeat (first | exact Below.refl _ _ | assumption | refine Ba.below_step (by assumption) (by first | exact Nat.le_refl _ | omega | (simp; done) | (simp; omega)) ?_ | apply Below.drew | apply Ba.below_drewN | refine Below.alloc ?_ (by first | exact Nat.le_refl _ | omega | (simp; done) | (simp; omega)) _ | refine Below.setCell ?_ (by first | exact Nat.le_refl _ | omega | (simp; done) | (simp; omega)) _))⟩

theorem CanDrop_ok (r : Int) (w : World) (h0 : 0 ≤ r) (h1 : r ≤ 255) :
    Calls Try.prog 52 #[.int .u8 r] w fun e w' => e = .returned (.bool (dr r)) ∧ Below w.heap.size w w' := by
  have f0 := fld_0
  have f1 := fld_1
  have f2 := fld_2
  have f3 := fld_3
  go_enter Try.func52, Try.ntmps52
  go_wp2_with (first | (go_at_call 43; refine (of_ok _ _ h0 h1).mono ?_; rintro e w1 ⟨rfl, hb1⟩; unfold ofR) | go_in)
  go_ret
  exact ⟨rfl, by (repeat (first | exact Below.refl _ _ | assumption | refine Ba.below_step (by assumption) (by first | exact Nat.le_refl _ | omega | (simp; done) | (simp; omega)) ?_ | apply Below.drew | apply Ba.below_drewN | refine Below.alloc ?_ (by first | exact Nat.le_refl _ | omega | (simp; done) | (simp; omega)) _ | refine Below.setCell ?_ (by first | exact Nat.le_refl _ | omega | (simp; done) | (simp; omega)) _))⟩


end Go.Proofs.Ytgllekaanaikhaa.Tb
