/- The table of the seven rates, in integers, and the contracts of the functions that read it (timebase) and of their references. No condition but that a rate is a byte. -/
import Derived.Test.YtgllekaanaikhaaChecked
import Derived.Test.YtgllekaanaikhaaBase
import Derived.Deep.WholeRow
namespace Go.Proofs.Ytgllekaanaikhaa.Tb
open Go.RowKit Ba
set_option linter.unusedVariables false
set_option linter.unusedSimpArgs false

def tk (r : Int) : Int := if r = 1 then 5005 else if r = 2 then 5000 else if r = 3 then 4800 else if r = 4 then 4004 else if r = 5 then 4000 else if r = 6 then 2400 else if r = 7 then 2002 else 0
def nm (r : Int) : Int := if r = 1 then 24 else if r = 2 then 24 else if r = 3 then 25 else if r = 4 then 30 else if r = 5 then 30 else if r = 6 then 50 else if r = 7 then 60 else 0
def dr (r : Int) : Bool := if r = 4 then true else if r = 7 then true else false
def na (r : Int) : ByteArray := if r = 1 then ⟨#[50, 51, 46, 57, 55, 54]⟩ else if r = 2 then ⟨#[50, 52]⟩ else if r = 3 then ⟨#[50, 53]⟩ else if r = 4 then ⟨#[50, 57, 46, 57, 55]⟩ else if r = 5 then ⟨#[51, 48]⟩ else if r = 6 then ⟨#[53, 48]⟩ else if r = 7 then ⟨#[53, 57, 46, 57, 52]⟩ else ⟨#[]⟩
def va (r : Int) : Bool := decide (1 ≤ r ∧ r ≤ 7)

theorem va_yes (r : Int) (h : va r = true) : r = 1 ∨ r = 2 ∨ r = 3 ∨ r = 4 ∨ r = 5 ∨ r = 6 ∨ r = 7 := by unfold va at h; simp at h; omega
theorem va_mk (r : Int) (h1 : 1 ≤ r) (h2 : r ≤ 7) : va r = true := by unfold va; simp; omega
theorem va_no (r : Int) (h : r < 1 ∨ 7 < r) : va r = false := by unfold va; simp; omega
theorem va_cases (r : Int) : va r = true ∨ va r = false := by cases va r <;> simp
theorem no_of (r : Int) (h : va r = false) : r < 1 ∨ 7 < r := by unfold va at h; simp at h; omega
theorem tk_no (r : Int) (h : va r = false) : tk r = 0 := by have := no_of r h; unfold tk; (repeat' split) <;> omega
theorem tk_bd (r : Int) (h : va r = true) : 2002 ≤ tk r ∧ tk r ≤ 5005 := by
  rcases va_yes r h with rfl | rfl | rfl | rfl | rfl | rfl | rfl <;> decide
theorem nm_bd (r : Int) (h : va r = true) : 24 ≤ nm r ∧ nm r ≤ 60 := by
  rcases va_yes r h with rfl | rfl | rfl | rfl | rfl | rfl | rfl <;> decide
theorem nm_no (r : Int) (h : va r = false) : nm r = 0 := by have := no_of r h; unfold nm; (repeat' split) <;> omega
theorem dr_no (r : Int) (h : va r = false) : dr r = false := by have := no_of r h; unfold dr; (repeat' split) <;> first | rfl | omega
theorem na_no (r : Int) (h : va r = false) : na r = ⟨#[]⟩ := by have := no_of r h; unfold na; (repeat' split) <;> first | rfl | omega

def ofR (r : Int) : Value := .agg #[.string (na r), .int .i64 (tk r), .int .i64 (nm r), .bool (dr r)]
theorem of_no (r : Int) (h : va r = false) : ofR r = .agg #[.string ⟨#[]⟩, .int .i64 0, .int .i64 0, .bool false] := by
  unfold ofR; rw [tk_no r h, nm_no r h, dr_no r h, na_no r h]

theorem wpList_store_fresh {P : Program} {ops : Array Oper} {rest : List Oper} {op : Oper} {a : Act} {Q : Exit → Act → World → Prop} (hdst : op.dst = none) (hgd : op.guard = none) (ty : TypeId) (x y : Operand) (ho : op.op = .store ty x y)
    (w0 : World) (b : Nat) (hb : b = w0.heap.size) (c c' : Array Value) (hx : a.eval x = .pointer (some ⟨b, 0, none⟩)) (hy : a.eval y = .agg c') (hi : (P.info? ty).map (·.size) = some c'.size) (hc : c.size = c'.size) (h1 : c'.all (·.oneCell') = true)
    (h : wpList P ops Q rest a (w0.alloc (.cells c' ty))) : wpList P ops Q (op :: rest) a (w0.alloc (.cells c ty)) :=
  wpList_plain hgd fun K hK => by
    subst hb
    have h2 := hK _ _ h
    unfold Oper.wp execOp
    simp only [ho, hx, hy, Sem.run_bind, run_storeAt_new w0 ty c c' hi hc h1, Result.andThen_ok, Sem.run_pure]
    show K (a.put op.dst _) _
    rw [hdst]
    exact h2

theorem of_1 (w : World) : Calls Try.prog 43 #[.int .u8 1] w fun e w' => e = .returned (ofR 1) ∧ Below w.heap.size w w' := by
  go_enter Try.func43, Try.ntmps43
  iterate 41 go_step
  refine wpList_store_fresh rfl rfl 62 _ _ rfl _ _ ?h1 _ _ rfl rfl ?h4 ?h5 ?h6 ?h7
  case h1 => simp
  case h4 => kernel_rfl
  case h5 => kernel_rfl
  case h6 => kernel_rfl
  go_wp2
  refine bodyPost_ret (v := ofR 1) (by simp [results, Try.results43, go_sem, ofR, na, tk, nm, dr]) rfl ⟨rfl, ?_⟩
  (repeat (first | exact Below.refl _ _ | assumption | refine Ba.below_step (by assumption) (by first | exact Nat.le_refl _ | omega | (simp; done) | (simp; omega)) ?_ | apply Below.drew | apply Ba.below_drewN | refine Below.alloc ?_ (by first | exact Nat.le_refl _ | omega | (simp; done) | (simp; omega)) _ | refine Below.setCell ?_ (by first | exact Nat.le_refl _ | omega | (simp; done) | (simp; omega)) _))

theorem of_2 (w : World) : Calls Try.prog 43 #[.int .u8 2] w fun e w' => e = .returned (ofR 2) ∧ Below w.heap.size w w' := by
  go_enter Try.func43, Try.ntmps43
  iterate 41 go_step
  refine wpList_store_fresh rfl rfl 62 _ _ rfl _ _ ?h1 _ _ rfl rfl ?h4 ?h5 ?h6 ?h7
  case h1 => simp
  case h4 => kernel_rfl
  case h5 => kernel_rfl
  case h6 => kernel_rfl
  go_wp2
  refine bodyPost_ret (v := ofR 2) (by simp [results, Try.results43, go_sem, ofR, na, tk, nm, dr]) rfl ⟨rfl, ?_⟩
  (repeat (first | exact Below.refl _ _ | assumption | refine Ba.below_step (by assumption) (by first | exact Nat.le_refl _ | omega | (simp; done) | (simp; omega)) ?_ | apply Below.drew | apply Ba.below_drewN | refine Below.alloc ?_ (by first | exact Nat.le_refl _ | omega | (simp; done) | (simp; omega)) _ | refine Below.setCell ?_ (by first | exact Nat.le_refl _ | omega | (simp; done) | (simp; omega)) _))

theorem of_3 (w : World) : Calls Try.prog 43 #[.int .u8 3] w fun e w' => e = .returned (ofR 3) ∧ Below w.heap.size w w' := by
  go_enter Try.func43, Try.ntmps43
  iterate 41 go_step
  refine wpList_store_fresh rfl rfl 62 _ _ rfl _ _ ?h1 _ _ rfl rfl ?h4 ?h5 ?h6 ?h7
  case h1 => simp
  case h4 => kernel_rfl
  case h5 => kernel_rfl
  case h6 => kernel_rfl
  go_wp2
  refine bodyPost_ret (v := ofR 3) (by simp [results, Try.results43, go_sem, ofR, na, tk, nm, dr]) rfl ⟨rfl, ?_⟩
  (repeat (first | exact Below.refl _ _ | assumption | refine Ba.below_step (by assumption) (by first | exact Nat.le_refl _ | omega | (simp; done) | (simp; omega)) ?_ | apply Below.drew | apply Ba.below_drewN | refine Below.alloc ?_ (by first | exact Nat.le_refl _ | omega | (simp; done) | (simp; omega)) _ | refine Below.setCell ?_ (by first | exact Nat.le_refl _ | omega | (simp; done) | (simp; omega)) _))

theorem of_4 (w : World) : Calls Try.prog 43 #[.int .u8 4] w fun e w' => e = .returned (ofR 4) ∧ Below w.heap.size w w' := by
  go_enter Try.func43, Try.ntmps43
  iterate 41 go_step
  refine wpList_store_fresh rfl rfl 62 _ _ rfl _ _ ?h1 _ _ rfl rfl ?h4 ?h5 ?h6 ?h7
  case h1 => simp
  case h4 => kernel_rfl
  case h5 => kernel_rfl
  case h6 => kernel_rfl
  go_wp2
  refine bodyPost_ret (v := ofR 4) (by simp [results, Try.results43, go_sem, ofR, na, tk, nm, dr]) rfl ⟨rfl, ?_⟩
  (repeat (first | exact Below.refl _ _ | assumption | refine Ba.below_step (by assumption) (by first | exact Nat.le_refl _ | omega | (simp; done) | (simp; omega)) ?_ | apply Below.drew | apply Ba.below_drewN | refine Below.alloc ?_ (by first | exact Nat.le_refl _ | omega | (simp; done) | (simp; omega)) _ | refine Below.setCell ?_ (by first | exact Nat.le_refl _ | omega | (simp; done) | (simp; omega)) _))

theorem of_5 (w : World) : Calls Try.prog 43 #[.int .u8 5] w fun e w' => e = .returned (ofR 5) ∧ Below w.heap.size w w' := by
  go_enter Try.func43, Try.ntmps43
  iterate 41 go_step
  refine wpList_store_fresh rfl rfl 62 _ _ rfl _ _ ?h1 _ _ rfl rfl ?h4 ?h5 ?h6 ?h7
  case h1 => simp
  case h4 => kernel_rfl
  case h5 => kernel_rfl
  case h6 => kernel_rfl
  go_wp2
  refine bodyPost_ret (v := ofR 5) (by simp [results, Try.results43, go_sem, ofR, na, tk, nm, dr]) rfl ⟨rfl, ?_⟩
  (repeat (first | exact Below.refl _ _ | assumption | refine Ba.below_step (by assumption) (by first | exact Nat.le_refl _ | omega | (simp; done) | (simp; omega)) ?_ | apply Below.drew | apply Ba.below_drewN | refine Below.alloc ?_ (by first | exact Nat.le_refl _ | omega | (simp; done) | (simp; omega)) _ | refine Below.setCell ?_ (by first | exact Nat.le_refl _ | omega | (simp; done) | (simp; omega)) _))

theorem of_6 (w : World) : Calls Try.prog 43 #[.int .u8 6] w fun e w' => e = .returned (ofR 6) ∧ Below w.heap.size w w' := by
  go_enter Try.func43, Try.ntmps43
  iterate 41 go_step
  refine wpList_store_fresh rfl rfl 62 _ _ rfl _ _ ?h1 _ _ rfl rfl ?h4 ?h5 ?h6 ?h7
  case h1 => simp
  case h4 => kernel_rfl
  case h5 => kernel_rfl
  case h6 => kernel_rfl
  go_wp2
  refine bodyPost_ret (v := ofR 6) (by simp [results, Try.results43, go_sem, ofR, na, tk, nm, dr]) rfl ⟨rfl, ?_⟩
  (repeat (first | exact Below.refl _ _ | assumption | refine Ba.below_step (by assumption) (by first | exact Nat.le_refl _ | omega | (simp; done) | (simp; omega)) ?_ | apply Below.drew | apply Ba.below_drewN | refine Below.alloc ?_ (by first | exact Nat.le_refl _ | omega | (simp; done) | (simp; omega)) _ | refine Below.setCell ?_ (by first | exact Nat.le_refl _ | omega | (simp; done) | (simp; omega)) _))

theorem of_7 (w : World) : Calls Try.prog 43 #[.int .u8 7] w fun e w' => e = .returned (ofR 7) ∧ Below w.heap.size w w' := by
  go_enter Try.func43, Try.ntmps43
  iterate 41 go_step
  refine wpList_store_fresh rfl rfl 62 _ _ rfl _ _ ?h1 _ _ rfl rfl ?h4 ?h5 ?h6 ?h7
  case h1 => simp
  case h4 => kernel_rfl
  case h5 => kernel_rfl
  case h6 => kernel_rfl
  go_wp2
  refine bodyPost_ret (v := ofR 7) (by simp [results, Try.results43, go_sem, ofR, na, tk, nm, dr]) rfl ⟨rfl, ?_⟩
  (repeat (first | exact Below.refl _ _ | assumption | refine Ba.below_step (by assumption) (by first | exact Nat.le_refl _ | omega | (simp; done) | (simp; omega)) ?_ | apply Below.drew | apply Ba.below_drewN | refine Below.alloc ?_ (by first | exact Nat.le_refl _ | omega | (simp; done) | (simp; omega)) _ | refine Below.setCell ?_ (by first | exact Nat.le_refl _ | omega | (simp; done) | (simp; omega)) _))

theorem of_0 (w : World) : Calls Try.prog 43 #[.int .u8 0] w fun e w' => e = .returned (ofR 0) ∧ Below w.heap.size w w' := by
  go_enter Try.func43, Try.ntmps43
  iterate 41 go_step
  refine wpList_store_fresh rfl rfl 62 _ _ rfl _ _ ?h1 _ _ rfl rfl ?h4 ?h5 ?h6 ?h7
  case h1 => simp
  case h4 => kernel_rfl
  case h5 => kernel_rfl
  case h6 => kernel_rfl
  go_wp2
  refine bodyPost_ret (v := ofR 0) (by simp [results, Try.results43, go_sem, ofR, na, tk, nm, dr]) rfl ⟨rfl, ?_⟩
  (repeat (first | exact Below.refl _ _ | assumption | refine Ba.below_step (by assumption) (by first | exact Nat.le_refl _ | omega | (simp; done) | (simp; omega)) ?_ | apply Below.drew | apply Ba.below_drewN | refine Below.alloc ?_ (by first | exact Nat.le_refl _ | omega | (simp; done) | (simp; omega)) _ | refine Below.setCell ?_ (by first | exact Nat.le_refl _ | omega | (simp; done) | (simp; omega)) _))

theorem of_far (r : Int) (w : World) (h0 : 8 ≤ r) (h1 : r ≤ 255) : Calls Try.prog 43 #[.int .u8 r] w fun e w' => e = .returned (ofR r) ∧ Below w.heap.size w w' := by
  rw [of_no r (va_no r (by omega))]
  have t1 : decide (8 ≤ r) = true := decide_eq_true (by omega)
  go_enter Try.func43, Try.ntmps43
  iterate 41 go_step
  refine wpList_store_fresh rfl rfl 62 _ _ rfl _ _ ?h1 _ _ rfl rfl ?h4 ?h5 ?h6 ?h7
  case h1 => simp
  case h4 => kernel_rfl
  case h5 => kernel_rfl
  case h6 => kernel_rfl
  go_wp2
  refine bodyPost_ret (v := .agg #[.string ⟨#[]⟩, .int .i64 0, .int .i64 0, .bool false]) (by simp [results, Try.results43, go_sem]) rfl ⟨rfl, ?_⟩
  (repeat (first | exact Below.refl _ _ | assumption | refine Ba.below_step (by assumption) (by first | exact Nat.le_refl _ | omega | (simp; done) | (simp; omega)) ?_ | apply Below.drew | apply Ba.below_drewN | refine Below.alloc ?_ (by first | exact Nat.le_refl _ | omega | (simp; done) | (simp; omega)) _ | refine Below.setCell ?_ (by first | exact Nat.le_refl _ | omega | (simp; done) | (simp; omega)) _))
theorem of_ok (r : Int) (w : World) (h0 : 0 ≤ r) (h1 : r ≤ 255) :
    Calls Try.prog 43 #[.int .u8 r] w fun e w' => e = .returned (ofR r) ∧ Below w.heap.size w w' := by
  by_cases h : 8 ≤ r
  · exact of_far r w h h1
  · have : r = 0 ∨ r = 1 ∨ r = 2 ∨ r = 3 ∨ r = 4 ∨ r = 5 ∨ r = 6 ∨ r = 7 := by omega
    rcases this with rfl | rfl | rfl | rfl | rfl | rfl | rfl | rfl
    · exact of_0 w
    · exact of_1 w
    · exact of_2 w
    · exact of_3 w
    · exact of_4 w
    · exact of_5 w
    · exact of_6 w
    · exact of_7 w

end Go.Proofs.Ytgllekaanaikhaa.Tb
