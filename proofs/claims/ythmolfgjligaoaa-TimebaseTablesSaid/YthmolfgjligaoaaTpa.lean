/- The table of the seven rates, in integers, and the contracts of the functions that read it (timebase) and of their references. No condition but that a rate is a byte. -/
import Derived.Test.YthmolfgjligaoaaChecked
import Derived.Test.YthmolfgjligaoaaBase
import Derived.Test.YthmolfgjligaoaaTim
import Derived.Test.YthmolfgjligaoaaQuo
import Derived.Test.YthmolfgjligaoaaTcv
import Derived.Test.YthmolfgjligaoaaExt
import Derived.WalkLawsBesides
namespace Go.Proofs.Ythmolfgjligaoaa.Tb
open Go.RowKit Ba Qu
set_option linter.unusedVariables false
set_option linter.unusedSimpArgs false

/-! ### Parse -/
def parR (s : ByteArray) : Int × Int :=
  if na 1 = s then (1, 0) else if na 2 = s then (2, 0) else if na 3 = s then (3, 0) else if na 4 = s then (4, 0) else if na 5 = s then (5, 0) else if na 6 = s then (6, 0) else if na 7 = s then (7, 0) else (0, 4)
theorem str_yes {a b : ByteArray} (h : a = b) : (a.toList == b.toList) = true := by rw [h]; simp
theorem str_no {a b : ByteArray} (h : a ≠ b) : (a.toList == b.toList) = false := by
  rw [ByteArray.toList_eq, ByteArray.toList_eq, beq_eq_false_iff_ne]
  intro he
  exact h (ByteArray.ext (Array.toList_inj.1 he))
theorem par_of {s : ByteArray} {k : Nat} (hk : k < 7) (h : ∀ j : Nat, j < k → na ((j : Int) + 1) ≠ s) (hy : na ((k : Int) + 1) = s) : parR s = ((k : Int) + 1, 0) := by
  have h0 := h 0; have h1 := h 1; have h2 := h 2; have h3 := h 3; have h4 := h 4; have h5 := h 5
  match k, hk with
  | 0, _ => simp at hy; unfold parR; simp [hy]
  | 1, _ => simp at h0 hy; unfold parR; simp [h0, hy]
  | 2, _ => simp at h0 h1 hy; unfold parR; simp [h0, h1, hy]
  | 3, _ => simp at h0 h1 h2 hy; unfold parR; simp [h0, h1, h2, hy]
  | 4, _ => simp at h0 h1 h2 h3 hy; unfold parR; simp [h0, h1, h2, h3, hy]
  | 5, _ => simp at h0 h1 h2 h3 h4 hy; unfold parR; simp [h0, h1, h2, h3, h4, hy]
  | 6, _ => simp at h0 h1 h2 h3 h4 h5 hy; unfold parR; simp [h0, h1, h2, h3, h4, h5, hy]
theorem par_no {s : ByteArray} (h : ∀ j : Nat, j < 7 → na ((j : Int) + 1) ≠ s) : parR s = (0, 4) := by
  have h0 := h 0; have h1 := h 1; have h2 := h 2; have h3 := h 3; have h4 := h 4; have h5 := h 5; have h6 := h 6
  simp at h0 h1 h2 h3 h4 h5 h6
  unfold parR; simp [h0, h1, h2, h3, h4, h5, h6]
theorem na_inj (r : Int) (h : va r = true) : parR (na r) = (r, 0) := by
  rcases va_yes r h with rfl | rfl | rfl | rfl | rfl | rfl | rfl <;> decide
theorem na_none : parR ⟨#[]⟩ = (0, 4) := by decide

@[go_sem] def retp (x : Int × Int) : Value := .tuple #[.int .u8 x.1, .int .i64 x.2]

theorem Rates_ok (w : World) : Calls Try.prog 18 #[] w fun e w' => e = .returned (.slice (some ⟨w.heap.size, 0, none⟩) 7 7) ∧ w.alloc (.cells #[.int .u8 1, .int .u8 2, .int .u8 3, .int .u8 4, .int .u8 5, .int .u8 6, .int .u8 7] 22) = w' := by
  go_enter Try.func18, Try.ntmps18
  go_wp2
  go_ret
  exact ⟨rfl, rfl⟩

theorem RRates_ok (w : World) : Calls Try.prog 19 #[] w fun e w' => e = .returned (.slice (some ⟨w.heap.size, 0, none⟩) 7 7) ∧ w.alloc (.cells #[.int .u8 1, .int .u8 2, .int .u8 3, .int .u8 4, .int .u8 5, .int .u8 6, .int .u8 7] 22) = w' := by
  go_enter Try.func19, Try.ntmps19
  go_wp2
  go_ret
  exact ⟨rfl, rfl⟩

theorem Parse_any (s : ByteArray) (w : World) :
    Calls Try.prog 38 #[.string s] w fun e w' => e = .returned (retp (parR s)) ∧ Below w.heap.size w w' := by
  go_enter Try.func38, Try.ntmps38
  go_wp2_with (go_at_call 18; refine (Rates_ok _).mono ?_; rintro e w' ⟨rfl, rfl⟩)
  go_loopw [2, 3, 8] (fun p q v wr => p = .int .u8 0 ∧ q = .int .i64 0 ∧ (∃ k : Nat, k ≤ 7 ∧ v = .int .i64 k ∧ ∀ j : Nat, j < k → na ((j : Int) + 1) ≠ s) ∧ (∀ i : Nat, i < 7 → wr.cell? ⟨w.heap.size, i, none⟩ = some (.int .u8 ((i : Int) + 1))) ∧ Below w.heap.size w wr ∧ w.heap.size < wr.heap.size) (fun _ _ v _ => 7 - (intOf v).toNat)
  case atStart =>
    refine ⟨rfl, rfl, ⟨0, by omega, rfl, fun j hj => absurd hj (by omega)⟩, fun i hi => ?_, by (repeat (first | exact Below.refl _ _ | assumption | refine Ba.below_step (by assumption) (by first | exact Nat.le_refl _ | omega | (simp; done) | (simp; omega)) ?_ | apply Below.drew | apply Ba.below_drewN | refine Below.alloc ?_ (by first | exact Nat.le_refl _ | omega | (simp; done) | (simp; omega)) _ | refine Below.setCell ?_ (by first | exact Nat.le_refl _ | omega | (simp; done) | (simp; omega)) _)), by simp⟩
    match i, hi with
    | 0, _ => simp
    | 1, _ => simp
    | 2, _ => simp
    | 3, _ => simp
    | 4, _ => simp
    | 5, _ => simp
    | 6, _ => simp
  case round =>
    obtain ⟨rfl, rfl, ⟨k, hk, rfl, hg⟩, hcl, hbw, hzw⟩ := hrel
    have HG := Lib.hid hg
    have HC := Lib.hid hcl
    clear hg hcl
    by_cases hlt : k < 7
    · have hck := HC.out k hlt
      by_cases hs : na ((k : Int) + 1) = s
      · have hq := str_yes hs
        have HQ := Lib.hid hs
        clear hs
        go_wp2_with fail
        refine (Name_ok _ _ (by omega) (by omega)).mono ?_
        rintro e w1 ⟨rfl, hb1⟩
        go_wp2
        go_ret2
        exact ⟨by rw [par_of hlt HG.out HQ.out]; rfl, by (repeat (first | exact Below.refl _ _ | assumption | refine Ba.below_step (by assumption) (by first | exact Nat.le_refl _ | omega | (simp; done) | (simp; omega)) ?_ | apply Below.drew | apply Ba.below_drewN | refine Below.alloc ?_ (by first | exact Nat.le_refl _ | omega | (simp; done) | (simp; omega)) _ | refine Below.setCell ?_ (by first | exact Nat.le_refl _ | omega | (simp; done) | (simp; omega)) _))⟩
      · have hq := str_no hs
        have HQ := Lib.hid hs
        clear hs
        go_wp2_with fail
        refine (Name_ok _ _ (by omega) (by omega)).mono ?_
        rintro e w1 ⟨rfl, hb1⟩
        go_wp2
        go_roundw
        case rel =>
          have hz1 := hb1.size
          refine ⟨rfl, rfl, ⟨k + 1, by omega, by go_num, fun j hj => ?_⟩, fun i hi => (hb1.cell (p := ⟨w.heap.size, i, none⟩) (by show w.heap.size < _; omega)).trans (HC.out i hi), by (repeat (first | exact Below.refl _ _ | assumption | refine Ba.below_step (by assumption) (by first | exact Nat.le_refl _ | omega | (simp; done) | (simp; omega)) ?_ | apply Below.drew | apply Ba.below_drewN | refine Below.alloc ?_ (by first | exact Nat.le_refl _ | omega | (simp; done) | (simp; omega)) _ | refine Below.setCell ?_ (by first | exact Nat.le_refl _ | omega | (simp; done) | (simp; omega)) _)), by omega⟩
          by_cases e : j = k
          · subst e; exact HQ.out
          · exact HG.out j (by omega)
        case measure => simp [intOf]; omega
    · obtain rfl : k = 7 := by omega
      go_wp2
      go_ret2
      exact ⟨by rw [par_no HG.out]; rfl, by (repeat (first | exact Below.refl _ _ | assumption | refine Ba.below_step (by assumption) (by first | exact Nat.le_refl _ | omega | (simp; done) | (simp; omega)) ?_ | apply Below.drew | apply Ba.below_drewN | refine Below.alloc ?_ (by first | exact Nat.le_refl _ | omega | (simp; done) | (simp; omega)) _ | refine Below.setCell ?_ (by first | exact Nat.le_refl _ | omega | (simp; done) | (simp; omega)) _))⟩

theorem RParse_any (s : ByteArray) (w : World) :
    Calls Try.prog 39 #[.string s] w fun e w' => e = .returned (retp (parR s)) ∧ Below w.heap.size w w' := by
  go_enter Try.func39, Try.ntmps39
  go_wp2_with (go_at_call 19; refine (RRates_ok _).mono ?_; rintro e w' ⟨rfl, rfl⟩)
  go_loopw [2, 3, 8] (fun p q v wr => p = .int .u8 0 ∧ q = .int .i64 0 ∧ (∃ k : Nat, k ≤ 7 ∧ v = .int .i64 k ∧ ∀ j : Nat, j < k → na ((j : Int) + 1) ≠ s) ∧ (∀ i : Nat, i < 7 → wr.cell? ⟨w.heap.size, i, none⟩ = some (.int .u8 ((i : Int) + 1))) ∧ Below w.heap.size w wr ∧ w.heap.size < wr.heap.size) (fun _ _ v _ => 7 - (intOf v).toNat)
  case atStart =>
    refine ⟨rfl, rfl, ⟨0, by omega, rfl, fun j hj => absurd hj (by omega)⟩, fun i hi => ?_, by (repeat (first | exact Below.refl _ _ | assumption | refine Ba.below_step (by assumption) (by first | exact Nat.le_refl _ | omega | (simp; done) | (simp; omega)) ?_ | apply Below.drew | apply Ba.below_drewN | refine Below.alloc ?_ (by first | exact Nat.le_refl _ | omega | (simp; done) | (simp; omega)) _ | refine Below.setCell ?_ (by first | exact Nat.le_refl _ | omega | (simp; done) | (simp; omega)) _)), by simp⟩
    match i, hi with
    | 0, _ => simp
    | 1, _ => simp
    | 2, _ => simp
    | 3, _ => simp
    | 4, _ => simp
    | 5, _ => simp
    | 6, _ => simp
  case round =>
    obtain ⟨rfl, rfl, ⟨k, hk, rfl, hg⟩, hcl, hbw, hzw⟩ := hrel
    have HG := Lib.hid hg
    have HC := Lib.hid hcl
    clear hg hcl
    by_cases hlt : k < 7
    · have hck := HC.out k hlt
      by_cases hs : na ((k : Int) + 1) = s
      · have hq := str_yes hs
        have HQ := Lib.hid hs
        clear hs
        go_wp2_with fail
        refine (RName_ok _ _ (by omega) (by omega)).mono ?_
        rintro e w1 ⟨rfl, hb1⟩
        go_wp2
        go_ret2
        exact ⟨by rw [par_of hlt HG.out HQ.out]; rfl, by (repeat (first | exact Below.refl _ _ | assumption | refine Ba.below_step (by assumption) (by first | exact Nat.le_refl _ | omega | (simp; done) | (simp; omega)) ?_ | apply Below.drew | apply Ba.below_drewN | refine Below.alloc ?_ (by first | exact Nat.le_refl _ | omega | (simp; done) | (simp; omega)) _ | refine Below.setCell ?_ (by first | exact Nat.le_refl _ | omega | (simp; done) | (simp; omega)) _))⟩
      · have hq := str_no hs
        have HQ := Lib.hid hs
        clear hs
        go_wp2_with fail
        refine (RName_ok _ _ (by omega) (by omega)).mono ?_
        rintro e w1 ⟨rfl, hb1⟩
        go_wp2
        go_roundw
        case rel =>
          have hz1 := hb1.size
          refine ⟨rfl, rfl, ⟨k + 1, by omega, by go_num, fun j hj => ?_⟩, fun i hi => (hb1.cell (p := ⟨w.heap.size, i, none⟩) (by show w.heap.size < _; omega)).trans (HC.out i hi), by (repeat (first | exact Below.refl _ _ | assumption | refine Ba.below_step (by assumption) (by first | exact Nat.le_refl _ | omega | (simp; done) | (simp; omega)) ?_ | apply Below.drew | apply Ba.below_drewN | refine Below.alloc ?_ (by first | exact Nat.le_refl _ | omega | (simp; done) | (simp; omega)) _ | refine Below.setCell ?_ (by first | exact Nat.le_refl _ | omega | (simp; done) | (simp; omega)) _)), by omega⟩
          by_cases e : j = k
          · subst e; exact HQ.out
          · exact HG.out j (by omega)
        case measure => simp [intOf]; omega
    · obtain rfl : k = 7 := by omega
      go_wp2
      go_ret2
      exact ⟨by rw [par_no HG.out]; rfl, by (repeat (first | exact Below.refl _ _ | assumption | refine Ba.below_step (by assumption) (by first | exact Nat.le_refl _ | omega | (simp; done) | (simp; omega)) ?_ | apply Below.drew | apply Ba.below_drewN | refine Below.alloc ?_ (by first | exact Nat.le_refl _ | omega | (simp; done) | (simp; omega)) _ | refine Below.setCell ?_ (by first | exact Nat.le_refl _ | omega | (simp; done) | (simp; omega)) _))⟩

end Go.Proofs.Ythmolfgjligaoaa.Tb
