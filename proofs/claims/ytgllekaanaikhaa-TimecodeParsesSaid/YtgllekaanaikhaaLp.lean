/- What Parse computes. -/
import Derived.Test.YtgllekaanaikhaaChecked
import Derived.Test.YtgllekaanaikhaaBase
import Derived.Test.YtgllekaanaikhaaLc
import Derived.Test.YtgllekaanaikhaaLd
import Derived.Handy
import Derived.Deep.RegionHeld3
namespace Go.Proofs.Ytgllekaanaikhaa.Tb
open Go.RowKit Ba
set_option linter.unusedVariables false
set_option linter.unusedSimpArgs false

/-- A byte of a text, 0 behind its end. -/
def bt (s : ByteArray) (k : Nat) : Int := ((s.data.toList.getD k 0).toNat : Int)
theorem bt_at (s : ByteArray) (k : Nat) : ∀ h : k < s.size, ((s[k]'h).toNat : Int) = bt s k := by
  intro h
  unfold bt
  have h' : k < s.data.toList.length := by simpa using h
  rw [List.getD_eq_getElem?_getD, List.getElem?_eq_getElem h']
  rfl
theorem bt_lo (s : ByteArray) (k : Nat) : 0 ≤ bt s k := by unfold bt; omega
theorem bt_hi (s : ByteArray) (k : Nat) : bt s k ≤ 255 := by unfold bt; have := (s.data.toList.getD k 0).toNat_lt; omega
/-- A text that has not the form of a label. -/
def badS (s : ByteArray) : Prop := s.size ≠ 11 ∨ bt s 2 ≠ 58 ∨ bt s 5 ≠ 58 ∨ (bt s 8 ≠ 58 ∧ bt s 8 ≠ 59) ∨ (bt s 0 < 48 ∨ 57 < bt s 0 ∨ bt s 1 < 48 ∨ 57 < bt s 1) ∨ (bt s 3 < 48 ∨ 57 < bt s 3 ∨ bt s 4 < 48 ∨ 57 < bt s 4) ∨ (bt s 6 < 48 ∨ 57 < bt s 6 ∨ bt s 7 < 48 ∨ 57 < bt s 7) ∨ (bt s 9 < 48 ∨ 57 < bt s 9 ∨ bt s 10 < 48 ∨ 57 < bt s 10)
open Classical in
/-- Parse. -/
noncomputable def prsR (r : Int) (s : ByteArray) : Int × Int × Int × Int × Bool × Int :=
  if va r = false then (0, 0, 0, 0, false, 3) else if badS s then (0, 0, 0, 0, false, 4) else
  if chk r (10 * (bt s 0 - 48) + (bt s 1 - 48)) (10 * (bt s 3 - 48) + (bt s 4 - 48)) (10 * (bt s 6 - 48) + (bt s 7 - 48)) (10 * (bt s 9 - 48) + (bt s 10 - 48)) (bt s 8 == 59) ≠ 0 then (0, 0, 0, 0, false, chk r (10 * (bt s 0 - 48) + (bt s 1 - 48)) (10 * (bt s 3 - 48) + (bt s 4 - 48)) (10 * (bt s 6 - 48) + (bt s 7 - 48)) (10 * (bt s 9 - 48) + (bt s 10 - 48)) (bt s 8 == 59))
  else (10 * (bt s 0 - 48) + (bt s 1 - 48), 10 * (bt s 3 - 48) + (bt s 4 - 48), 10 * (bt s 6 - 48) + (bt s 7 - 48), 10 * (bt s 9 - 48) + (bt s 10 - 48), bt s 8 == 59, 0)
theorem prs_bad (r : Int) (s : ByteArray) (hv : va r = true) (hb : badS s) : prsR r s = (0, 0, 0, 0, false, 4) := by unfold prsR; rw [if_neg (by simp [hv]), if_pos hb]
theorem prs_chk (r : Int) (s : ByteArray) (hv : va r = true) (hb : ¬ badS s) (hc : ¬ chk r (10 * (bt s 0 - 48) + (bt s 1 - 48)) (10 * (bt s 3 - 48) + (bt s 4 - 48)) (10 * (bt s 6 - 48) + (bt s 7 - 48)) (10 * (bt s 9 - 48) + (bt s 10 - 48)) (bt s 8 == 59) = 0) :
    prsR r s = (0, 0, 0, 0, false, chk r (10 * (bt s 0 - 48) + (bt s 1 - 48)) (10 * (bt s 3 - 48) + (bt s 4 - 48)) (10 * (bt s 6 - 48) + (bt s 7 - 48)) (10 * (bt s 9 - 48) + (bt s 10 - 48)) (bt s 8 == 59)) := by unfold prsR; rw [if_neg (by simp [hv]), if_neg hb, if_pos hc]
theorem prs_ok (r : Int) (s : ByteArray) (hv : va r = true) (hb : ¬ badS s) (hc : chk r (10 * (bt s 0 - 48) + (bt s 1 - 48)) (10 * (bt s 3 - 48) + (bt s 4 - 48)) (10 * (bt s 6 - 48) + (bt s 7 - 48)) (10 * (bt s 9 - 48) + (bt s 10 - 48)) (bt s 8 == 59) = 0) :
    prsR r s = (10 * (bt s 0 - 48) + (bt s 1 - 48), 10 * (bt s 3 - 48) + (bt s 4 - 48), 10 * (bt s 6 - 48) + (bt s 7 - 48), 10 * (bt s 9 - 48) + (bt s 10 - 48), bt s 8 == 59, 0) := by unfold prsR; rw [if_neg (by simp [hv]), if_neg hb, if_neg (by simpa using hc)]
end Go.Proofs.Ytgllekaanaikhaa.Tb
