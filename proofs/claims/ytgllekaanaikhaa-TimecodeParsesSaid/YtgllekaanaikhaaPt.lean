/- A label's text reads as the label: plain laws on bytes. -/
import Derived.Test.YtgllekaanaikhaaChecked
import Derived.Test.YtgllekaanaikhaaBase
import Derived.Test.YtgllekaanaikhaaPm
import Derived.Test.YtgllekaanaikhaaLp
import Derived.Test.YtgllekaanaikhaaTx
namespace Go.Proofs.Ytgllekaanaikhaa.Tb
open Go.RowKit Ba
set_option linter.unusedVariables false
set_option linter.unusedSimpArgs false

theorem txt_size (h m s f : Int) (d : Bool) : (txt h m s f d).size = 11 := by unfold txt; rw [strOfNums_size]; rfl
theorem bt_str (xs : List Int) (k : Nat) (n : Int) (hk : xs[k]? = some n) (n0 : 0 ≤ n) (n1 : n ≤ 255) : bt (strOfNums xs) k = n := by
  unfold bt
  rw [strOfNums_data, List.getD_eq_getElem?_getD, List.getElem?_map, hk]
  simp [UInt8.toNat_ofNat']
  omega
theorem txt_bt (h m s f : Int) (d : Bool) (h0 : 0 ≤ h) (h1 : h ≤ 99) (m0 : 0 ≤ m) (m1 : m ≤ 99) (s0 : 0 ≤ s) (s1 : s ≤ 99) (f0 : 0 ≤ f) (f1 : f ≤ 99) :
    bt (txt h m s f d) 0 = 48 + h / 10 ∧ bt (txt h m s f d) 1 = 48 + h % 10 ∧ bt (txt h m s f d) 2 = 58 ∧ bt (txt h m s f d) 3 = 48 + m / 10 ∧ bt (txt h m s f d) 4 = 48 + m % 10 ∧ bt (txt h m s f d) 5 = 58 ∧
    bt (txt h m s f d) 6 = 48 + s / 10 ∧ bt (txt h m s f d) 7 = 48 + s % 10 ∧ bt (txt h m s f d) 8 = sepd d ∧ bt (txt h m s f d) 9 = 48 + f / 10 ∧ bt (txt h m s f d) 10 = 48 + f % 10 := by
  have hs : 0 ≤ sepd d ∧ sepd d ≤ 255 := by cases d <;> decide
  refine ⟨?_, ?_, ?_, ?_, ?_, ?_, ?_, ?_, ?_, ?_, ?_⟩ <;> exact bt_str _ _ _ rfl (by omega) (by omega)
theorem prs_txt (r h m s f : Int) (d : Bool) (hv : va r = true) (hc : chk r h m s f d = 0) : prsR r (txt h m s f d) = (h, m, s, f, d, 0) := by
  obtain ⟨h0, h1, m0, m1, s0, s1, f0, f1⟩ := chk_99 r h m s f d hc
  obtain ⟨b0, b1, b2, b3, b4, b5, b6, b7, b8, b9, b10⟩ := txt_bt h m s f d h0 h1 m0 m1 s0 s1 f0 f1
  have hd : (bt (txt h m s f d) 8 == 59) = d := by rw [b8]; cases d <;> rfl
  have e0 : 10 * (bt (txt h m s f d) 0 - 48) + (bt (txt h m s f d) 1 - 48) = h := by omega
  have e1 : 10 * (bt (txt h m s f d) 3 - 48) + (bt (txt h m s f d) 4 - 48) = m := by omega
  have e2 : 10 * (bt (txt h m s f d) 6 - 48) + (bt (txt h m s f d) 7 - 48) = s := by omega
  have e3 : 10 * (bt (txt h m s f d) 9 - 48) + (bt (txt h m s f d) 10 - 48) = f := by omega
  have h8 : sepd d = 58 ∨ sepd d = 59 := by cases d <;> decide
  have hb : ¬ badS (txt h m s f d) := by
    unfold badS
    rw [txt_size, b0, b1, b2, b3, b4, b5, b6, b7, b8, b9, b10]
    omega
  rw [prs_ok r _ hv hb (by rw [e0, e1, e2, e3, hd]; exact hc), e0, e1, e2, e3, hd]
theorem prs_awake : prsR 4 ⟨#[48, 48, 58, 48, 49, 58, 48, 48, 59, 48, 50]⟩ = (0, 1, 0, 2, true, 0) := prs_txt 4 0 1 0 2 true (by decide) (by decide)
theorem lab_awake : labR 4 true 1800 = (0, 1, 0, 2, true, 0) := by decide
theorem lag_awake : lagR 4 true 17982 = (-72, 0) := by decide
theorem day_awake : day 4 true = 2589408 := by decide
end Go.Proofs.Ytgllekaanaikhaa.Tb
