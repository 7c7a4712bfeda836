/- Lag of both packages, and the bounds of a label. -/
import Derived.Test.YtgllekaanaikhaaChecked
import Derived.Test.YtgllekaanaikhaaBase
import Derived.Test.YtgllekaanaikhaaLb
import Derived.Test.YtgllekaanaikhaaExt
namespace Go.Proofs.Ytgllekaanaikhaa.Tb
open Go.RowKit Ba
set_option linter.unusedVariables false
set_option linter.unusedSimpArgs false

/-- The kinds of labels there are: a rate's frames a second, and the labels left out a minute. -/
theorem kinds (r : Int) (d : Bool) (he : rerr r d = 0) : (nm r = 24 ∧ dp r d = 0) ∨ (nm r = 25 ∧ dp r d = 0) ∨ (nm r = 30 ∧ dp r d = 0) ∨ (nm r = 50 ∧ dp r d = 0) ∨ (nm r = 60 ∧ dp r d = 0) ∨ (nm r = 30 ∧ dp r d = 2) ∨ (nm r = 60 ∧ dp r d = 4) := by
  obtain ⟨hv, hdr⟩ := rerr_ok r d he
  have hc := va_yes r hv
  cases d
  · rcases hc with h | h | h | h | h | h | h <;> subst h <;> decide
  · have hdr' : dr r = true := by simpa using hdr
    rcases hc with h | h | h | h | h | h | h <;> subst h <;> first | decide | (exfalso; revert hdr'; decide)
theorem num_bd (n d f : Int) (hk : (n = 24 ∧ d = 0) ∨ (n = 25 ∧ d = 0) ∨ (n = 30 ∧ d = 0) ∨ (n = 50 ∧ d = 0) ∨ (n = 60 ∧ d = 0) ∨ (n = 30 ∧ d = 2) ∨ (n = 60 ∧ d = 4)) (f0 : 0 ≤ f) (f1 : f < 86400 * n - 1296 * d) : 0 ≤ num n d f ∧ num n d f < 86400 * n := by
  unfold num
  rcases hk with ⟨h1, h2⟩ | ⟨h1, h2⟩ | ⟨h1, h2⟩ | ⟨h1, h2⟩ | ⟨h1, h2⟩ | ⟨h1, h2⟩ | ⟨h1, h2⟩ <;> subst h1 h2 <;> split <;> omega
theorem day_eq (r : Int) (d : Bool) (he : rerr r d = 0) : day r d = 86400 * nm r - 1296 * dp r d := by unfold day; rw [if_pos he]
theorem split_bd (n : Int) (d : Bool) (N : Int) (hk : n = 24 ∨ n = 25 ∨ n = 30 ∨ n = 50 ∨ n = 60) (h0 : 0 ≤ N) (h1 : N < 86400 * n) :
    0 ≤ N / n / 3600 ∧ N / n / 3600 ≤ 23 ∧ 0 ≤ N / n / 60 % 60 ∧ N / n / 60 % 60 ≤ 59 ∧ 0 ≤ N / n % 60 ∧ N / n % 60 ≤ 59 ∧ 0 ≤ N % n ∧ N % n < n := by
  rcases hk with h | h | h | h | h <;> subst h <;> omega
theorem kinds_n (r : Int) (d : Bool) (he : rerr r d = 0) : nm r = 24 ∨ nm r = 25 ∨ nm r = 30 ∨ nm r = 50 ∨ nm r = 60 := by
  rcases kinds r d he with h | h | h | h | h | h | h <;> omega
/-- A label that is there: its six parts. -/
theorem lab_is (r : Int) (d : Bool) (f : Int) : (∃ e, labR r d f = (0, 0, 0, 0, false, e) ∧ (e = 2 ∨ e = 3 ∨ e = 13)) ∨
    (∃ H M S F, labR r d f = (H, M, S, F, d, 0) ∧ rerr r d = 0 ∧ 0 ≤ f ∧ f < day r d ∧ 0 ≤ H ∧ H ≤ 23 ∧ 0 ≤ M ∧ M ≤ 59 ∧ 0 ≤ S ∧ S ≤ 59 ∧ 0 ≤ F ∧ F < nm r ∧ 3600 * H + 60 * M + S = num (nm r) (dp r d) f / nm r ∧ F = num (nm r) (dp r d) f % nm r) := by
  unfold labR
  split
  · rename_i he
    refine .inl ⟨_, rfl, ?_⟩
    unfold rerr at he ⊢
    split
    · omega
    · split
      · omega
      · simp_all
  · rename_i he
    split
    · exact .inl ⟨_, rfl, by omega⟩
    · rename_i hf
      have he : rerr r d = 0 := by omega
      have hd := day_eq r d he
      have hn := num_bd _ _ f (kinds r d he) (by omega) (by omega)
      have hs := split_bd (nm r) d _ (kinds_n r d he) hn.1 hn.2
      have hk := kinds_n r d he
      refine .inr ⟨_, _, _, _, rfl, he, by omega, by omega, hs.1, hs.2.1, hs.2.2.1, hs.2.2.2.1, hs.2.2.2.2.1, hs.2.2.2.2.2.1, hs.2.2.2.2.2.2.1, hs.2.2.2.2.2.2.2, ?_, rfl⟩
      omega

def lagR (r : Int) (d : Bool) (f : Int) : Int × Int :=
  if (labR r d f).2.2.2.2.2 ≠ 0 then (0, (labR r d f).2.2.2.2.2) else
    (f * tk r - ((3600 * (labR r d f).1 + 60 * (labR r d f).2.1 + (labR r d f).2.2.1) * 120000 + 120000 * (labR r d f).2.2.2.1 / nm r), 0)
end Go.Proofs.Ytgllekaanaikhaa.Tb
