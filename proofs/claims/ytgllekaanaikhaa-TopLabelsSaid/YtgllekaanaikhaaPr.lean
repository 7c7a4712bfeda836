/- A label and real time: plain laws. -/
import Derived.Test.YtgllekaanaikhaaChecked
import Derived.Test.YtgllekaanaikhaaBase
import Derived.Test.YtgllekaanaikhaaPm
import Derived.Test.YtgllekaanaikhaaTim
import Derived.Handy
namespace Go.Proofs.Ytgllekaanaikhaa.Tb
open Go.RowKit Ba
set_option linter.unusedVariables false
set_option linter.unusedSimpArgs false

theorem lag_num (n d tk r f : Int) (hk : (n = 30 ∧ d = 2 ∧ tk = 4004) ∨ (n = 60 ∧ d = 4 ∧ tk = 2002)) (f0 : 0 ≤ f) (f1 : f < 86400 * n - 1296 * d) (H M S F : Int) (e1 : 3600 * H + 60 * M + S = num n d f / n) (e2 : F = num n d f % n) :
    -17560 ≤ f * tk - ((3600 * H + 60 * M + S) * 120000 + 120000 * F / n) ∧ f * tk - ((3600 * H + 60 * M + S) * 120000 + 120000 * F / n) ≤ 7198 := by
  rcases hk with ⟨a, b, c⟩ | ⟨a, b, c⟩ <;> subst a b c
  · have hN : (3600 * H + 60 * M + S) * 120000 + 120000 * F / 30 = 4000 * num 30 2 f := by omega
    rw [hN]
    clear hN e1 e2
    unfold num
    generalize hq : f / (600 * 30 - 9 * 2) = q
    generalize hs : f % (600 * 30 - 9 * 2) = s
    split
    · generalize hk : (s - 60 * 30) / (60 * 30 - 2) = k
      omega
    · omega
  · have hN : (3600 * H + 60 * M + S) * 120000 + 120000 * F / 60 = 2000 * num 60 4 f := by omega
    rw [hN]
    clear hN e1 e2
    unfold num
    generalize hq : f / (600 * 60 - 9 * 4) = q
    generalize hs : f % (600 * 60 - 9 * 4) = s
    split
    · generalize hk : (s - 60 * 60) / (60 * 60 - 4) = k
      omega
    · omega
theorem lag_real (r f : Int) (hr : r = 4 ∨ r = 7) : (∃ c, lagR r true f = (0, c) ∧ (c != 0) = true) ∨ (∃ n, lagR r true f = (n, 0) ∧ -17560 ≤ n ∧ n ≤ 7198) := by
  rcases lab_is r true f with ⟨e, hl, he⟩ | ⟨H, M, S, F, hl, he, f0, f1, H0, H1, M0, M1, S0, S1, F0, F1, e1, e2⟩
  · refine .inl ⟨e, ?_, by simp; omega⟩
    unfold lagR; rw [hl]; simp; omega
  · refine .inr ⟨f * tk r - ((3600 * H + 60 * M + S) * 120000 + 120000 * F / nm r), ?_, ?_⟩
    · unfold lagR; rw [hl]; simp
    · have hd := day_eq r true he
      refine lag_num (nm r) (dp r true) (tk r) r f ?_ f0 (by omega) H M S F e1 e2
      rcases hr with h | h <;> subst h
      · exact .inl ⟨rfl, rfl, rfl⟩
      · exact .inr ⟨rfl, rfl, rfl⟩
theorem kinds_r (r : Int) (he : rerr r true = 0) : r = 4 ∨ r = 7 := by
  obtain ⟨hv, hd⟩ := rerr_ok r true he
  have hd : dr r = true := by simpa using hd
  unfold dr at hd
  split at hd
  · omega
  · split at hd
    · omega
    · simp at hd
theorem lag_of (r : Int) (d : Bool) (f H M S F : Int) (hl : labR r d f = (H, M, S, F, d, 0)) : lagR r d f = (f * tk r - ((3600 * H + 60 * M + S) * 120000 + 120000 * F / nm r), 0) := by
  unfold lagR; rw [hl]; simp
theorem lag_free (r f H M S F : Int) (hl : labR r false f = (H, M, S, F, false, 0)) : lagR r false f = (f * tk r - f * (120000 / nm r), 0) ∧ 0 ≤ f * (120000 / nm r) ∧ f * (120000 / nm r) ≤ 25920000000 := by
  rw [lag_of r false f H M S F hl]
  rcases lab_is r false f with ⟨e, hl', he⟩ | ⟨H', M', S', F', hl', he, f0, f1, H0, H1, M0, M1, S0, S1, F0, F1, e1, e2⟩
  · rw [hl] at hl'; simp only [Prod.mk.injEq] at hl'; omega
  · rw [hl] at hl'
    simp only [Prod.mk.injEq, and_true, true_and] at hl'
    obtain ⟨rfl, rfl, rfl, rfl⟩ := hl'
    have hd := day_eq r false he
    have hz : dp r false = 0 := rfl
    rw [hz, num_0] at e1 e2
    rw [hz] at hd
    have hq : (3600 * H + 60 * M + S) * 120000 + 120000 * F / nm r = f * (120000 / nm r) ∧ 0 ≤ f * (120000 / nm r) ∧ f * (120000 / nm r) ≤ 25920000000 := by
      rcases kinds_n r false he with h | h | h | h | h <;> rw [h] at e1 e2 hd ⊢ <;> omega
    exact ⟨by rw [hq.1], hq.2⟩
theorem time_of (r : Int) (d : Bool) (f : Int) (he : rerr r d = 0) (f0 : 0 ≤ f) (f1 : f < day r d) : timeR r f = (f * tk r, 0) ∧ 0 ≤ f * tk r ∧ f * tk r ≤ 10378368000 := by
  have hv := (rerr_ok r d he).1
  have hd := day_eq r d he
  have hp := dp_bd r d
  have hm : f ≤ 10378368000 / tk r := by
    have hn : f < 86400 * nm r := by omega
    rcases va_yes r hv with h | h | h | h | h | h | h <;> subst h <;> revert hn <;> simp only [show nm 1 = 24 from rfl, show nm 2 = 24 from rfl, show nm 3 = 25 from rfl, show nm 4 = 30 from rfl, show nm 5 = 30 from rfl, show nm 6 = 50 from rfl, show nm 7 = 60 from rfl, show tk 1 = 5005 from rfl, show tk 2 = 5000 from rfl, show tk 3 = 4800 from rfl, show tk 4 = 4004 from rfl, show tk 5 = 4000 from rfl, show tk 6 = 2400 from rfl, show tk 7 = 2002 from rfl] <;> omega
  exact ⟨time_fit r f hv f0 hm, (time_bd r f hv f0 hm).1, (time_bd r f hv f0 hm).2⟩
end Go.Proofs.Ytgllekaanaikhaa.Tb
