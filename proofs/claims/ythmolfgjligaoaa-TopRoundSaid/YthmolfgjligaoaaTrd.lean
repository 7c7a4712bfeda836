/- The table of the seven rates, in integers, and the contracts of the functions that read it (timebase) and of their references. No condition but that a rate is a byte. -/
import Derived.Test.YthmolfgjligaoaaChecked
import Derived.Test.YthmolfgjligaoaaBase
import Derived.Test.YthmolfgjligaoaaTim
import Derived.Test.YthmolfgjligaoaaQuo
import Derived.Test.YthmolfgjligaoaaTcv
import Derived.Test.YthmolfgjligaoaaTpl
import Derived.Test.YthmolfgjligaoaaTsp
import Derived.Test.YthmolfgjligaoaaExt
import Derived.WalkLawsBesides
namespace Go.Proofs.Ythmolfgjligaoaa.Tb
open Go.RowKit Ba Qu
set_option linter.unusedVariables false
set_option linter.unusedSimpArgs false

theorem quo_add (t d m : Int) (hd : 0 < d) : quo (t + d) d m = quo t d m + 1 := by
  unfold quo
  rw [Int.add_ediv_of_dvd_right (Int.dvd_refl d), Int.ediv_self (by omega), Int.add_emod_right]
  omega
theorem conv_apart (a b f g : Int) (hl : tk b ≤ tk a) (hf : f < g) (h1 : (convR a b f 2).2 = 0) (h2 : (convR a b g 2).2 = 0) : (convR a b f 2).1 + 1 ≤ (convR a b g 2).1 := by
  obtain ⟨ha, hb, _, _, f0, _, e1, _⟩ := conv_val _ _ _ _ h1
  obtain ⟨_, _, _, _, g0, _, e2, _⟩ := conv_val _ _ _ _ h2
  rw [e1, e2]
  have b1 := tk_bd b hb
  have b2 := tk_bd a ha
  rw [← quo_add _ _ _ (by omega)]
  refine quo_mono _ _ _ _ (by omega) ?_
  have : (f + 1) * tk a ≤ g * tk a := Int.mul_le_mul_of_nonneg_right (by omega) (by omega)
  rw [Int.add_mul] at this
  omega
theorem re_ok (a b i o : Int) (h : (reR a b i o).2.2 = 0) :
    i < o ∧ (convR a b i 2).2 = 0 ∧ (convR a b o 2).2 = 0 ∧ (reR a b i o).1 = (convR a b i 2).1 ∧ (reR a b i o).2.1 = mx2 (convR a b o 2).1 (convR a b i 2).1 := by
  unfold reR at h ⊢
  split at h
  · simp at h
  rename_i h1
  rw [if_neg h1]
  split at h
  · simp at h
  rename_i h2
  rw [if_neg h2]
  split at h
  · simp at h
  rename_i h3
  rw [if_neg h3]
  split at h
  · rename_i h4; exact absurd h h4
  rename_i h4
  rw [if_neg h4]
  split at h
  · rename_i h5; exact absurd h h5
  rename_i h5
  rw [if_neg h5]
  split at h
  · simp at h
  rename_i h6
  rw [if_neg h6]
  exact ⟨by omega, by simpa using h4, by simpa using h5, rfl, rfl⟩
/-- A span comes back from a rate whose frames are not longer. -/
theorem re_back (a b i o : Int) (hl : tk b ≤ tk a) (h : (reR a b i o).2.2 = 0) (h2 : (reR b a (reR a b i o).1 (reR a b i o).2.1).2.2 = 0) :
    (reR b a (reR a b i o).1 (reR a b i o).2.1).1 = i ∧ (reR b a (reR a b i o).1 (reR a b i o).2.1).2.1 = o := by
  obtain ⟨hio, c1, c2, e1, e2⟩ := re_ok a b i o h
  have hap := conv_apart a b i o hl hio c1 c2
  have hm : mx2 (convR a b o 2).1 (convR a b i 2).1 = (convR a b o 2).1 := by unfold mx2; rw [if_neg (by omega)]
  rw [hm] at e2
  rw [e1, e2] at h2 ⊢
  obtain ⟨_, d1, d2, g1, g2⟩ := re_ok b a _ _ h2
  rw [g1, g2]
  have k1 := conv_back a b i _ hl c1 rfl d1
  have k2 := conv_back a b o _ hl c2 rfl d2
  rw [k1, k2]
  refine ⟨rfl, ?_⟩
  unfold mx2
  rw [if_neg (by omega)]

end Go.Proofs.Ythmolfgjligaoaa.Tb
