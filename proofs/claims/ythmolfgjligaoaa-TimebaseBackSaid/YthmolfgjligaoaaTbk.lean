/- The table of the seven rates, in integers, and the contracts of the functions that read it (timebase) and of their references. No condition but that a rate is a byte. -/
import Derived.Test.YthmolfgjligaoaaChecked
import Derived.Test.YthmolfgjligaoaaBase
import Derived.Test.YthmolfgjligaoaaTim
import Derived.Test.YthmolfgjligaoaaQuo
import Derived.Test.YthmolfgjligaoaaTcv
import Derived.Test.YthmolfgjligaoaaTw
import Derived.Test.YthmolfgjligaoaaTpl
import Derived.WalkLawsBesides
namespace Go.Proofs.Ythmolfgjligaoaa.Tb
open Go.RowKit Ba Qu
set_option linter.unusedVariables false
set_option linter.unusedSimpArgs false

theorem millis_back (a f : Int) (h : (millisR a f).2 = 0) : fromR a (millisR a f).1 = (f, 0) := by
  unfold millisR at h ⊢
  split at h
  · rename_i h1
    rw [if_pos h1]
    have hv : va a = true := by
      cases hh : va a with
      | true => rfl
      | false => rw [time_typ a f hh] at h1; simp at h1
    have hf : ¬ (f < 0 ∨ 10378368000 / tk a < f) := fun hc => by rw [time_rng a f hv hc] at h1; simp at h1
    rw [time_fit a f hv (by omega) (by omega)]
    obtain ⟨p0, p1⟩ := time_bd a f hv (by omega) (by omega)
    have b := tk_bd a hv
    have hn := quo_near (f * tk a) 120 (by omega)
    have hq := quo_bd (f * tk a) 120 2 p0 (by omega)
    simp only at hn ⊢
    have hb : quo (quo (f * tk a) 120 2 * 120) (tk a) 2 = f := by
      refine quo_back _ _ _ (by omega) ?_ ?_ <;> (simp at hn; omega)
    rw [from_fit a _ hv (by omega) (by simp at hn; omega)]
    rw [frame_fit a _ 2 hv (by omega) (by omega) (by omega) (by simp at hn; omega) (by rw [hb]; omega), hb]
  · exact absurd h (by rename_i h1; simpa using h1)

end Go.Proofs.Ythmolfgjligaoaa.Tb
