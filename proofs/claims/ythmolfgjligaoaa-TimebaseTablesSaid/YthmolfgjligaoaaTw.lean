/- The table of the seven rates, in integers, and the contracts of the functions that read it (timebase) and of their references. No condition but that a rate is a byte. -/
import Derived.Test.YthmolfgjligaoaaChecked
import Derived.Test.YthmolfgjligaoaaBase
import Derived.Test.YthmolfgjligaoaaTim
import Derived.Test.YthmolfgjligaoaaQuo
import Derived.Test.YthmolfgjligaoaaTcv
namespace Go.Proofs.Ythmolfgjligaoaa.Tb
open Go.RowKit Ba Qu
set_option linter.unusedVariables false
set_option linter.unusedSimpArgs false

theorem awake_ok (w : World) : Calls Try.prog 15 #[] w fun e w' => e = .returned (.bool true) ∧ Below w.heap.size w w' := by
  have e1 : timeR 4 30 = (120120, 0) := by decide
  have e2 : frameR 3 120120 3 = (26, 0) := by decide
  have e3 : millisR 4 1 = (33, 0) := by decide
  have e4 : na 7 = ⟨#[53, 57, 46, 57, 52]⟩ := rfl
  have H := Lib.hid (And.intro e1 (And.intro e2 (And.intro e3 e4)))
  clear e1 e2 e3 e4
  go_enter Try.func15, Try.ntmps15
  go_wp2_with (first | ((go_at_call 29; refine (Time_any _ _ _ (by omega) (by omega)).mono ?_; rintro e w1 ⟨rfl, hb1⟩; have hz1 := hb1.size; (try simp at hz1)); rw [H.out.1]) | ((go_at_call 16; refine (Frame_any _ _ _ _ (by omega) (by omega) (by omega) (by omega)).mono ?_; rintro e w1 ⟨rfl, hb1⟩; have hz1 := hb1.size; (try simp at hz1)); rw [H.out.2.1]) | ((go_at_call 33; refine (Millis_any _ _ _ (by omega) (by omega)).mono ?_; rintro e w1 ⟨rfl, hb1⟩; have hz1 := hb1.size; (try simp at hz1)); rw [H.out.2.2.1]) | ((go_at_call 27; refine (Name_ok _ _ (by omega) (by omega)).mono ?_; rintro e w1 ⟨rfl, hb1⟩; have hz1 := hb1.size; (try simp at hz1)); rw [H.out.2.2.2]) | go_in)
  go_ret
  refine ⟨rfl, ?_⟩
  (repeat (first | exact Below.refl _ _ | assumption | refine Ba.below_step (by assumption) (by first | exact Nat.le_refl _ | omega | (simp; done) | (simp; omega)) ?_ | apply Below.drew | apply Ba.below_drewN | refine Below.alloc ?_ (by first | exact Nat.le_refl _ | omega | (simp; done) | (simp; omega)) _ | refine Below.setCell ?_ (by first | exact Nat.le_refl _ | omega | (simp; done) | (simp; omega)) _))
end Go.Proofs.Ythmolfgjligaoaa.Tb
