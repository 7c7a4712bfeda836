/- The table of the seven rates, in integers, and the contracts of the functions that read it (timebase) and of their references. No condition but that a rate is a byte. -/
import Derived.Test.YthmolfgjligaoaaChecked
import Derived.Test.YthmolfgjligaoaaBase
import Derived.Test.YthmolfgjligaoaaTim
import Derived.Test.YthmolfgjligaoaaQuo
import Derived.Test.YthmolfgjligaoaaTcv
import Derived.Test.YthmolfgjligaoaaTw
namespace Go.Proofs.Ythmolfgjligaoaa.Tb
open Go.RowKit Ba Qu
set_option linter.unusedVariables false
set_option linter.unusedSimpArgs false

theorem Converts_walk (w : World) (a0_0 : Int) (a0_1 : Int) (a1 : Int) (a2 : Int) (i0_0 : 0 ≤ a0_0 ∧ a0_0 ≤ 255) (i0_1 : 0 ≤ a0_1 ∧ a0_1 ≤ 255) (i1 : -9223372036854775808 ≤ a1 ∧ a1 ≤ 9223372036854775807) (i2 : 0 ≤ a2 ∧ a2 ≤ 255) :
    Calls Try.prog 8 #[.agg #[.int .u8 a0_0, .int .u8 a0_1], .int .i64 a1, .int .u8 a2] w fun e w' => e = .returned (.bool true) ∧ Below w.heap.size w w' := by
  go_enter Try.func8, Try.ntmps8
  go_wp2_with (first | ((go_at_call 15; refine (awake_ok _).mono ?_; rintro e w1 ⟨rfl, hb1⟩; obtain ⟨hc1, hf1, hz1⟩ := bcell hb1; (try simp at hz1)); have y10 : w.heap.size < w1.heap.size := (by omega)) | ((go_at_call 12; refine (Convert_any _ _ _ _ _ i0_0.1 i0_0.2 i0_1.1 i0_1.2 i2.1 i2.2).mono ?_; rintro e w2 ⟨rfl, hb2⟩; obtain ⟨hc2, hf2, hz2⟩ := bcell hb2; (try simp at hz2)); have y20 : w.heap.size < w2.heap.size := (by omega)) | (go_at_call 37; refine (RConvert_any _ _ _ _ _ i0_0.1 i0_0.2 i0_1.1 i0_1.2 i2.1 i2.2).mono ?_; rintro e w3 ⟨rfl, hb3⟩; obtain ⟨hc3, hf3, hz3⟩ := bcell hb3; (try simp at hz3)) | go_in)
  go_ret
  refine ⟨rfl, ?_⟩
  (repeat (first | exact Below.refl _ _ | assumption | refine Ba.below_step (by assumption) (by first | exact Nat.le_refl _ | omega | (simp; done) | (simp; omega)) ?_ | apply Below.drew | apply Ba.below_drewN | refine Below.alloc ?_ (by first | exact Nat.le_refl _ | omega | (simp; done) | (simp; omega)) _ | refine Below.setCell ?_ (by first | exact Nat.le_refl _ | omega | (simp; done) | (simp; omega)) _))
end Go.Proofs.Ythmolfgjligaoaa.Tb
