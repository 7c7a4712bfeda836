/- Contracts of layer 4 (pulldown) and of its reference: what each function returns, in integers. No condition but those that each theorem names. -/
import Derived.Test.YtbdbohjpicpbcaaChecked
import Derived.Test.YtbdbohjpicpbcaaPull
import Derived.Test.YtbdbohjpicpbcaaBase
import Derived.Test.YtbdbohjpicpbcaaPd
import Derived.Test.YtbdbohjpicpbcaaPf
import Derived.Test.YtbdbohjpicpbcaaPw
import Derived.Test.YtbdbohjpicpbcaaPg
import Derived.Test.YtbdbohjpicpbcaaOpen
namespace Go.Proofs.Ytbdbohjpicpbcaa.Pc
open Go.RowKit Pu Ba Qu
set_option linter.unusedVariables false
set_option linter.unusedSimpArgs false

theorem Videos_walk (w : World) (a0 : Int) (a1 : Int) (a2 : Int) (w0 : -9223372036854775808 ≤ a0 ∧ a0 ≤ 9223372036854775807) (w1 : -9223372036854775808 ≤ a1 ∧ a1 ≤ 9223372036854775807) (w2 : 0 ≤ a2 ∧ a2 ≤ 255) :
    Calls Try.prog 10 #[.int .i64 a0, .int .i64 a1, .int .u8 a2] w fun e w' => e = .returned (.bool true) ∧ Below w.heap.size w w' := by
  go_enter Try.func10, Try.ntmps10
  go_wp2_with (first | (go_at_call 11; refine (awake_ok _).mono ?_; rintro e w1 ⟨rfl, hb1⟩; obtain ⟨hc1, hf1, hz1⟩ := bcell hb1; (try simp at hz1)) | (go_at_call 24; refine (Video_any _ _ _ _).mono ?_; rintro e w2 ⟨rfl, hb2⟩; obtain ⟨hc2, hf2, hz2⟩ := bcell hb2; (try simp at hz2)) | (go_at_call 25; refine (RVideo_any _ _ _ _).mono ?_; rintro e w3 ⟨rfl, hb3⟩; obtain ⟨hc3, hf3, hz3⟩ := bcell hb3; (try simp at hz3)) | go_in)
  go_ret
  refine ⟨rfl, ?_⟩
  (repeat (first | exact Below.refl _ _ | assumption | refine Ba.below_step (by assumption) (by first | exact Nat.le_refl _ | omega | (simp; done) | (simp; omega)) ?_ | apply Below.drew | apply Ba.below_drewN | refine Below.alloc ?_ (by first | exact Nat.le_refl _ | omega | (simp; done) | (simp; omega)) _ | refine Below.setCell ?_ (by first | exact Nat.le_refl _ | omega | (simp; done) | (simp; omega)) _))
end Go.Proofs.Ytbdbohjpicpbcaa.Pc
