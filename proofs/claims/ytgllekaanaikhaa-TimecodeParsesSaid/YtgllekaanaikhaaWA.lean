/- The law's fixed examples hold. -/
import Derived.Test.YtgllekaanaikhaaChecked
import Derived.Test.YtgllekaanaikhaaBase
import Derived.Test.YtgllekaanaikhaaLe
import Derived.Test.YtgllekaanaikhaaLu
import Derived.Test.YtgllekaanaikhaaPt
import Derived.Handy
namespace Go.Proofs.Ytgllekaanaikhaa.Tb
open Go.RowKit Ba
set_option linter.unusedVariables false
set_option linter.unusedSimpArgs false

theorem Parse_awk (w : World) : Calls Try.prog 18 #[.int .u8 4, .string ⟨#[48, 48, 58, 48, 49, 58, 48, 48, 59, 48, 50]⟩] w fun e' w' => e' = .returned (labV (0, 1, 0, 2, true, 0)) ∧ Below w.heap.size w w' :=
  Parse_true 4 0 1 0 2 w (by omega) (by omega) (by decide) (by decide)
theorem awake_ok (w : World) : Calls Try.prog 22 #[] w fun e w' => e = .returned (.bool true) ∧ Below w.heap.size w w' := by
  have H1 := Lib.hid lab_awake
  have H2 := Lib.hid lag_awake
  have H4 := Lib.hid day_awake
  go_enter Try.func22, Try.ntmps22
  go_wp2_with (first | (((go_at_call 15; refine (Label_any _ _ _ _ (by omega) (by omega)).mono ?_; rintro e w1 ⟨rfl, hb1⟩; obtain ⟨hc1, hf1, hz1⟩ := bcell hb1; (try simp at hz1))); rw [H1.out]) | (((go_at_call 19; refine (Lag_any _ _ _ _ (by omega) (by omega)).mono ?_; rintro e w2 ⟨rfl, hb2⟩; obtain ⟨hc2, hf2, hz2⟩ := bcell hb2; (try simp at hz2))); rw [H2.out]; (try have y21 : w1.heap.size < w2.heap.size := (by omega))) | (((go_at_call 18; refine (Parse_awk _).mono ?_; rintro e w3 ⟨rfl, hb3⟩; obtain ⟨hc3, hf3, hz3⟩ := bcell hb3; (try simp at hz3))); (try have y31 : w1.heap.size < w3.heap.size := (by omega))) | (((go_at_call 14; refine (Day_any _ _ _ (by omega) (by omega)).mono ?_; rintro e w4 ⟨rfl, hb4⟩; obtain ⟨hc4, hf4, hz4⟩ := bcell hb4; (try simp at hz4))); rw [H4.out]; (try have y43 : w3.heap.size < w4.heap.size := (by omega)); (try have y41 : w1.heap.size < w4.heap.size := (by omega))) | fail)
  go_ret
  exact ⟨rfl, by (repeat (first | exact Below.refl _ _ | assumption | refine Ba.below_step (by assumption) (by first | exact Nat.le_refl _ | omega | (simp; done) | (simp; omega)) ?_ | apply Below.drew | apply Ba.below_drewN | refine Below.alloc ?_ (by first | exact Nat.le_refl _ | omega | (simp; done) | (simp; omega)) _ | refine Below.setCell ?_ (by first | exact Nat.le_refl _ | omega | (simp; done) | (simp; omega)) _))⟩
end Go.Proofs.Ytgllekaanaikhaa.Tb
