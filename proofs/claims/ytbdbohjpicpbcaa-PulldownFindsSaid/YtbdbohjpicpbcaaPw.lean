/- Contracts of layer 4 (pulldown) and of its reference: what each function returns, in integers. No condition but those that each theorem names. -/
import Derived.Test.YtbdbohjpicpbcaaChecked
import Derived.Test.YtbdbohjpicpbcaaPull
import Derived.Test.YtbdbohjpicpbcaaBase
import Derived.Test.YtbdbohjpicpbcaaPd
import Derived.Test.YtbdbohjpicpbcaaPf
namespace Go.Proofs.Ytbdbohjpicpbcaa.Pc
open Go.RowKit Pu Ba
set_option linter.unusedVariables false
set_option linter.unusedSimpArgs false

theorem awake_ok (w : World) : Calls Try.prog 11 #[] w fun e w' => e = .returned (.bool true) ∧ Below w.heap.size w w' := by
  have e1 : fieldsR 0 1 = (2, 5, 0) := by decide
  have e2 : spanR 0 1 3 = (1, 4, 0) := by decide
  have e3 : backR 0 2 = (1, false, 0) := by decide
  have H := Lib.hid (And.intro e1 (And.intro e2 e3))
  clear e1 e2 e3
  go_enter Try.func11, Try.ntmps11
  go_wp2_with (first | (go_at_call 17; refine (Fields_any _ _ _).mono ?_; rintro e w1 ⟨rfl, hb1⟩; rw [H.out.1]; obtain ⟨hc1, hf1, hz1⟩ := bcell hb1; (try simp at hz1)) | (go_at_call 12; refine (Span_any _ _ _ _).mono ?_; rintro e w2 ⟨rfl, hb2⟩; rw [H.out.2.1]; obtain ⟨hc2, hf2, hz2⟩ := bcell hb2; (try simp at hz2); have y21 : w1.heap.size < w2.heap.size := by omega) | (go_at_call 14; refine (Back_any _ _ _).mono ?_; rintro e w' ⟨rfl, rfl⟩; rw [H.out.2.2]) | go_in)
  go_ret
  refine ⟨rfl, ?_⟩
  (repeat (first | exact Below.refl _ _ | assumption | refine Ba.below_step (by assumption) (by first | exact Nat.le_refl _ | omega | (simp; done) | (simp; omega)) ?_ | apply Below.drew | apply Ba.below_drewN | refine Below.alloc ?_ (by first | exact Nat.le_refl _ | omega | (simp; done) | (simp; omega)) _ | refine Below.setCell ?_ (by first | exact Nat.le_refl _ | omega | (simp; done) | (simp; omega)) _))

theorem Spans_walk (w : World) (a0 : Int) (a1_0 : Int) (a1_1 : Int) (w0 : -9223372036854775808 ≤ a0 ∧ a0 ≤ 9223372036854775807) (w1_0 : -9223372036854775808 ≤ a1_0 ∧ a1_0 ≤ 9223372036854775807) (w1_1 : -9223372036854775808 ≤ a1_1 ∧ a1_1 ≤ 9223372036854775807) :
    Calls Try.prog 3 #[.int .i64 a0, .agg #[.int .i64 a1_0, .int .i64 a1_1]] w fun e w' => e = .returned (.bool true) ∧ Below w.heap.size w w' := by
  go_enter Try.func3, Try.ntmps3
  go_wp2_with (first | ((go_at_call 11; refine (awake_ok _).mono ?_; rintro e w1 ⟨rfl, hb1⟩; obtain ⟨hc1, hf1, hz1⟩ := bcell hb1; (try simp at hz1)); have y10 : w.heap.size < w1.heap.size := (by omega)) | ((go_at_call 12; refine (Span_any _ _ _ _).mono ?_; rintro e w2 ⟨rfl, hb2⟩; obtain ⟨hc2, hf2, hz2⟩ := bcell hb2; (try simp at hz2)); have y20 : w.heap.size < w2.heap.size := (by omega)) | ((go_at_call 13; refine (RSpan_any _ _ _ _).mono ?_; rintro e w3 ⟨rfl, hb3⟩; obtain ⟨hc3, hf3, hz3⟩ := bcell hb3; (try simp at hz3)); have y32 : w2.heap.size < w3.heap.size := (by omega)) | go_in)
  go_ret
  refine ⟨rfl, ?_⟩
  (repeat (first | exact Below.refl _ _ | assumption | refine Ba.below_step (by assumption) (by first | exact Nat.le_refl _ | omega | (simp; done) | (simp; omega)) ?_ | apply Below.drew | apply Ba.below_drewN | refine Below.alloc ?_ (by first | exact Nat.le_refl _ | omega | (simp; done) | (simp; omega)) _ | refine Below.setCell ?_ (by first | exact Nat.le_refl _ | omega | (simp; done) | (simp; omega)) _))
end Go.Proofs.Ytbdbohjpicpbcaa.Pc
