/- The law TimecodeParses, walked. -/
import Derived.Test.YtgllekaanaikhaaChecked
import Derived.Test.YtgllekaanaikhaaBase
import Derived.Test.YtgllekaanaikhaaWA
import Derived.Test.YtgllekaanaikhaaLi
import Derived.Handy
namespace Go.Proofs.Ytgllekaanaikhaa.Tb
open Go.RowKit Ba
set_option linter.unusedVariables false
set_option linter.unusedSimpArgs false

theorem Parses_l (w : World) (a0 : Int) (a1 : ByteArray) (i0 : 0 ≤ a0 ∧ a0 ≤ 255) (i1 : a1.size ≤ 9223372036854775807) (hn : 200 < a1.size) :
    Calls Try.prog 7 #[.int .u8 a0, .string a1] w fun e w' => e = .returned (.bool true) ∧ Below w.heap.size w w' := by
  have hn' : decide ((200 : Int) < (a1.size : Int)) = true := decide_eq_true (by omega)
  go_enter Try.func7, Try.ntmps7
  go_wp2_with (first | (((go_at_call 22; refine (awake_ok _).mono ?_; rintro e w1 ⟨rfl, hb1⟩; obtain ⟨hc1, hf1, hz1⟩ := bcell hb1; (try simp at hz1))); (try have y10 : w.heap.size < w1.heap.size := (by omega))) | fail)
  go_ret
  exact ⟨rfl, by (repeat (first | exact Below.refl _ _ | assumption | refine Ba.below_step (by assumption) (by first | exact Nat.le_refl _ | omega | (simp; done) | (simp; omega)) ?_ | apply Below.drew | apply Ba.below_drewN | refine Below.alloc ?_ (by first | exact Nat.le_refl _ | omega | (simp; done) | (simp; omega)) _ | refine Below.setCell ?_ (by first | exact Nat.le_refl _ | omega | (simp; done) | (simp; omega)) _))⟩
theorem Parses_s (w : World) (a0 : Int) (a1 : ByteArray) (i0 : 0 ≤ a0 ∧ a0 ≤ 255) (i1 : a1.size ≤ 9223372036854775807) (hn : a1.size ≤ 200) :
    Calls Try.prog 7 #[.int .u8 a0, .string a1] w fun e w' => e = .returned (.bool true) ∧ Below w.heap.size w w' := by
  have hn' : decide ((200 : Int) < (a1.size : Int)) = false := decide_eq_false (by omega)
  go_enter Try.func7, Try.ntmps7
  go_wp2_with (first | (have _t := hz2; clear _t; ((go_at_call 26; refine (RParse_any _ _ _ i0.1 i0.2 i1).mono ?_; rintro e w3 ⟨rfl, hb3⟩; obtain ⟨hc3, hf3, hz3⟩ := bcell hb3; (try simp at hz3))); (try have y32 : w2.heap.size < w3.heap.size := (by omega)); (try have y31 : w1.heap.size < w3.heap.size := (by omega)); (try have y30 : w.heap.size < w3.heap.size := (by omega))) | (have _t := hz1; clear _t; ((go_at_call 18; refine (Parse_any _ _ _ i0.1 i0.2 i1).mono ?_; rintro e w2 ⟨rfl, hb2⟩; obtain ⟨hc2, hf2, hz2⟩ := bcell hb2; (try simp at hz2))); (try have y21 : w1.heap.size < w2.heap.size := (by omega)); (try have y20 : w.heap.size < w2.heap.size := (by omega))) | (((go_at_call 22; refine (awake_ok _).mono ?_; rintro e w1 ⟨rfl, hb1⟩; obtain ⟨hc1, hf1, hz1⟩ := bcell hb1; (try simp at hz1))); (try have y10 : w.heap.size < w1.heap.size := (by omega))) | fail)
  go_ret
  exact ⟨rfl, by (repeat (first | exact Below.refl _ _ | assumption | refine Ba.below_step (by assumption) (by first | exact Nat.le_refl _ | omega | (simp; done) | (simp; omega)) ?_ | apply Below.drew | apply Ba.below_drewN | refine Below.alloc ?_ (by first | exact Nat.le_refl _ | omega | (simp; done) | (simp; omega)) _ | refine Below.setCell ?_ (by first | exact Nat.le_refl _ | omega | (simp; done) | (simp; omega)) _))⟩
theorem Parses_walk (w : World) (a0 : Int) (a1 : ByteArray) (i0 : 0 ≤ a0 ∧ a0 ≤ 255) (i1 : a1.size ≤ 9223372036854775807) :
    Calls Try.prog 7 #[.int .u8 a0, .string a1] w fun e w' => e = .returned (.bool true) ∧ Below w.heap.size w w' := by
  by_cases hn : 200 < a1.size
  · exact Parses_l w a0 a1 i0 i1 hn
  · exact Parses_s w a0 a1 i0 i1 (by omega)
end Go.Proofs.Ytgllekaanaikhaa.Tb
