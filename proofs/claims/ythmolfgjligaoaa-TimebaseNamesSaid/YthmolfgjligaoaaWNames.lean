/- The table of the seven rates, in integers, and the contracts of the functions that read it (timebase) and of their references. No condition but that a rate is a byte. -/
import Derived.Test.YthmolfgjligaoaaChecked
import Derived.Test.YthmolfgjligaoaaBase
import Derived.Test.YthmolfgjligaoaaTim
import Derived.Test.YthmolfgjligaoaaQuo
import Derived.Test.YthmolfgjligaoaaTcv
import Derived.Test.YthmolfgjligaoaaTw
import Derived.Test.YthmolfgjligaoaaTpa
import Derived.Test.YthmolfgjligaoaaExt
import Derived.WalkLawsBesides
namespace Go.Proofs.Ythmolfgjligaoaa.Tb
open Go.RowKit Ba Qu
set_option linter.unusedVariables false
set_option linter.unusedSimpArgs false

set_option maxHeartbeats 1000000 in
theorem Names_walk (w : World) (a0 : ByteArray) (a1 : Int) (i0 : a0.size ≤ 9223372036854775807) (i1 : 0 ≤ a1 ∧ a1 ≤ 255) :
    Calls Try.prog 10 #[.string a0, .int .u8 a1] w fun e w' => e = .returned (.bool true) ∧ Below w.heap.size w w' := by
  by_cases hl : 200 < a0.size
  · have t1 : decide ((200 : Int) < (a0.size : Int)) = true := decide_eq_true (by omega)
    have HP := Lib.hid na_none
    go_enter Try.func10, Try.ntmps10
    go_wp2_with (first | (go_at_call 15; refine (awake_ok _).mono ?_; rintro e w1 ⟨rfl, hb1⟩; obtain ⟨hc1, hf1, hz1⟩ := bcell hb1; (try simp at hz1)) | ((go_at_call 38; refine (Parse_any _ _).mono ?_; rintro e w1 ⟨rfl, hb1⟩; have hz1 := hb1.size; (try simp at hz1)); try rw [HP.out]) | (go_at_call 39; refine (RParse_any _ _).mono ?_; rintro e w1 ⟨rfl, hb1⟩; have hz1 := hb1.size; (try simp at hz1)) | (go_at_call 27; refine (Name_ok _ _ i1.1 i1.2).mono ?_; rintro e w1 ⟨rfl, hb1⟩; have hz1 := hb1.size; (try simp at hz1)) | (go_at_call 20; refine (Valid_ok _ _ i1.1 i1.2).mono ?_; rintro e w1 ⟨rfl, hb1⟩; have hz1 := hb1.size; (try simp at hz1)) | go_in)
    go_ret
    refine ⟨rfl, ?_⟩
    (repeat (first | exact Below.refl _ _ | assumption | refine Ba.below_step (by assumption) (by first | exact Nat.le_refl _ | omega | (simp; done) | (simp; omega)) ?_ | apply Below.drew | apply Ba.below_drewN | refine Below.alloc ?_ (by first | exact Nat.le_refl _ | omega | (simp; done) | (simp; omega)) _ | refine Below.setCell ?_ (by first | exact Nat.le_refl _ | omega | (simp; done) | (simp; omega)) _))
  have t2 : decide ((200 : Int) < (a0.size : Int)) = false := decide_eq_false (by omega)
  rcases va_cases a1 with hv | hv
  · have HP := Lib.hid (na_inj a1 hv)
    go_enter Try.func10, Try.ntmps10
    go_wp2_with (first | (go_at_call 15; refine (awake_ok _).mono ?_; rintro e w1 ⟨rfl, hb1⟩; obtain ⟨hc1, hf1, hz1⟩ := bcell hb1; (try simp at hz1)) | ((go_at_call 38; refine (Parse_any _ _).mono ?_; rintro e w1 ⟨rfl, hb1⟩; have hz1 := hb1.size; (try simp at hz1)); try rw [HP.out]) | (go_at_call 39; refine (RParse_any _ _).mono ?_; rintro e w1 ⟨rfl, hb1⟩; have hz1 := hb1.size; (try simp at hz1)) | (go_at_call 27; refine (Name_ok _ _ i1.1 i1.2).mono ?_; rintro e w1 ⟨rfl, hb1⟩; have hz1 := hb1.size; (try simp at hz1)) | (go_at_call 20; refine (Valid_ok _ _ i1.1 i1.2).mono ?_; rintro e w1 ⟨rfl, hb1⟩; have hz1 := hb1.size; (try simp at hz1)) | go_in)
    go_ret
    refine ⟨rfl, ?_⟩
    (repeat (first | exact Below.refl _ _ | assumption | refine Ba.below_step (by assumption) (by first | exact Nat.le_refl _ | omega | (simp; done) | (simp; omega)) ?_ | apply Below.drew | apply Ba.below_drewN | refine Below.alloc ?_ (by first | exact Nat.le_refl _ | omega | (simp; done) | (simp; omega)) _ | refine Below.setCell ?_ (by first | exact Nat.le_refl _ | omega | (simp; done) | (simp; omega)) _))
  · have hn := na_no a1 hv
    have HP := Lib.hid na_none
    go_enter Try.func10, Try.ntmps10
    go_wp2_with (first | (go_at_call 15; refine (awake_ok _).mono ?_; rintro e w1 ⟨rfl, hb1⟩; obtain ⟨hc1, hf1, hz1⟩ := bcell hb1; (try simp at hz1)) | ((go_at_call 38; refine (Parse_any _ _).mono ?_; rintro e w1 ⟨rfl, hb1⟩; have hz1 := hb1.size; (try simp at hz1)); try rw [HP.out]) | (go_at_call 39; refine (RParse_any _ _).mono ?_; rintro e w1 ⟨rfl, hb1⟩; have hz1 := hb1.size; (try simp at hz1)) | (go_at_call 27; refine (Name_ok _ _ i1.1 i1.2).mono ?_; rintro e w1 ⟨rfl, hb1⟩; have hz1 := hb1.size; (try simp at hz1)) | (go_at_call 20; refine (Valid_ok _ _ i1.1 i1.2).mono ?_; rintro e w1 ⟨rfl, hb1⟩; have hz1 := hb1.size; (try simp at hz1)) | go_in)
    go_ret
    refine ⟨rfl, ?_⟩
    (repeat (first | exact Below.refl _ _ | assumption | refine Ba.below_step (by assumption) (by first | exact Nat.le_refl _ | omega | (simp; done) | (simp; omega)) ?_ | apply Below.drew | apply Ba.below_drewN | refine Below.alloc ?_ (by first | exact Nat.le_refl _ | omega | (simp; done) | (simp; omega)) _ | refine Below.setCell ?_ (by first | exact Nat.le_refl _ | omega | (simp; done) | (simp; omega)) _))
end Go.Proofs.Ythmolfgjligaoaa.Tb
