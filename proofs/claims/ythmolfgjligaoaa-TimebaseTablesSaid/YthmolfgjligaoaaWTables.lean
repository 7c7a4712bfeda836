/- The table of the seven rates, in integers, and the contracts of the functions that read it (timebase) and of their references. No condition but that a rate is a byte. -/
import Derived.Test.YthmolfgjligaoaaChecked
import Derived.Test.YthmolfgjligaoaaBase
import Derived.Test.YthmolfgjligaoaaTim
import Derived.Test.YthmolfgjligaoaaQuo
import Derived.Test.YthmolfgjligaoaaTcv
import Derived.Test.YthmolfgjligaoaaTw
import Derived.Test.YthmolfgjligaoaaTpa
import Derived.Test.YthmolfgjligaoaaExt
import Derived.WalkLawsBesides
namespace Go.Proofs.Ythmolfgjligaoaa.Tb
open Go.RowKit Ba Qu
set_option linter.unusedVariables false
set_option linter.unusedSimpArgs false

set_option maxHeartbeats 1000000 in
theorem Tables_walk (w : World) (a0 : Int) (i0 : 0 ≤ a0 ∧ a0 ≤ 255) :
    Calls Try.prog 5 #[.int .u8 a0] w fun e w' => e = .returned (.bool true) ∧ Below w.heap.size w w' := by
  go_enter Try.func5, Try.ntmps5
  go_wp2_with (first | (go_at_call 15; refine (awake_ok _).mono ?_; rintro e w1 ⟨rfl, hb1⟩; obtain ⟨hc1, hf1, hz1⟩ := bcell hb1; (try simp at hz1)) | (go_at_call 18; refine (Rates_ok _).mono ?_; rintro e w' ⟨rfl, rfl⟩) | (go_at_call 19; refine (RRates_ok _).mono ?_; rintro e w' ⟨rfl, rfl⟩))
  go_loopw [2, 17] (fun p v wr => p = .bool false ∧ (∃ k : Nat, k ≤ 7 ∧ v = .int .i64 k) ∧ (∀ i : Nat, i < 7 → wr.cell? ⟨w1.heap.size, i, none⟩ = some (.int .u8 ((i : Int) + 1))) ∧ (∀ i : Nat, i < 7 → wr.cell? ⟨w1.heap.size + 1, i, none⟩ = some (.int .u8 ((i : Int) + 1))) ∧ Below w.heap.size w wr) (fun _ v _ => 7 - (intOf v).toNat)
  case atStart =>
    refine ⟨rfl, ⟨0, by omega, rfl⟩, fun i hi => ?_, fun i hi => ?_, by (repeat (first | exact Below.refl _ _ | assumption | refine Ba.below_step (by assumption) (by first | exact Nat.le_refl _ | omega | (simp; done) | (simp; omega)) ?_ | apply Below.drew | apply Ba.below_drewN | refine Below.alloc ?_ (by first | exact Nat.le_refl _ | omega | (simp; done) | (simp; omega)) _ | refine Below.setCell ?_ (by first | exact Nat.le_refl _ | omega | (simp; done) | (simp; omega)) _))⟩
    all_goals
      match i, hi with
      | 0, _ => simp [go_sem]
      | 1, _ => simp [go_sem]
      | 2, _ => simp [go_sem]
      | 3, _ => simp [go_sem]
      | 4, _ => simp [go_sem]
      | 5, _ => simp [go_sem]
      | 6, _ => simp [go_sem]
  case round =>
    obtain ⟨rfl, ⟨k, hk, rfl⟩, hcl, hcm, hbw⟩ := hrel
    have hzw := hbw.size
    have HC := Lib.hid hcl
    have HM := Lib.hid hcm
    clear hcl hcm hc1 hf1
    by_cases hlt : k < 7
    · have c0 := HC.out k hlt
      have c1 := HM.out k hlt
      have kk : (k : Int) < 7 := by omega
      go_wp2
      go_quiet (fail)
      go_wp2
      go_roundw
      case rel => exact ⟨rfl, ⟨k + 1, by omega, by go_num⟩, fun i hi => by simpa using HC.out i hi, fun i hi => by simpa using HM.out i hi, by (repeat (first | exact Below.refl _ _ | assumption | refine Ba.below_step (by assumption) (by first | exact Nat.le_refl _ | omega | (simp; done) | (simp; omega)) ?_ | apply Below.drew | apply Ba.below_drewN | refine Below.alloc ?_ (by first | exact Nat.le_refl _ | omega | (simp; done) | (simp; omega)) _ | refine Below.setCell ?_ (by first | exact Nat.le_refl _ | omega | (simp; done) | (simp; omega)) _))⟩
      case measure => simp [intOf]; omega
    · obtain rfl : k = 7 := by omega
      go_wp2_with (first | (go_at_call 20; refine (Valid_ok _ _ i0.1 i0.2).mono ?_; rintro e w1 ⟨rfl, hb1⟩; have hz1 := hb1.size; (try simp at hz1)) | (go_at_call 21; refine (RValid_ok _ _ i0.1 i0.2).mono ?_; rintro e w' ⟨rfl, rfl⟩) | (go_at_call 13; refine (Ticks_ok _ _ i0.1 i0.2).mono ?_; rintro e w1 ⟨rfl, hb1⟩; have hz1 := hb1.size; (try simp at hz1)) | (go_at_call 22; refine (RTicks_ok _ _ i0.1 i0.2).mono ?_; rintro e w1 ⟨rfl, hb1⟩; have hz1 := hb1.size; (try simp at hz1)) | (go_at_call 23; refine (Nominal_ok _ _ i0.1 i0.2).mono ?_; rintro e w1 ⟨rfl, hb1⟩; have hz1 := hb1.size; (try simp at hz1)) | (go_at_call 24; refine (RNominal_ok _ _ i0.1 i0.2).mono ?_; rintro e w1 ⟨rfl, hb1⟩; have hz1 := hb1.size; (try simp at hz1)) | (go_at_call 25; refine (CanDrop_ok _ _ i0.1 i0.2).mono ?_; rintro e w1 ⟨rfl, hb1⟩; have hz1 := hb1.size; (try simp at hz1)) | (go_at_call 26; refine (RCanDrop_ok _ _ i0.1 i0.2).mono ?_; rintro e w' ⟨rfl, rfl⟩) | (go_at_call 27; refine (Name_ok _ _ i0.1 i0.2).mono ?_; rintro e w1 ⟨rfl, hb1⟩; have hz1 := hb1.size; (try simp at hz1)) | (go_at_call 28; refine (RName_ok _ _ i0.1 i0.2).mono ?_; rintro e w1 ⟨rfl, hb1⟩; have hz1 := hb1.size; (try simp at hz1)))
      go_ret
      refine ⟨rfl, ?_⟩
      (repeat (first | exact Below.refl _ _ | assumption | refine Ba.below_step (by assumption) (by first | exact Nat.le_refl _ | omega | (simp; done) | (simp; omega)) ?_ | apply Below.drew | apply Ba.below_drewN | refine Below.alloc ?_ (by first | exact Nat.le_refl _ | omega | (simp; done) | (simp; omega)) _ | refine Below.setCell ?_ (by first | exact Nat.le_refl _ | omega | (simp; done) | (simp; omega)) _))
end Go.Proofs.Ythmolfgjligaoaa.Tb
