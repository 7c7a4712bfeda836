/- Contracts of layer 4 (pulldown) and of its reference: what each function returns, in integers. No condition but those that each theorem names. -/
import Derived.Test.YtbdbohjpicpbcaaChecked
import Derived.Test.YtbdbohjpicpbcaaPull
import Derived.Test.YtbdbohjpicpbcaaBase
import Derived.Test.YtbdbohjpicpbcaaPd
import Derived.Test.YtbdbohjpicpbcaaPf
import Derived.Test.YtbdbohjpicpbcaaPw
import Derived.Test.YtbdbohjpicpbcaaPh
import Derived.Test.YtbdbohjpicpbcaaOpen
namespace Go.Proofs.Ytbdbohjpicpbcaa.Pc
open Go.RowKit Pu Ba
set_option linter.unusedVariables false
set_option linter.unusedSimpArgs false

set_option maxHeartbeats 1000000 in
theorem Phases_walk (w : World) (a0 : Int) (a1 : Option Addr) (len1 cap1 : Nat) (z1 : Nat → Bool) (i0 : -9223372036854775808 ≤ a0 ∧ a0 ≤ 9223372036854775807) (i1 : Op.IsBools w a1 len1 cap1 z1) :
    Calls Try.prog 8 #[.int .i64 a0, .slice a1 len1 cap1] w fun e w' => e = .returned (.bool true) ∧ Below w.heap.size w w' := by
  rcases i1 with rfl | ⟨b, off, rfl, hl, hm, hb, hc⟩
  · go_enter Try.func8, Try.ntmps8
    go_wp2_with (first | (go_at_call 11; refine (awake_ok _).mono ?_; rintro e w1 ⟨rfl, hb1⟩; obtain ⟨hc1, hf1, hz1⟩ := bcell hb1; (try simp at hz1)) | (go_at_call 22; refine (Phase_any_nil _ _ _ z1 _).mono ?_; rintro e w' ⟨rfl, rfl⟩) | (go_at_call 23; refine (RPhase_any_nil _ _ _ z1 _).mono ?_; rintro e w' ⟨rfl, rfl⟩) | go_in)
    go_ret
    refine ⟨rfl, ?_⟩
    (repeat (first | exact Below.refl _ _ | assumption | refine Ba.below_step (by assumption) (by first | exact Nat.le_refl _ | omega | (simp; done) | (simp; omega)) ?_ | apply Below.drew | apply Ba.below_drewN | refine Below.alloc ?_ (by first | exact Nat.le_refl _ | omega | (simp; done) | (simp; omega)) _ | refine Below.setCell ?_ (by first | exact Nat.le_refl _ | omega | (simp; done) | (simp; omega)) _))
  · unfold maxLen at hm
    by_cases h8 : 800 < len1
    · have t1 : decide ((800 : Int) < (len1 : Int)) = true := decide_eq_true (by omega)
      go_enter Try.func8, Try.ntmps8
      go_wp2_with (first | (go_at_call 11; refine (awake_ok _).mono ?_; rintro e w1 ⟨rfl, hb1⟩; obtain ⟨hc1, hf1, hz1⟩ := bcell hb1; (try simp at hz1)) | go_in)
      go_ret
      refine ⟨rfl, ?_⟩
      (repeat (first | exact Below.refl _ _ | assumption | refine Ba.below_step (by assumption) (by first | exact Nat.le_refl _ | omega | (simp; done) | (simp; omega)) ?_ | apply Below.drew | apply Ba.below_drewN | refine Below.alloc ?_ (by first | exact Nat.le_refl _ | omega | (simp; done) | (simp; omega)) _ | refine Below.setCell ?_ (by first | exact Nat.le_refl _ | omega | (simp; done) | (simp; omega)) _))
    · have t2 : decide ((800 : Int) < (len1 : Int)) = false := decide_eq_false (by omega)
      have HC := Lib.hid hc
      have HB := Lib.hid hb
      clear hc hb
      go_enter Try.func8, Try.ntmps8
      go_wp2_with (first | (go_at_call 11; refine (awake_ok _).mono ?_; rintro e w1 ⟨rfl, hb1⟩; obtain ⟨hc1, hf1, hz1⟩ := bcell hb1; (try simp at hz1)))
      have hw : ∀ i, i < len1 → w1.cell? ⟨b, off + i, none⟩ = some (.bool (z1 i)) := fun i hi => (hb1.cell (p := ⟨b, off + i, none⟩) HB.out).trans (HC.out i hi)
      have HW := Lib.hid hw
      clear hw hc1 hf1
      go_wp2_with (first | (go_at_call 22; refine (Phase_any _ b off len1 cap1 z1 _ (by omega) i0.1 i0.2 HW.out).mono ?_; rintro e w' ⟨rfl, rfl⟩) | (go_at_call 23; refine (RPhase_any _ b off len1 cap1 z1 _ (by omega) i0.1 i0.2 HW.out).mono ?_; rintro e w' ⟨rfl, rfl⟩) | go_in)
      go_ret
      refine ⟨rfl, ?_⟩
      (repeat (first | exact Below.refl _ _ | assumption | refine Ba.below_step (by assumption) (by first | exact Nat.le_refl _ | omega | (simp; done) | (simp; omega)) ?_ | apply Below.drew | apply Ba.below_drewN | refine Below.alloc ?_ (by first | exact Nat.le_refl _ | omega | (simp; done) | (simp; omega)) _ | refine Below.setCell ?_ (by first | exact Nat.le_refl _ | omega | (simp; done) | (simp; omega)) _))
end Go.Proofs.Ytbdbohjpicpbcaa.Pc
