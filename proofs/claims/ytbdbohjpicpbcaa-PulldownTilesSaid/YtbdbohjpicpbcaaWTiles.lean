/- Contracts of layer 4 (pulldown) and of its reference: what each function returns, in integers. No condition but those that each theorem names. -/
import Derived.Test.YtbdbohjpicpbcaaChecked
import Derived.Test.YtbdbohjpicpbcaaPull
import Derived.Test.YtbdbohjpicpbcaaBase
import Derived.Test.YtbdbohjpicpbcaaPd
import Derived.Test.YtbdbohjpicpbcaaPf
import Derived.Test.YtbdbohjpicpbcaaPw
import Derived.Test.YtbdbohjpicpbcaaPe
import Derived.Test.YtbdbohjpicpbcaaWTilb
import Derived.Test.YtbdbohjpicpbcaaOpen
namespace Go.Proofs.Ytbdbohjpicpbcaa.Pc
open Go.RowKit Pu Ba
set_option linter.unusedVariables false
set_option linter.unusedSimpArgs false

theorem fields_er (p n : Int) (h : (fieldsR p n).2.2 ≠ 0) : ∃ e, fieldsR p n = (0, 0, e) ∧ e ≠ 0 := by
  unfold fieldsR at h ⊢
  split
  · exact ⟨1, rfl, by omega⟩
  · split
    · exact ⟨2, rfl, by omega⟩
    · rename_i h1 h2
      rw [if_neg h1, if_neg h2] at h
      simp at h
theorem fields_in (p n : Int) (h : (fieldsR p n).2.2 = 0) : 0 ≤ p ∧ p < 4 ∧ 0 ≤ n ∧ n ≤ 5184000 := by
  unfold fieldsR at h
  split at h
  · simp at h
  · split at h
    · simp at h
    · omega
theorem Tiles_walk (w : World) (a0 : Int) (a1 : Int) (i0 : -9223372036854775808 ≤ a0 ∧ a0 ≤ 9223372036854775807) (i1 : -9223372036854775808 ≤ a1 ∧ a1 ≤ 9223372036854775807) :
    Calls Try.prog 7 #[.int .i64 a0, .int .i64 a1] w fun e w' => e = .returned (.bool true) ∧ Below w.heap.size w w' := by
  by_cases hE : (fieldsR a0 a1).2.2 = 0
  · obtain ⟨p0, p1, n0, n1⟩ := fields_in _ _ hE
    have fb := fld_bd a0 a1 n0 (by omega)
    have A1 : fld a0 a1 ≤ 12960000 := by unfold fld; omega
    have ho : ∀ i, 10368000 < i → filmR a0 i = (0, 2) := fun i hi => film_rng a0 i p0 p1 (.inr hi)
    have h5 : fld a0 (a1 + 1 + 1) = fld a0 a1 + 5 := by unfold fld; omega
    have f2o : 5184000 < a1 + 1 → fieldsR a0 (a1 + 1) = (0, 0, 2) := fun h => fields_rng a0 _ p0 p1 (.inr h)
    have hs : ∀ i, fld a0 a1 ≤ i → i < fld a0 (a1 + 1) → i ≤ 10368000 → filmR a0 i = (a1, 0) := fun i h1 h2 h3 => by
      rw [film_fit a0 i p0 p1 (by omega) h3, sn_of a0 i a1 h1 h2]
    have hk : ((a1 + a0) % 2 = 1 ∧ fld a0 (a1 + 1) = fld a0 a1 + 3) ∨ ((a1 + a0) % 2 = 0 ∧ fld a0 (a1 + 1) = fld a0 a1 + 2) := by unfold fld; omega
    have hz : a1 = 0 → fld a0 a1 = 0 := fun h => by rw [h]; exact fld_zero a0
    have f1 := fields_fit a0 a1 p0 p1 n0 n1
    have f2 : a1 + 1 ≤ 5184000 → fieldsR a0 (a1 + 1) = (fld a0 (a1 + 1), fld a0 a1 + 5, 0) := fun h => by rw [fields_fit a0 _ p0 p1 (by omega) h, h5]
    rcases hk with ⟨hp, he⟩ | ⟨hp, he⟩
    all_goals
      rw [he] at hs f1 f2
      clear he h5
    · have hp' : ((a1 + a0) % 2 == 1) = true := by simpa using hp
      by_cases hn : a1 = 0
      · exact Tiles_3zi w a0 a1 _ p0 p1 n0 n1 fb.1 A1 f1 (f2 (by omega)) hp' (by simpa using hn) (by simpa using hz hn) hs ho
      · by_cases h1 : a1 + 1 ≤ 5184000
        · exact Tiles_3ni w a0 a1 _ p0 p1 n0 n1 fb.1 A1 f1 (f2 h1) hp' (by simpa using hn) hs ho
        · exact Tiles_3no w a0 a1 _ p0 p1 n0 n1 fb.1 A1 f1 (f2o (by omega)) hp' (by simpa using hn) hs ho
    · have hp' : ((a1 + a0) % 2 == 1) = false := by simp; omega
      by_cases hn : a1 = 0
      · exact Tiles_2zi w a0 a1 _ p0 p1 n0 n1 fb.1 A1 f1 (f2 (by omega)) hp' (by simpa using hn) (by simpa using hz hn) hs ho
      · by_cases h1 : a1 + 1 ≤ 5184000
        · exact Tiles_2ni w a0 a1 _ p0 p1 n0 n1 fb.1 A1 f1 (f2 h1) hp' (by simpa using hn) hs ho
        · exact Tiles_2no w a0 a1 _ p0 p1 n0 n1 fb.1 A1 f1 (f2o (by omega)) hp' (by simpa using hn) hs ho
  · obtain ⟨e, he, he0⟩ := fields_er _ _ hE
    have t1 : (e != 0) = true := by simpa using he0
    have H := Lib.hid he
    clear he he0 hE
    go_enter Try.func7, Try.ntmps7
    go_wp2_with (first | (go_at_call 11; refine (awake_ok _).mono ?_; rintro e w1 ⟨rfl, hb1⟩; obtain ⟨hc1, hf1, hz1⟩ := bcell hb1; (try simp at hz1)) | ((go_at_call 17; refine (Fields_any _ _ _).mono ?_; rintro e w2 ⟨rfl, hb2⟩; obtain ⟨hc2, hf2, hz2⟩ := bcell hb2; (try simp at hz2)); rw [H.out]) | go_in)
    go_ret
    refine ⟨rfl, ?_⟩
    (repeat (first | exact Below.refl _ _ | assumption | refine Ba.below_step (by assumption) (by first | exact Nat.le_refl _ | omega | (simp; done) | (simp; omega)) ?_ | apply Below.drew | apply Ba.below_drewN | refine Below.alloc ?_ (by first | exact Nat.le_refl _ | omega | (simp; done) | (simp; omega)) _ | refine Below.setCell ?_ (by first | exact Nat.le_refl _ | omega | (simp; done) | (simp; omega)) _))
end Go.Proofs.Ytbdbohjpicpbcaa.Pc
