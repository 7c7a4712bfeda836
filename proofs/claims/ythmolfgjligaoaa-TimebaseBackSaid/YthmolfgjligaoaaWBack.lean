/- The table of the seven rates, in integers, and the contracts of the functions that read it (timebase) and of their references. No condition but that a rate is a byte. -/
import Derived.Test.YthmolfgjligaoaaChecked
import Derived.Test.YthmolfgjligaoaaBase
import Derived.Test.YthmolfgjligaoaaTim
import Derived.Test.YthmolfgjligaoaaQuo
import Derived.Test.YthmolfgjligaoaaTcv
import Derived.Test.YthmolfgjligaoaaTw
import Derived.Test.YthmolfgjligaoaaTpl
import Derived.WalkLawsBesides
import Derived.Test.YthmolfgjligaoaaExt
import Derived.Test.YthmolfgjligaoaaTbk
namespace Go.Proofs.Ythmolfgjligaoaa.Tb
open Go.RowKit Ba Qu
set_option linter.unusedVariables false
set_option linter.unusedSimpArgs false

set_option maxRecDepth 100000 in
set_option maxHeartbeats 1000000 in
theorem Back_m (w : World) (a0_0 : Int) (a0_1 : Int) (a1 : Int) (i0_0 : 0 ≤ a0_0 ∧ a0_0 ≤ 255) (i0_1 : 0 ≤ a0_1 ∧ a0_1 ≤ 255) (i1 : -9223372036854775808 ≤ a1 ∧ a1 ≤ 9223372036854775807)
    (hm : ((millisR a0_0 a1).2 == 0) = true) (hF : fromR a0_0 (millisR a0_0 a1).1 = (a1, 0))
    (hT : decide (tk a0_0 < tk a0_1) = true ∨ decide (tk a0_0 < tk a0_1) = false ∧ ((convR a0_0 a0_1 a1 2).2 != 0) = true ∨ decide (tk a0_0 < tk a0_1) = false ∧ ((convR a0_0 a0_1 a1 2).2 != 0) = false ∧ ((convR a0_1 a0_0 (convR a0_0 a0_1 a1 2).1 2).2 != 0) = true ∨
      decide (tk a0_0 < tk a0_1) = false ∧ ((convR a0_0 a0_1 a1 2).2 != 0) = false ∧ ((convR a0_1 a0_0 (convR a0_0 a0_1 a1 2).1 2).2 != 0) = false ∧ ((convR a0_1 a0_0 (convR a0_0 a0_1 a1 2).1 2).1 == a1) = true) :
    Calls Try.prog 11 #[.agg #[.int .u8 a0_0, .int .u8 a0_1], .int .i64 a1] w fun e w' => e = .returned (.bool true) ∧ Below w.heap.size w w' := by
  have HF := Lib.hid hF
  clear hF
  have HT := Lib.hid hT
  clear hT
  go_enter Try.func11, Try.ntmps11
  go_wp2_with (first | ((go_at_call 15; refine (awake_ok _).mono ?_; rintro e w1 ⟨rfl, hb1⟩; obtain ⟨hc1, hf1, hz1⟩ := bcell hb1; (try simp at hz1)); have y10 : w.heap.size < w1.heap.size := (by omega)))
  have c0 : w1.cell? ⟨w.heap.size, 0, none⟩ = some (.int .u8 a0_0) := by rw [hc1 _ _ (by simp)]; simp
  have c1 : w1.cell? ⟨w.heap.size, 1, none⟩ = some (.int .u8 a0_1) := by rw [hc1 _ _ (by simp)]; simp
  clear hc1 hf1
  go_wp2_with fail
  refine (Millis_any _ _ _ i0_0.1 i0_0.2).mono ?_
  rintro e w2 ⟨rfl, hb2⟩
  have d0 : w2.cell? ⟨w.heap.size, 0, none⟩ = some (.int .u8 a0_0) := (hb2.cell (p := ⟨w.heap.size, 0, none⟩) y10).trans c0
  have d1 : w2.cell? ⟨w.heap.size, 1, none⟩ = some (.int .u8 a0_1) := (hb2.cell (p := ⟨w.heap.size, 1, none⟩) y10).trans c1
  have y20 : w.heap.size < w2.heap.size := Nat.lt_of_lt_of_le y10 hb2.size
  clear c0 c1
  go_wp2_with fail
  refine (From_any _ _ _ i0_0.1 i0_0.2).mono ?_
  rintro e w3 ⟨rfl, hb3⟩
  rw [HF.out]
  have e0 : w3.cell? ⟨w.heap.size, 0, none⟩ = some (.int .u8 a0_0) := (hb3.cell (p := ⟨w.heap.size, 0, none⟩) y20).trans d0
  have e1 : w3.cell? ⟨w.heap.size, 1, none⟩ = some (.int .u8 a0_1) := (hb3.cell (p := ⟨w.heap.size, 1, none⟩) y20).trans d1
  have y30 : w.heap.size < w3.heap.size := Nat.lt_of_lt_of_le y20 hb3.size
  clear d0 d1
  go_wp2
  haveI : Nonempty (Ext w3.heap.size w3) := Ext.ne _ _
  have g0 := Ext.cell (B := w3.heap.size) w.heap.size 0 _ y30 e0
  have g1 := Ext.cell (B := w3.heap.size) w.heap.size 1 _ y30 e1
  refine region_ext w3.heap.size (by kernel_rfl) (by kernel_rfl) ?_
  repeat (quiet_step ((go_at_call 13; refine ext_call (Nat.le_refl _) (Ticks_ok _ _ (by omega) (by omega)))))
  clear g0 g1 this
  refine ext_nil ?_
  intro w4 hb4
  have f0 : w4.cell? ⟨w.heap.size, 0, none⟩ = some (.int .u8 a0_0) := (hb4.cell (p := ⟨w.heap.size, 0, none⟩) y30).trans e0
  have f1 : w4.cell? ⟨w.heap.size, 1, none⟩ = some (.int .u8 a0_1) := (hb4.cell (p := ⟨w.heap.size, 1, none⟩) y30).trans e1
  have y40 : w.heap.size < w4.heap.size := Nat.lt_of_lt_of_le y30 hb4.size
  clear e0 e1
  rcases HT.out with x1 | ⟨x1, x2⟩ | ⟨x1, x2, x3⟩ | ⟨x1, x2, x3, x4⟩
  · have x1p := of_decide_eq_true x1
    go_wp2
    go_ret
    refine ⟨rfl, ?_⟩
    (repeat (first | exact Below.refl _ _ | assumption | refine Ba.below_step (by assumption) (by first | exact Nat.le_refl _ | omega | (simp; done) | (simp; omega)) ?_ | apply Below.drew | apply Ba.below_drewN | refine Below.alloc ?_ (by first | exact Nat.le_refl _ | omega | (simp; done) | (simp; omega)) _ | refine Below.setCell ?_ (by first | exact Nat.le_refl _ | omega | (simp; done) | (simp; omega)) _))
  all_goals
    have x1p := Int.not_lt.1 (of_decide_eq_false x1)
    go_wp2_with fail
    refine (Convert_any _ _ _ _ _ i0_0.1 i0_0.2 i0_1.1 i0_1.2 (by omega) (by omega)).mono ?_
    rintro e w5 ⟨rfl, hb5⟩
    have h0 : w5.cell? ⟨w.heap.size, 0, none⟩ = some (.int .u8 a0_0) := (hb5.cell (p := ⟨w.heap.size, 0, none⟩) y40).trans f0
    have h1 : w5.cell? ⟨w.heap.size, 1, none⟩ = some (.int .u8 a0_1) := (hb5.cell (p := ⟨w.heap.size, 1, none⟩) y40).trans f1
    have y50 : w.heap.size < w5.heap.size := Nat.lt_of_lt_of_le y40 hb5.size
    clear f0 f1
    go_wp2_with (go_at_call 12; refine (Convert_any _ _ _ _ _ i0_1.1 i0_1.2 i0_0.1 i0_0.2 (by omega) (by omega)).mono ?_; rintro e w6 ⟨rfl, hb6⟩)
    go_ret
    refine ⟨rfl, ?_⟩
    (repeat (first | exact Below.refl _ _ | assumption | refine Ba.below_step (by assumption) (by first | exact Nat.le_refl _ | omega | (simp; done) | (simp; omega)) ?_ | apply Below.drew | apply Ba.below_drewN | refine Below.alloc ?_ (by first | exact Nat.le_refl _ | omega | (simp; done) | (simp; omega)) _ | refine Below.setCell ?_ (by first | exact Nat.le_refl _ | omega | (simp; done) | (simp; omega)) _))

set_option maxRecDepth 100000 in
set_option maxHeartbeats 1000000 in
theorem Back_n (w : World) (a0_0 : Int) (a0_1 : Int) (a1 : Int) (i0_0 : 0 ≤ a0_0 ∧ a0_0 ≤ 255) (i0_1 : 0 ≤ a0_1 ∧ a0_1 ≤ 255) (i1 : -9223372036854775808 ≤ a1 ∧ a1 ≤ 9223372036854775807)
    (hm : ((millisR a0_0 a1).2 == 0) = false)
    (hT : decide (tk a0_0 < tk a0_1) = true ∨ decide (tk a0_0 < tk a0_1) = false ∧ ((convR a0_0 a0_1 a1 2).2 != 0) = true ∨ decide (tk a0_0 < tk a0_1) = false ∧ ((convR a0_0 a0_1 a1 2).2 != 0) = false ∧ ((convR a0_1 a0_0 (convR a0_0 a0_1 a1 2).1 2).2 != 0) = true ∨
      decide (tk a0_0 < tk a0_1) = false ∧ ((convR a0_0 a0_1 a1 2).2 != 0) = false ∧ ((convR a0_1 a0_0 (convR a0_0 a0_1 a1 2).1 2).2 != 0) = false ∧ ((convR a0_1 a0_0 (convR a0_0 a0_1 a1 2).1 2).1 == a1) = true) :
    Calls Try.prog 11 #[.agg #[.int .u8 a0_0, .int .u8 a0_1], .int .i64 a1] w fun e w' => e = .returned (.bool true) ∧ Below w.heap.size w w' := by
  have HT := Lib.hid hT
  clear hT
  go_enter Try.func11, Try.ntmps11
  go_wp2_with (first | ((go_at_call 15; refine (awake_ok _).mono ?_; rintro e w1 ⟨rfl, hb1⟩; obtain ⟨hc1, hf1, hz1⟩ := bcell hb1; (try simp at hz1)); have y10 : w.heap.size < w1.heap.size := (by omega)))
  have c0 : w1.cell? ⟨w.heap.size, 0, none⟩ = some (.int .u8 a0_0) := by rw [hc1 _ _ (by simp)]; simp
  have c1 : w1.cell? ⟨w.heap.size, 1, none⟩ = some (.int .u8 a0_1) := by rw [hc1 _ _ (by simp)]; simp
  clear hc1 hf1
  go_wp2_with fail
  refine (Millis_any _ _ _ i0_0.1 i0_0.2).mono ?_
  rintro e w2 ⟨rfl, hb2⟩
  have d0 : w2.cell? ⟨w.heap.size, 0, none⟩ = some (.int .u8 a0_0) := (hb2.cell (p := ⟨w.heap.size, 0, none⟩) y10).trans c0
  have d1 : w2.cell? ⟨w.heap.size, 1, none⟩ = some (.int .u8 a0_1) := (hb2.cell (p := ⟨w.heap.size, 1, none⟩) y10).trans c1
  have y20 : w.heap.size < w2.heap.size := Nat.lt_of_lt_of_le y10 hb2.size
  clear c0 c1
  obtain ⟨w3, hw3⟩ : ∃ w3, w3 = w2 := ⟨_, rfl⟩
  rw [← hw3]
  have hb3 : Below w2.heap.size w2 w3 := by rw [hw3]; exact Below.refl _ _
  clear hw3
  have e0 : w3.cell? ⟨w.heap.size, 0, none⟩ = some (.int .u8 a0_0) := (hb3.cell (p := ⟨w.heap.size, 0, none⟩) y20).trans d0
  have e1 : w3.cell? ⟨w.heap.size, 1, none⟩ = some (.int .u8 a0_1) := (hb3.cell (p := ⟨w.heap.size, 1, none⟩) y20).trans d1
  have y30 : w.heap.size < w3.heap.size := Nat.lt_of_lt_of_le y20 hb3.size
  clear d0 d1
  go_wp2
  haveI : Nonempty (Ext w3.heap.size w3) := Ext.ne _ _
  have g0 := Ext.cell (B := w3.heap.size) w.heap.size 0 _ y30 e0
  have g1 := Ext.cell (B := w3.heap.size) w.heap.size 1 _ y30 e1
  refine region_ext w3.heap.size (by kernel_rfl) (by kernel_rfl) ?_
  repeat (quiet_step ((go_at_call 13; refine ext_call (Nat.le_refl _) (Ticks_ok _ _ (by omega) (by omega)))))
  clear g0 g1 this
  refine ext_nil ?_
  intro w4 hb4
  have f0 : w4.cell? ⟨w.heap.size, 0, none⟩ = some (.int .u8 a0_0) := (hb4.cell (p := ⟨w.heap.size, 0, none⟩) y30).trans e0
  have f1 : w4.cell? ⟨w.heap.size, 1, none⟩ = some (.int .u8 a0_1) := (hb4.cell (p := ⟨w.heap.size, 1, none⟩) y30).trans e1
  have y40 : w.heap.size < w4.heap.size := Nat.lt_of_lt_of_le y30 hb4.size
  clear e0 e1
  rcases HT.out with x1 | ⟨x1, x2⟩ | ⟨x1, x2, x3⟩ | ⟨x1, x2, x3, x4⟩
  · have x1p := of_decide_eq_true x1
    go_wp2
    go_ret
    refine ⟨rfl, ?_⟩
    (repeat (first | exact Below.refl _ _ | assumption | refine Ba.below_step (by assumption) (by first | exact Nat.le_refl _ | omega | (simp; done) | (simp; omega)) ?_ | apply Below.drew | apply Ba.below_drewN | refine Below.alloc ?_ (by first | exact Nat.le_refl _ | omega | (simp; done) | (simp; omega)) _ | refine Below.setCell ?_ (by first | exact Nat.le_refl _ | omega | (simp; done) | (simp; omega)) _))
  all_goals
    have x1p := Int.not_lt.1 (of_decide_eq_false x1)
    go_wp2_with fail
    refine (Convert_any _ _ _ _ _ i0_0.1 i0_0.2 i0_1.1 i0_1.2 (by omega) (by omega)).mono ?_
    rintro e w5 ⟨rfl, hb5⟩
    have h0 : w5.cell? ⟨w.heap.size, 0, none⟩ = some (.int .u8 a0_0) := (hb5.cell (p := ⟨w.heap.size, 0, none⟩) y40).trans f0
    have h1 : w5.cell? ⟨w.heap.size, 1, none⟩ = some (.int .u8 a0_1) := (hb5.cell (p := ⟨w.heap.size, 1, none⟩) y40).trans f1
    have y50 : w.heap.size < w5.heap.size := Nat.lt_of_lt_of_le y40 hb5.size
    clear f0 f1
    go_wp2_with (go_at_call 12; refine (Convert_any _ _ _ _ _ i0_1.1 i0_1.2 i0_0.1 i0_0.2 (by omega) (by omega)).mono ?_; rintro e w6 ⟨rfl, hb6⟩)
    go_ret
    refine ⟨rfl, ?_⟩
    (repeat (first | exact Below.refl _ _ | assumption | refine Ba.below_step (by assumption) (by first | exact Nat.le_refl _ | omega | (simp; done) | (simp; omega)) ?_ | apply Below.drew | apply Ba.below_drewN | refine Below.alloc ?_ (by first | exact Nat.le_refl _ | omega | (simp; done) | (simp; omega)) _ | refine Below.setCell ?_ (by first | exact Nat.le_refl _ | omega | (simp; done) | (simp; omega)) _))

theorem Back_walk (w : World) (a0_0 : Int) (a0_1 : Int) (a1 : Int) (i0_0 : 0 ≤ a0_0 ∧ a0_0 ≤ 255) (i0_1 : 0 ≤ a0_1 ∧ a0_1 ≤ 255) (i1 : -9223372036854775808 ≤ a1 ∧ a1 ≤ 9223372036854775807) :
    Calls Try.prog 11 #[.agg #[.int .u8 a0_0, .int .u8 a0_1], .int .i64 a1] w fun e w' => e = .returned (.bool true) ∧ Below w.heap.size w w' := by
  have hT : decide (tk a0_0 < tk a0_1) = true ∨ decide (tk a0_0 < tk a0_1) = false ∧ ((convR a0_0 a0_1 a1 2).2 != 0) = true ∨ decide (tk a0_0 < tk a0_1) = false ∧ ((convR a0_0 a0_1 a1 2).2 != 0) = false ∧ ((convR a0_1 a0_0 (convR a0_0 a0_1 a1 2).1 2).2 != 0) = true ∨
      decide (tk a0_0 < tk a0_1) = false ∧ ((convR a0_0 a0_1 a1 2).2 != 0) = false ∧ ((convR a0_1 a0_0 (convR a0_0 a0_1 a1 2).1 2).2 != 0) = false ∧ ((convR a0_1 a0_0 (convR a0_0 a0_1 a1 2).1 2).1 == a1) = true := by
    by_cases h1 : tk a0_0 < tk a0_1
    · exact .inl (decide_eq_true h1)
    · have d1 := decide_eq_false h1
      by_cases h2 : (convR a0_0 a0_1 a1 2).2 = 0
      · by_cases h3 : (convR a0_1 a0_0 (convR a0_0 a0_1 a1 2).1 2).2 = 0
        · exact .inr (.inr (.inr ⟨d1, by simpa using h2, by simpa using h3, by simpa using conv_back a0_0 a0_1 a1 _ (by omega) h2 rfl h3⟩))
        · exact .inr (.inr (.inl ⟨d1, by simpa using h2, by simpa using h3⟩))
      · exact .inr (.inl ⟨d1, by simpa using h2⟩)
  by_cases hm : (millisR a0_0 a1).2 = 0
  · exact Back_m w a0_0 a0_1 a1 i0_0 i0_1 i1 (by simpa using hm) (millis_back a0_0 a1 hm) hT
  · exact Back_n w a0_0 a0_1 a1 i0_0 i0_1 i1 (by simpa using hm) hT
end Go.Proofs.Ythmolfgjligaoaa.Tb
