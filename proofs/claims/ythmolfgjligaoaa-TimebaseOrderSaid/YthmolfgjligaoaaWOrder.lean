/- The table of the seven rates, in integers, and the contracts of the functions that read it (timebase) and of their references. No condition but that a rate is a byte. -/
import Derived.Test.YthmolfgjligaoaaChecked
import Derived.Test.YthmolfgjligaoaaBase
import Derived.Test.YthmolfgjligaoaaTim
import Derived.Test.YthmolfgjligaoaaQuo
import Derived.Test.YthmolfgjligaoaaTcv
import Derived.Test.YthmolfgjligaoaaTw
import Derived.Test.YthmolfgjligaoaaTpl
import Derived.WalkLawsBesides
namespace Go.Proofs.Ythmolfgjligaoaa.Tb
open Go.RowKit Ba Qu
set_option linter.unusedVariables false
set_option linter.unusedSimpArgs false

set_option maxRecDepth 100000 in
set_option maxHeartbeats 2000000 in
theorem Order_gt (w : World) (a0_0 a0_1 a1 a2 : Int) (i0_0 : 0 ≤ a0_0 ∧ a0_0 ≤ 255) (i0_1 : 0 ≤ a0_1 ∧ a0_1 ≤ 255) (h : a2 < a1) :
    Calls Try.prog 9 #[.agg #[.int .u8 a0_0, .int .u8 a0_1], .int .i64 a1, .int .i64 a2] w fun e w' => e = .returned (.bool true) ∧ Below w.heap.size w w' := by
  have HM := Lib.hid (fun m => conv_mono a0_0 a0_1 a2 a1 m (by omega))
  have H3 := Lib.hid (conv_three a0_0 a0_1 a1)
  have HB := Lib.hid (fun f m => convR_bd a0_0 a0_1 f m)
  go_enter Try.func9, Try.ntmps9
  go_wp2_with (first | ((go_at_call 15; refine (awake_ok _).mono ?_; rintro e w1 ⟨rfl, hb1⟩; obtain ⟨hc1, hf1, hz1⟩ := bcell hb1; (try simp at hz1)); have y10 : w.heap.size < w1.heap.size := (by omega)))
  have c0 : w1.cell? ⟨w.heap.size, 0, none⟩ = some (.int .u8 a0_0) := by rw [hc1 _ _ (by simp)]; simp
  have c1 : w1.cell? ⟨w.heap.size, 1, none⟩ = some (.int .u8 a0_1) := by rw [hc1 _ _ (by simp)]; simp
  have C0 := Lib.hid c0
  have C1 := Lib.hid c1
  clear hc1 hf1 c0 c1
  go_loopw [6, 7] (fun r v wr => r = .bool false ∧ (∃ k : Int, 1 ≤ k ∧ k ≤ 4 ∧ v = .int .u8 k) ∧ wr.cell? ⟨w.heap.size, 0, none⟩ = some (.int .u8 a0_0) ∧ wr.cell? ⟨w.heap.size, 1, none⟩ = some (.int .u8 a0_1) ∧ Below w.heap.size w wr ∧ w.heap.size < wr.heap.size) (fun _ v _ => (4 - intOf v).toNat)
  case atStart => exact ⟨rfl, ⟨1, by omega, by omega, rfl⟩, C0.out, C1.out, by (repeat (first | exact Below.refl _ _ | assumption | refine Ba.below_step (by assumption) (by first | exact Nat.le_refl _ | omega | (simp; done) | (simp; omega)) ?_ | apply Below.drew | apply Ba.below_drewN | refine Below.alloc ?_ (by first | exact Nat.le_refl _ | omega | (simp; done) | (simp; omega)) _ | refine Below.setCell ?_ (by first | exact Nat.le_refl _ | omega | (simp; done) | (simp; omega)) _)), y10⟩
  case round =>
    obtain ⟨rfl, ⟨k, k1, k4, rfl⟩, d0, d1, hbw, hzw⟩ := hrel
    clear hb1 hz1 y10 C0 C1
    by_cases hlt : k ≤ 3
    · have t1 : decide (k ≤ 3) = true := decide_eq_true (by omega)
      have hmono := HM.out k
      have hX : ((convR a0_0 a0_1 a2 k).2 == 0) = true ∧ ((convR a0_0 a0_1 a1 k).2 == 0) = true ∧ decide ((convR a0_0 a0_1 a1 k).1 < (convR a0_0 a0_1 a2 k).1) = false ∨ ((convR a0_0 a0_1 a2 k).2 == 0) = true ∧ ((convR a0_0 a0_1 a1 k).2 == 0) = false ∧ True ∨ ((convR a0_0 a0_1 a2 k).2 == 0) = false ∧ True ∧ True := by
        by_cases x1 : (convR a0_0 a0_1 a2 k).2 = 0
        · by_cases x2 : (convR a0_0 a0_1 a1 k).2 = 0
          · have x3 := hmono x1 x2
            exact .inl ⟨by simpa using x1, by simpa using x2, decide_eq_false (by omega)⟩
          · exact .inr (.inl ⟨by simpa using x1, by simpa using x2, trivial⟩)
        · exact .inr (.inr ⟨by simpa using x1, trivial, trivial⟩)
      clear hmono
      rcases hX with ⟨x1, x2, x3⟩ | ⟨x1, x2, x3⟩ | ⟨x1, x2, x3⟩
      all_goals
        go_wp2_with fail
        refine (Convert_any _ _ _ _ _ i0_0.1 i0_0.2 i0_1.1 i0_1.2 (by omega) (by omega)).mono ?_
        rintro e w2 ⟨rfl, hb2⟩
        have e0 : w2.cell? ⟨w.heap.size, 0, none⟩ = some (.int .u8 a0_0) := (hb2.cell (p := ⟨w.heap.size, 0, none⟩) hzw).trans d0
        have e1 : w2.cell? ⟨w.heap.size, 1, none⟩ = some (.int .u8 a0_1) := (hb2.cell (p := ⟨w.heap.size, 1, none⟩) hzw).trans d1
        have hz2 := hb2.size
        go_wp2_with fail
        refine (Convert_any _ _ _ _ _ i0_0.1 i0_0.2 i0_1.1 i0_1.2 (by omega) (by omega)).mono ?_
        rintro e w3 ⟨rfl, hb3⟩
        have g0 : w3.cell? ⟨w.heap.size, 0, none⟩ = some (.int .u8 a0_0) := (hb3.cell (p := ⟨w.heap.size, 0, none⟩) (by show w.heap.size < _; omega)).trans e0
        have g1 : w3.cell? ⟨w.heap.size, 1, none⟩ = some (.int .u8 a0_1) := (hb3.cell (p := ⟨w.heap.size, 1, none⟩) (by show w.heap.size < _; omega)).trans e1
        have hz3 := hb3.size
        have G0 := Lib.hid g0
        have G1 := Lib.hid g1
        clear d0 d1 e0 e1 g0 g1
        go_wp2
        go_roundw
        case rel => exact ⟨rfl, ⟨k + 1, by omega, by omega, rfl⟩, G0.out, G1.out, by (repeat (first | exact Below.refl _ _ | assumption | refine Ba.below_step (by assumption) (by first | exact Nat.le_refl _ | omega | (simp; done) | (simp; omega)) ?_ | apply Below.drew | apply Ba.below_drewN | refine Below.alloc ?_ (by first | exact Nat.le_refl _ | omega | (simp; done) | (simp; omega)) _ | refine Below.setCell ?_ (by first | exact Nat.le_refl _ | omega | (simp; done) | (simp; omega)) _)), by omega⟩
        case measure => simp [intOf]; omega
    · have t2 : decide (k ≤ 3) = false := decide_eq_false (by omega)
      have hT : ((convR a0_0 a0_1 a1 1).2 != 0) = true ∨ ((convR a0_0 a0_1 a1 1).2 != 0) = false ∧ ((convR a0_0 a0_1 a1 2).2 != 0) = true ∨ ((convR a0_0 a0_1 a1 1).2 != 0) = false ∧ ((convR a0_0 a0_1 a1 2).2 != 0) = false ∧ ((convR a0_0 a0_1 a1 3).2 != 0) = true ∨
          ((convR a0_0 a0_1 a1 1).2 != 0) = false ∧ ((convR a0_0 a0_1 a1 2).2 != 0) = false ∧ ((convR a0_0 a0_1 a1 3).2 != 0) = false := by
        cases ((convR a0_0 a0_1 a1 1).2 != 0) <;> cases ((convR a0_0 a0_1 a1 2).2 != 0) <;> cases ((convR a0_0 a0_1 a1 3).2 != 0) <;> simp
      have B1 := HB.out a1 1
      have B3 := HB.out a1 3
      have hT3 : ((convR a0_0 a0_1 a1 1).2 != 0) = false → ((convR a0_0 a0_1 a1 2).2 != 0) = false → ((convR a0_0 a0_1 a1 3).2 != 0) = false → decide ((convR a0_0 a0_1 a1 1).1 ≤ (convR a0_0 a0_1 a1 2).1) = true ∧ decide ((convR a0_0 a0_1 a1 2).1 ≤ (convR a0_0 a0_1 a1 3).1) = true ∧ decide ((convR a0_0 a0_1 a1 3).1 - (convR a0_0 a0_1 a1 1).1 ≤ 1) = true := fun y1 y2 y3 => by
        have := H3.out (by simpa using y1) (by simpa using y2) (by simpa using y3)
        exact ⟨decide_eq_true this.1, decide_eq_true this.2.1, decide_eq_true this.2.2⟩
      have hT5 : ((convR a0_0 a0_1 a1 1).2 != 0) = true ∨ ((convR a0_0 a0_1 a1 1).2 != 0) = false ∧ ((convR a0_0 a0_1 a1 2).2 != 0) = true ∨ ((convR a0_0 a0_1 a1 1).2 != 0) = false ∧ ((convR a0_0 a0_1 a1 2).2 != 0) = false ∧ ((convR a0_0 a0_1 a1 3).2 != 0) = true ∨
          ((convR a0_0 a0_1 a1 1).2 != 0) = false ∧ ((convR a0_0 a0_1 a1 2).2 != 0) = false ∧ ((convR a0_0 a0_1 a1 3).2 != 0) = false ∧ decide ((convR a0_0 a0_1 a1 1).1 ≤ (convR a0_0 a0_1 a1 2).1) = true ∧ decide ((convR a0_0 a0_1 a1 2).1 ≤ (convR a0_0 a0_1 a1 3).1) = true ∧ decide ((convR a0_0 a0_1 a1 3).1 - (convR a0_0 a0_1 a1 1).1 ≤ 1) = true := by
        rcases hT with x1 | ⟨x1, x2⟩ | ⟨x1, x2, x3⟩ | ⟨x1, x2, x3⟩
        · exact .inl x1
        · exact .inr (.inl ⟨x1, x2⟩)
        · exact .inr (.inr (.inl ⟨x1, x2, x3⟩))
        · exact .inr (.inr (.inr ⟨x1, x2, x3, hT3 x1 x2 x3⟩))
      clear hT hT3
      rcases hT5 with x1 | ⟨x1, x2⟩ | ⟨x1, x2, x3⟩ | ⟨x1, x2, x3, z1, z2, z3⟩
      all_goals
        go_wp2_with fail
        refine (Convert_any _ _ _ _ _ i0_0.1 i0_0.2 i0_1.1 i0_1.2 (by omega) (by omega)).mono ?_
        rintro e w2 ⟨rfl, hb2⟩
        have e0 : w2.cell? ⟨w.heap.size, 0, none⟩ = some (.int .u8 a0_0) := (hb2.cell (p := ⟨w.heap.size, 0, none⟩) hzw).trans d0
        have e1 : w2.cell? ⟨w.heap.size, 1, none⟩ = some (.int .u8 a0_1) := (hb2.cell (p := ⟨w.heap.size, 1, none⟩) hzw).trans d1
        have hz2 := hb2.size
        go_wp2_with fail
        refine (Convert_any _ _ _ _ _ i0_0.1 i0_0.2 i0_1.1 i0_1.2 (by omega) (by omega)).mono ?_
        rintro e w3 ⟨rfl, hb3⟩
        have g0 : w3.cell? ⟨w.heap.size, 0, none⟩ = some (.int .u8 a0_0) := (hb3.cell (p := ⟨w.heap.size, 0, none⟩) (by show w.heap.size < _; omega)).trans e0
        have g1 : w3.cell? ⟨w.heap.size, 1, none⟩ = some (.int .u8 a0_1) := (hb3.cell (p := ⟨w.heap.size, 1, none⟩) (by show w.heap.size < _; omega)).trans e1
        have hz3 := hb3.size
        clear d0 d1 e0 e1
        go_wp2_with fail
        refine (Convert_any _ _ _ _ _ i0_0.1 i0_0.2 i0_1.1 i0_1.2 (by omega) (by omega)).mono ?_
        rintro e w4 ⟨rfl, hb4⟩
        have hz4 := hb4.size
        clear g0 g1
        go_wp2
        go_ret
        refine ⟨rfl, ?_⟩
        (repeat (first | exact Below.refl _ _ | assumption | refine Ba.below_step (by assumption) (by first | exact Nat.le_refl _ | omega | (simp; done) | (simp; omega)) ?_ | apply Below.drew | apply Ba.below_drewN | refine Below.alloc ?_ (by first | exact Nat.le_refl _ | omega | (simp; done) | (simp; omega)) _ | refine Below.setCell ?_ (by first | exact Nat.le_refl _ | omega | (simp; done) | (simp; omega)) _))

set_option maxRecDepth 100000 in
set_option maxHeartbeats 2000000 in
theorem Order_lt (w : World) (a0_0 a0_1 a1 a2 : Int) (i0_0 : 0 ≤ a0_0 ∧ a0_0 ≤ 255) (i0_1 : 0 ≤ a0_1 ∧ a0_1 ≤ 255) (h : a1 < a2) (h2 : ¬ a2 < a1) :
    Calls Try.prog 9 #[.agg #[.int .u8 a0_0, .int .u8 a0_1], .int .i64 a1, .int .i64 a2] w fun e w' => e = .returned (.bool true) ∧ Below w.heap.size w w' := by
  have HM := Lib.hid (fun m => conv_mono a0_0 a0_1 a1 a2 m (by omega))
  have H3 := Lib.hid (conv_three a0_0 a0_1 a1)
  have HB := Lib.hid (fun f m => convR_bd a0_0 a0_1 f m)
  go_enter Try.func9, Try.ntmps9
  go_wp2_with (first | ((go_at_call 15; refine (awake_ok _).mono ?_; rintro e w1 ⟨rfl, hb1⟩; obtain ⟨hc1, hf1, hz1⟩ := bcell hb1; (try simp at hz1)); have y10 : w.heap.size < w1.heap.size := (by omega)))
  have c0 : w1.cell? ⟨w.heap.size, 0, none⟩ = some (.int .u8 a0_0) := by rw [hc1 _ _ (by simp)]; simp
  have c1 : w1.cell? ⟨w.heap.size, 1, none⟩ = some (.int .u8 a0_1) := by rw [hc1 _ _ (by simp)]; simp
  have C0 := Lib.hid c0
  have C1 := Lib.hid c1
  clear hc1 hf1 c0 c1
  go_loopw [6, 7] (fun r v wr => r = .bool false ∧ (∃ k : Int, 1 ≤ k ∧ k ≤ 4 ∧ v = .int .u8 k) ∧ wr.cell? ⟨w.heap.size, 0, none⟩ = some (.int .u8 a0_0) ∧ wr.cell? ⟨w.heap.size, 1, none⟩ = some (.int .u8 a0_1) ∧ Below w.heap.size w wr ∧ w.heap.size < wr.heap.size) (fun _ v _ => (4 - intOf v).toNat)
  case atStart => exact ⟨rfl, ⟨1, by omega, by omega, rfl⟩, C0.out, C1.out, by (repeat (first | exact Below.refl _ _ | assumption | refine Ba.below_step (by assumption) (by first | exact Nat.le_refl _ | omega | (simp; done) | (simp; omega)) ?_ | apply Below.drew | apply Ba.below_drewN | refine Below.alloc ?_ (by first | exact Nat.le_refl _ | omega | (simp; done) | (simp; omega)) _ | refine Below.setCell ?_ (by first | exact Nat.le_refl _ | omega | (simp; done) | (simp; omega)) _)), y10⟩
  case round =>
    obtain ⟨rfl, ⟨k, k1, k4, rfl⟩, d0, d1, hbw, hzw⟩ := hrel
    clear hb1 hz1 y10 C0 C1
    by_cases hlt : k ≤ 3
    · have t3 : decide (k ≤ 3) = true := decide_eq_true (by omega)
      have hmono := HM.out k
      have hX : ((convR a0_0 a0_1 a1 k).2 == 0) = true ∧ ((convR a0_0 a0_1 a2 k).2 == 0) = true ∧ decide ((convR a0_0 a0_1 a2 k).1 < (convR a0_0 a0_1 a1 k).1) = false ∨ ((convR a0_0 a0_1 a1 k).2 == 0) = true ∧ ((convR a0_0 a0_1 a2 k).2 == 0) = false ∧ True ∨ ((convR a0_0 a0_1 a1 k).2 == 0) = false ∧ True ∧ True := by
        by_cases x1 : (convR a0_0 a0_1 a1 k).2 = 0
        · by_cases x2 : (convR a0_0 a0_1 a2 k).2 = 0
          · have x3 := hmono x1 x2
            exact .inl ⟨by simpa using x1, by simpa using x2, decide_eq_false (by omega)⟩
          · exact .inr (.inl ⟨by simpa using x1, by simpa using x2, trivial⟩)
        · exact .inr (.inr ⟨by simpa using x1, trivial, trivial⟩)
      clear hmono
      rcases hX with ⟨x1, x2, x3⟩ | ⟨x1, x2, x3⟩ | ⟨x1, x2, x3⟩
      all_goals
        go_wp2_with fail
        refine (Convert_any _ _ _ _ _ i0_0.1 i0_0.2 i0_1.1 i0_1.2 (by omega) (by omega)).mono ?_
        rintro e w2 ⟨rfl, hb2⟩
        have e0 : w2.cell? ⟨w.heap.size, 0, none⟩ = some (.int .u8 a0_0) := (hb2.cell (p := ⟨w.heap.size, 0, none⟩) hzw).trans d0
        have e1 : w2.cell? ⟨w.heap.size, 1, none⟩ = some (.int .u8 a0_1) := (hb2.cell (p := ⟨w.heap.size, 1, none⟩) hzw).trans d1
        have hz2 := hb2.size
        go_wp2_with fail
        refine (Convert_any _ _ _ _ _ i0_0.1 i0_0.2 i0_1.1 i0_1.2 (by omega) (by omega)).mono ?_
        rintro e w3 ⟨rfl, hb3⟩
        have g0 : w3.cell? ⟨w.heap.size, 0, none⟩ = some (.int .u8 a0_0) := (hb3.cell (p := ⟨w.heap.size, 0, none⟩) (by show w.heap.size < _; omega)).trans e0
        have g1 : w3.cell? ⟨w.heap.size, 1, none⟩ = some (.int .u8 a0_1) := (hb3.cell (p := ⟨w.heap.size, 1, none⟩) (by show w.heap.size < _; omega)).trans e1
        have hz3 := hb3.size
        have G0 := Lib.hid g0
        have G1 := Lib.hid g1
        clear d0 d1 e0 e1 g0 g1
        go_wp2
        go_roundw
        case rel => exact ⟨rfl, ⟨k + 1, by omega, by omega, rfl⟩, G0.out, G1.out, by (repeat (first | exact Below.refl _ _ | assumption | refine Ba.below_step (by assumption) (by first | exact Nat.le_refl _ | omega | (simp; done) | (simp; omega)) ?_ | apply Below.drew | apply Ba.below_drewN | refine Below.alloc ?_ (by first | exact Nat.le_refl _ | omega | (simp; done) | (simp; omega)) _ | refine Below.setCell ?_ (by first | exact Nat.le_refl _ | omega | (simp; done) | (simp; omega)) _)), by omega⟩
        case measure => simp [intOf]; omega
    · have t4 : decide (k ≤ 3) = false := decide_eq_false (by omega)
      have hT : ((convR a0_0 a0_1 a1 1).2 != 0) = true ∨ ((convR a0_0 a0_1 a1 1).2 != 0) = false ∧ ((convR a0_0 a0_1 a1 2).2 != 0) = true ∨ ((convR a0_0 a0_1 a1 1).2 != 0) = false ∧ ((convR a0_0 a0_1 a1 2).2 != 0) = false ∧ ((convR a0_0 a0_1 a1 3).2 != 0) = true ∨
          ((convR a0_0 a0_1 a1 1).2 != 0) = false ∧ ((convR a0_0 a0_1 a1 2).2 != 0) = false ∧ ((convR a0_0 a0_1 a1 3).2 != 0) = false := by
        cases ((convR a0_0 a0_1 a1 1).2 != 0) <;> cases ((convR a0_0 a0_1 a1 2).2 != 0) <;> cases ((convR a0_0 a0_1 a1 3).2 != 0) <;> simp
      have B1 := HB.out a1 1
      have B3 := HB.out a1 3
      have hT3 : ((convR a0_0 a0_1 a1 1).2 != 0) = false → ((convR a0_0 a0_1 a1 2).2 != 0) = false → ((convR a0_0 a0_1 a1 3).2 != 0) = false → decide ((convR a0_0 a0_1 a1 1).1 ≤ (convR a0_0 a0_1 a1 2).1) = true ∧ decide ((convR a0_0 a0_1 a1 2).1 ≤ (convR a0_0 a0_1 a1 3).1) = true ∧ decide ((convR a0_0 a0_1 a1 3).1 - (convR a0_0 a0_1 a1 1).1 ≤ 1) = true := fun y1 y2 y3 => by
        have := H3.out (by simpa using y1) (by simpa using y2) (by simpa using y3)
        exact ⟨decide_eq_true this.1, decide_eq_true this.2.1, decide_eq_true this.2.2⟩
      have hT5 : ((convR a0_0 a0_1 a1 1).2 != 0) = true ∨ ((convR a0_0 a0_1 a1 1).2 != 0) = false ∧ ((convR a0_0 a0_1 a1 2).2 != 0) = true ∨ ((convR a0_0 a0_1 a1 1).2 != 0) = false ∧ ((convR a0_0 a0_1 a1 2).2 != 0) = false ∧ ((convR a0_0 a0_1 a1 3).2 != 0) = true ∨
          ((convR a0_0 a0_1 a1 1).2 != 0) = false ∧ ((convR a0_0 a0_1 a1 2).2 != 0) = false ∧ ((convR a0_0 a0_1 a1 3).2 != 0) = false ∧ decide ((convR a0_0 a0_1 a1 1).1 ≤ (convR a0_0 a0_1 a1 2).1) = true ∧ decide ((convR a0_0 a0_1 a1 2).1 ≤ (convR a0_0 a0_1 a1 3).1) = true ∧ decide ((convR a0_0 a0_1 a1 3).1 - (convR a0_0 a0_1 a1 1).1 ≤ 1) = true := by
        rcases hT with x1 | ⟨x1, x2⟩ | ⟨x1, x2, x3⟩ | ⟨x1, x2, x3⟩
        · exact .inl x1
        · exact .inr (.inl ⟨x1, x2⟩)
        · exact .inr (.inr (.inl ⟨x1, x2, x3⟩))
        · exact .inr (.inr (.inr ⟨x1, x2, x3, hT3 x1 x2 x3⟩))
      clear hT hT3
      rcases hT5 with x1 | ⟨x1, x2⟩ | ⟨x1, x2, x3⟩ | ⟨x1, x2, x3, z1, z2, z3⟩
      all_goals
        go_wp2_with fail
        refine (Convert_any _ _ _ _ _ i0_0.1 i0_0.2 i0_1.1 i0_1.2 (by omega) (by omega)).mono ?_
        rintro e w2 ⟨rfl, hb2⟩
        have e0 : w2.cell? ⟨w.heap.size, 0, none⟩ = some (.int .u8 a0_0) := (hb2.cell (p := ⟨w.heap.size, 0, none⟩) hzw).trans d0
        have e1 : w2.cell? ⟨w.heap.size, 1, none⟩ = some (.int .u8 a0_1) := (hb2.cell (p := ⟨w.heap.size, 1, none⟩) hzw).trans d1
        have hz2 := hb2.size
        go_wp2_with fail
        refine (Convert_any _ _ _ _ _ i0_0.1 i0_0.2 i0_1.1 i0_1.2 (by omega) (by omega)).mono ?_
        rintro e w3 ⟨rfl, hb3⟩
        have g0 : w3.cell? ⟨w.heap.size, 0, none⟩ = some (.int .u8 a0_0) := (hb3.cell (p := ⟨w.heap.size, 0, none⟩) (by show w.heap.size < _; omega)).trans e0
        have g1 : w3.cell? ⟨w.heap.size, 1, none⟩ = some (.int .u8 a0_1) := (hb3.cell (p := ⟨w.heap.size, 1, none⟩) (by show w.heap.size < _; omega)).trans e1
        have hz3 := hb3.size
        clear d0 d1 e0 e1
        go_wp2_with fail
        refine (Convert_any _ _ _ _ _ i0_0.1 i0_0.2 i0_1.1 i0_1.2 (by omega) (by omega)).mono ?_
        rintro e w4 ⟨rfl, hb4⟩
        have hz4 := hb4.size
        clear g0 g1
        go_wp2
        go_ret
        refine ⟨rfl, ?_⟩
        (repeat (first | exact Below.refl _ _ | assumption | refine Ba.below_step (by assumption) (by first | exact Nat.le_refl _ | omega | (simp; done) | (simp; omega)) ?_ | apply Below.drew | apply Ba.below_drewN | refine Below.alloc ?_ (by first | exact Nat.le_refl _ | omega | (simp; done) | (simp; omega)) _ | refine Below.setCell ?_ (by first | exact Nat.le_refl _ | omega | (simp; done) | (simp; omega)) _))

set_option maxRecDepth 100000 in
set_option maxHeartbeats 2000000 in
theorem Order_eq (w : World) (a0_0 a0_1 a1 : Int) (i0_0 : 0 ≤ a0_0 ∧ a0_0 ≤ 255) (i0_1 : 0 ≤ a0_1 ∧ a0_1 ≤ 255) :
    Calls Try.prog 9 #[.agg #[.int .u8 a0_0, .int .u8 a0_1], .int .i64 a1, .int .i64 a1] w fun e w' => e = .returned (.bool true) ∧ Below w.heap.size w w' := by
  have HM := Lib.hid (fun m => conv_mono a0_0 a0_1 a1 a1 m (by omega))
  have H3 := Lib.hid (conv_three a0_0 a0_1 a1)
  have HB := Lib.hid (fun f m => convR_bd a0_0 a0_1 f m)
  go_enter Try.func9, Try.ntmps9
  go_wp2_with (first | ((go_at_call 15; refine (awake_ok _).mono ?_; rintro e w1 ⟨rfl, hb1⟩; obtain ⟨hc1, hf1, hz1⟩ := bcell hb1; (try simp at hz1)); have y10 : w.heap.size < w1.heap.size := (by omega)))
  have c0 : w1.cell? ⟨w.heap.size, 0, none⟩ = some (.int .u8 a0_0) := by rw [hc1 _ _ (by simp)]; simp
  have c1 : w1.cell? ⟨w.heap.size, 1, none⟩ = some (.int .u8 a0_1) := by rw [hc1 _ _ (by simp)]; simp
  have C0 := Lib.hid c0
  have C1 := Lib.hid c1
  clear hc1 hf1 c0 c1
  go_loopw [6, 7] (fun r v wr => r = .bool false ∧ (∃ k : Int, 1 ≤ k ∧ k ≤ 4 ∧ v = .int .u8 k) ∧ wr.cell? ⟨w.heap.size, 0, none⟩ = some (.int .u8 a0_0) ∧ wr.cell? ⟨w.heap.size, 1, none⟩ = some (.int .u8 a0_1) ∧ Below w.heap.size w wr ∧ w.heap.size < wr.heap.size) (fun _ v _ => (4 - intOf v).toNat)
  case atStart => exact ⟨rfl, ⟨1, by omega, by omega, rfl⟩, C0.out, C1.out, by (repeat (first | exact Below.refl _ _ | assumption | refine Ba.below_step (by assumption) (by first | exact Nat.le_refl _ | omega | (simp; done) | (simp; omega)) ?_ | apply Below.drew | apply Ba.below_drewN | refine Below.alloc ?_ (by first | exact Nat.le_refl _ | omega | (simp; done) | (simp; omega)) _ | refine Below.setCell ?_ (by first | exact Nat.le_refl _ | omega | (simp; done) | (simp; omega)) _)), y10⟩
  case round =>
    obtain ⟨rfl, ⟨k, k1, k4, rfl⟩, d0, d1, hbw, hzw⟩ := hrel
    clear hb1 hz1 y10 C0 C1
    by_cases hlt : k ≤ 3
    · have t5 : decide (k ≤ 3) = true := decide_eq_true (by omega)
      have hmono := HM.out k
      have hX : ((convR a0_0 a0_1 a1 k).2 == 0) = true ∧ ((convR a0_0 a0_1 a1 k).2 == 0) = true ∧ decide ((convR a0_0 a0_1 a1 k).1 < (convR a0_0 a0_1 a1 k).1) = false ∨ ((convR a0_0 a0_1 a1 k).2 == 0) = true ∧ ((convR a0_0 a0_1 a1 k).2 == 0) = false ∧ True ∨ ((convR a0_0 a0_1 a1 k).2 == 0) = false ∧ True ∧ True := by
        by_cases x1 : (convR a0_0 a0_1 a1 k).2 = 0
        · by_cases x2 : (convR a0_0 a0_1 a1 k).2 = 0
          · have x3 := hmono x1 x2
            exact .inl ⟨by simpa using x1, by simpa using x2, decide_eq_false (by omega)⟩
          · exact .inr (.inl ⟨by simpa using x1, by simpa using x2, trivial⟩)
        · exact .inr (.inr ⟨by simpa using x1, trivial, trivial⟩)
      clear hmono
      rcases hX with ⟨x1, x2, x3⟩ | ⟨x1, x2, x3⟩ | ⟨x1, x2, x3⟩
      all_goals
        go_wp2_with fail
        refine (Convert_any _ _ _ _ _ i0_0.1 i0_0.2 i0_1.1 i0_1.2 (by omega) (by omega)).mono ?_
        rintro e w2 ⟨rfl, hb2⟩
        have e0 : w2.cell? ⟨w.heap.size, 0, none⟩ = some (.int .u8 a0_0) := (hb2.cell (p := ⟨w.heap.size, 0, none⟩) hzw).trans d0
        have e1 : w2.cell? ⟨w.heap.size, 1, none⟩ = some (.int .u8 a0_1) := (hb2.cell (p := ⟨w.heap.size, 1, none⟩) hzw).trans d1
        have hz2 := hb2.size
        go_wp2_with fail
        refine (Convert_any _ _ _ _ _ i0_0.1 i0_0.2 i0_1.1 i0_1.2 (by omega) (by omega)).mono ?_
        rintro e w3 ⟨rfl, hb3⟩
        have g0 : w3.cell? ⟨w.heap.size, 0, none⟩ = some (.int .u8 a0_0) := (hb3.cell (p := ⟨w.heap.size, 0, none⟩) (by show w.heap.size < _; omega)).trans e0
        have g1 : w3.cell? ⟨w.heap.size, 1, none⟩ = some (.int .u8 a0_1) := (hb3.cell (p := ⟨w.heap.size, 1, none⟩) (by show w.heap.size < _; omega)).trans e1
        have hz3 := hb3.size
        have G0 := Lib.hid g0
        have G1 := Lib.hid g1
        clear d0 d1 e0 e1 g0 g1
        go_wp2
        go_roundw
        case rel => exact ⟨rfl, ⟨k + 1, by omega, by omega, rfl⟩, G0.out, G1.out, by (repeat (first | exact Below.refl _ _ | assumption | refine Ba.below_step (by assumption) (by first | exact Nat.le_refl _ | omega | (simp; done) | (simp; omega)) ?_ | apply Below.drew | apply Ba.below_drewN | refine Below.alloc ?_ (by first | exact Nat.le_refl _ | omega | (simp; done) | (simp; omega)) _ | refine Below.setCell ?_ (by first | exact Nat.le_refl _ | omega | (simp; done) | (simp; omega)) _)), by omega⟩
        case measure => simp [intOf]; omega
    · have t6 : decide (k ≤ 3) = false := decide_eq_false (by omega)
      have hT : ((convR a0_0 a0_1 a1 1).2 != 0) = true ∨ ((convR a0_0 a0_1 a1 1).2 != 0) = false ∧ ((convR a0_0 a0_1 a1 2).2 != 0) = true ∨ ((convR a0_0 a0_1 a1 1).2 != 0) = false ∧ ((convR a0_0 a0_1 a1 2).2 != 0) = false ∧ ((convR a0_0 a0_1 a1 3).2 != 0) = true ∨
          ((convR a0_0 a0_1 a1 1).2 != 0) = false ∧ ((convR a0_0 a0_1 a1 2).2 != 0) = false ∧ ((convR a0_0 a0_1 a1 3).2 != 0) = false := by
        cases ((convR a0_0 a0_1 a1 1).2 != 0) <;> cases ((convR a0_0 a0_1 a1 2).2 != 0) <;> cases ((convR a0_0 a0_1 a1 3).2 != 0) <;> simp
      have B1 := HB.out a1 1
      have B3 := HB.out a1 3
      have hT3 : ((convR a0_0 a0_1 a1 1).2 != 0) = false → ((convR a0_0 a0_1 a1 2).2 != 0) = false → ((convR a0_0 a0_1 a1 3).2 != 0) = false → decide ((convR a0_0 a0_1 a1 1).1 ≤ (convR a0_0 a0_1 a1 2).1) = true ∧ decide ((convR a0_0 a0_1 a1 2).1 ≤ (convR a0_0 a0_1 a1 3).1) = true ∧ decide ((convR a0_0 a0_1 a1 3).1 - (convR a0_0 a0_1 a1 1).1 ≤ 1) = true := fun y1 y2 y3 => by
        have := H3.out (by simpa using y1) (by simpa using y2) (by simpa using y3)
        exact ⟨decide_eq_true this.1, decide_eq_true this.2.1, decide_eq_true this.2.2⟩
      have hT5 : ((convR a0_0 a0_1 a1 1).2 != 0) = true ∨ ((convR a0_0 a0_1 a1 1).2 != 0) = false ∧ ((convR a0_0 a0_1 a1 2).2 != 0) = true ∨ ((convR a0_0 a0_1 a1 1).2 != 0) = false ∧ ((convR a0_0 a0_1 a1 2).2 != 0) = false ∧ ((convR a0_0 a0_1 a1 3).2 != 0) = true ∨
          ((convR a0_0 a0_1 a1 1).2 != 0) = false ∧ ((convR a0_0 a0_1 a1 2).2 != 0) = false ∧ ((convR a0_0 a0_1 a1 3).2 != 0) = false ∧ decide ((convR a0_0 a0_1 a1 1).1 ≤ (convR a0_0 a0_1 a1 2).1) = true ∧ decide ((convR a0_0 a0_1 a1 2).1 ≤ (convR a0_0 a0_1 a1 3).1) = true ∧ decide ((convR a0_0 a0_1 a1 3).1 - (convR a0_0 a0_1 a1 1).1 ≤ 1) = true := by
        rcases hT with x1 | ⟨x1, x2⟩ | ⟨x1, x2, x3⟩ | ⟨x1, x2, x3⟩
        · exact .inl x1
        · exact .inr (.inl ⟨x1, x2⟩)
        · exact .inr (.inr (.inl ⟨x1, x2, x3⟩))
        · exact .inr (.inr (.inr ⟨x1, x2, x3, hT3 x1 x2 x3⟩))
      clear hT hT3
      rcases hT5 with x1 | ⟨x1, x2⟩ | ⟨x1, x2, x3⟩ | ⟨x1, x2, x3, z1, z2, z3⟩
      all_goals
        go_wp2_with fail
        refine (Convert_any _ _ _ _ _ i0_0.1 i0_0.2 i0_1.1 i0_1.2 (by omega) (by omega)).mono ?_
        rintro e w2 ⟨rfl, hb2⟩
        have e0 : w2.cell? ⟨w.heap.size, 0, none⟩ = some (.int .u8 a0_0) := (hb2.cell (p := ⟨w.heap.size, 0, none⟩) hzw).trans d0
        have e1 : w2.cell? ⟨w.heap.size, 1, none⟩ = some (.int .u8 a0_1) := (hb2.cell (p := ⟨w.heap.size, 1, none⟩) hzw).trans d1
        have hz2 := hb2.size
        go_wp2_with fail
        refine (Convert_any _ _ _ _ _ i0_0.1 i0_0.2 i0_1.1 i0_1.2 (by omega) (by omega)).mono ?_
        rintro e w3 ⟨rfl, hb3⟩
        have g0 : w3.cell? ⟨w.heap.size, 0, none⟩ = some (.int .u8 a0_0) := (hb3.cell (p := ⟨w.heap.size, 0, none⟩) (by show w.heap.size < _; omega)).trans e0
        have g1 : w3.cell? ⟨w.heap.size, 1, none⟩ = some (.int .u8 a0_1) := (hb3.cell (p := ⟨w.heap.size, 1, none⟩) (by show w.heap.size < _; omega)).trans e1
        have hz3 := hb3.size
        clear d0 d1 e0 e1
        go_wp2_with fail
        refine (Convert_any _ _ _ _ _ i0_0.1 i0_0.2 i0_1.1 i0_1.2 (by omega) (by omega)).mono ?_
        rintro e w4 ⟨rfl, hb4⟩
        have hz4 := hb4.size
        clear g0 g1
        go_wp2
        go_ret
        refine ⟨rfl, ?_⟩
        (repeat (first | exact Below.refl _ _ | assumption | refine Ba.below_step (by assumption) (by first | exact Nat.le_refl _ | omega | (simp; done) | (simp; omega)) ?_ | apply Below.drew | apply Ba.below_drewN | refine Below.alloc ?_ (by first | exact Nat.le_refl _ | omega | (simp; done) | (simp; omega)) _ | refine Below.setCell ?_ (by first | exact Nat.le_refl _ | omega | (simp; done) | (simp; omega)) _))

theorem Order_walk (w : World) (a0_0 : Int) (a0_1 : Int) (a1 : Int) (a2 : Int) (i0_0 : 0 ≤ a0_0 ∧ a0_0 ≤ 255) (i0_1 : 0 ≤ a0_1 ∧ a0_1 ≤ 255) (i1 : -9223372036854775808 ≤ a1 ∧ a1 ≤ 9223372036854775807) (i2 : -9223372036854775808 ≤ a2 ∧ a2 ≤ 9223372036854775807) :
    Calls Try.prog 9 #[.agg #[.int .u8 a0_0, .int .u8 a0_1], .int .i64 a1, .int .i64 a2] w fun e w' => e = .returned (.bool true) ∧ Below w.heap.size w w' := by
  by_cases h : a2 < a1
  · exact Order_gt w a0_0 a0_1 a1 a2 i0_0 i0_1 h
  · by_cases h2 : a1 < a2
    · exact Order_lt w a0_0 a0_1 a1 a2 i0_0 i0_1 h2 h
    · obtain rfl : a1 = a2 := by omega
      exact Order_eq w a0_0 a0_1 a1 i0_0 i0_1
end Go.Proofs.Ythmolfgjligaoaa.Tb
