/- The law TimecodeChecks, walked. -/
import Derived.Test.YtgllekaanaikhaaChecked
import Derived.Test.YtgllekaanaikhaaBase
import Derived.Test.YtgllekaanaikhaaWA
import Derived.Test.YtgllekaanaikhaaFr
import Derived.Test.YtgllekaanaikhaaExt
import Derived.Handy
namespace Go.Proofs.Ytgllekaanaikhaa.Tb
open Go.RowKit Ba
set_option linter.unusedVariables false
set_option linter.unusedSimpArgs false

theorem Checks_walk (w : World) (a0 : Int) (a1_0 : Int) (a1_1 : Int) (a1_2 : Int) (a1_3 : Int) (a1_4 : Bool) (i0 : 0 ≤ a0 ∧ a0 ≤ 255) (i1_0 : -9223372036854775808 ≤ a1_0 ∧ a1_0 ≤ 9223372036854775807) (i1_1 : -9223372036854775808 ≤ a1_1 ∧ a1_1 ≤ 9223372036854775807) (i1_2 : -9223372036854775808 ≤ a1_2 ∧ a1_2 ≤ 9223372036854775807) (i1_3 : -9223372036854775808 ≤ a1_3 ∧ a1_3 ≤ 9223372036854775807) :
    Calls Try.prog 8 #[.int .u8 a0, .agg #[.int .i64 a1_0, .int .i64 a1_1, .int .i64 a1_2, .int .i64 a1_3, .bool a1_4]] w fun e w' => e = .returned (.bool true) ∧ Below w.heap.size w w' := by
  go_enter Try.func8, Try.ntmps8
  go_wp2_with (first | (have _t := hz2; clear _t; ((go_at_call 27; refine (RFrame_any _ _ _ _ _ _ _ i0.1 i0.2).mono ?_; rintro e w3 ⟨rfl, hb3⟩; obtain ⟨hc3, hf3, hz3⟩ := bcell hb3; (try simp at hz3))); (try have y32 : w2.heap.size < w3.heap.size := (by omega)); (try have y31 : w1.heap.size < w3.heap.size := (by omega)); (try have y30 : w.heap.size < w3.heap.size := (by omega))) | (have _t := hz1; clear _t; ((go_at_call 16; refine (Frame_any _ _ _ _ _ _ _ i0.1 i0.2).mono ?_; rintro e w2 ⟨rfl, hb2⟩; obtain ⟨hc2, hf2, hz2⟩ := bcell hb2; (try simp at hz2))); (try have y21 : w1.heap.size < w2.heap.size := (by omega)); (try have y20 : w.heap.size < w2.heap.size := (by omega))) | (((go_at_call 22; refine (awake_ok _).mono ?_; rintro e w1 ⟨rfl, hb1⟩; obtain ⟨hc1, hf1, hz1⟩ := bcell hb1; (try simp at hz1))); (try have y10 : w.heap.size < w1.heap.size := (by omega))) | fail)
  have c0 : w3.cell? ⟨w.heap.size, 0, none⟩ = some (.int .i64 a1_0) := (hc3 _ _ y20).trans ((hc2 _ _ y10).trans ((hc1 _ _ (by simp)).trans (by simp)))
  have c1 : w3.cell? ⟨w.heap.size, 1, none⟩ = some (.int .i64 a1_1) := (hc3 _ _ y20).trans ((hc2 _ _ y10).trans ((hc1 _ _ (by simp)).trans (by simp)))
  have c2 : w3.cell? ⟨w.heap.size, 2, none⟩ = some (.int .i64 a1_2) := (hc3 _ _ y20).trans ((hc2 _ _ y10).trans ((hc1 _ _ (by simp)).trans (by simp)))
  have c3 : w3.cell? ⟨w.heap.size, 3, none⟩ = some (.int .i64 a1_3) := (hc3 _ _ y20).trans ((hc2 _ _ y10).trans ((hc1 _ _ (by simp)).trans (by simp)))
  have c4 : w3.cell? ⟨w.heap.size, 4, none⟩ = some (.bool a1_4) := (hc3 _ _ y20).trans ((hc2 _ _ y10).trans ((hc1 _ _ (by simp)).trans (by simp)))
  haveI : Nonempty (Ext w3.heap.size w3) := Ext.ne _ _
  have g0 := Ext.cell (B := w3.heap.size) (w.heap.size) 0 _ (by omega) c0
  have g1 := Ext.cell (B := w3.heap.size) (w.heap.size) 1 _ (by omega) c1
  have g2 := Ext.cell (B := w3.heap.size) (w.heap.size) 2 _ (by omega) c2
  have g3 := Ext.cell (B := w3.heap.size) (w.heap.size) 3 _ (by omega) c3
  have g4 := Ext.cell (B := w3.heap.size) (w.heap.size) 4 _ (by omega) c4
  refine region_ext w3.heap.size (by kernel_rfl) (by kernel_rfl) ?_
  repeat (first | go_big_quiet_step (first | (go_at_call 28; refine ext_call (Nat.le_refl _) (Check_any _ _ _ _ _ _ _ i0.1 i0.2)) | (go_at_call 29; refine ext_call (Nat.le_refl _) (RCheck_any _ _ _ _ _ _ _ i0.1 i0.2))) | quiet_step (first | (go_at_call 28; refine ext_call (Nat.le_refl _) (Check_any _ _ _ _ _ _ _ i0.1 i0.2)) | (go_at_call 29; refine ext_call (Nat.le_refl _) (RCheck_any _ _ _ _ _ _ _ i0.1 i0.2))))
  refine ext_nil ?_
  intro w4 hb4
  clear this g0 g1 g2 g3 g4
  go_wp2_with fail
  go_ret
  exact ⟨rfl, by (repeat (first | exact Below.refl _ _ | assumption | refine Ba.below_step (by assumption) (by first | exact Nat.le_refl _ | omega | (simp; done) | (simp; omega)) ?_ | apply Below.drew | apply Ba.below_drewN | refine Below.alloc ?_ (by first | exact Nat.le_refl _ | omega | (simp; done) | (simp; omega)) _ | refine Below.setCell ?_ (by first | exact Nat.le_refl _ | omega | (simp; done) | (simp; omega)) _))⟩
end Go.Proofs.Ytgllekaanaikhaa.Tb
