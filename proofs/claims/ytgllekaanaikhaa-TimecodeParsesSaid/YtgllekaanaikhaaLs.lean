/- Parse of the program: a text of the form that is no label. -/
import Derived.Test.YtgllekaanaikhaaChecked
import Derived.Test.YtgllekaanaikhaaBase
import Derived.Test.YtgllekaanaikhaaLf
import Derived.Handy
import Derived.Deep.RegionHeld3
namespace Go.Proofs.Ytgllekaanaikhaa.Tb
open Go.RowKit Ba
set_option linter.unusedVariables false
set_option linter.unusedSimpArgs false

set_option maxHeartbeats 8000000 in
theorem Parse_k00 (r : Int) (w : World) (s : ByteArray) (r0 : 0 ≤ r) (r1 : r ≤ 255) (hv : va r = true) (hs : s.size = 11) (x0 x1 x2 x3 x4 x5 x6 x7 x8 x9 x10 c : Int) (g0 : ∀ h : 0 < s.size, ((s[0]'h).toNat : Int) = x0) (l0 : 0 ≤ x0) (m0 : x0 ≤ 255) (g1 : ∀ h : 1 < s.size, ((s[1]'h).toNat : Int) = x1) (l1 : 0 ≤ x1) (m1 : x1 ≤ 255) (g2 : ∀ h : 2 < s.size, ((s[2]'h).toNat : Int) = x2) (l2 : 0 ≤ x2) (m2 : x2 ≤ 255) (g3 : ∀ h : 3 < s.size, ((s[3]'h).toNat : Int) = x3) (l3 : 0 ≤ x3) (m3 : x3 ≤ 255) (g4 : ∀ h : 4 < s.size, ((s[4]'h).toNat : Int) = x4) (l4 : 0 ≤ x4) (m4 : x4 ≤ 255) (g5 : ∀ h : 5 < s.size, ((s[5]'h).toNat : Int) = x5) (l5 : 0 ≤ x5) (m5 : x5 ≤ 255) (g6 : ∀ h : 6 < s.size, ((s[6]'h).toNat : Int) = x6) (l6 : 0 ≤ x6) (m6 : x6 ≤ 255) (g7 : ∀ h : 7 < s.size, ((s[7]'h).toNat : Int) = x7) (l7 : 0 ≤ x7) (m7 : x7 ≤ 255) (g8 : ∀ h : 8 < s.size, ((s[8]'h).toNat : Int) = x8) (l8 : 0 ≤ x8) (m8 : x8 ≤ 255) (g9 : ∀ h : 9 < s.size, ((s[9]'h).toNat : Int) = x9) (l9 : 0 ≤ x9) (m9 : x9 ≤ 255) (g10 : ∀ h : 10 < s.size, ((s[10]'h).toNat : Int) = x10) (l10 : 0 ≤ x10) (m10 : x10 ≤ 255) (q2 : (x2 != 58) = false) (q5 : (x5 != 58) = false) (q8 : (x8 != 58) = false) (hh : ¬ x0 < 48 ∧ ¬ 57 < x0 ∧ ¬ x1 < 48 ∧ ¬ 57 < x1 ∧ ¬ x3 < 48 ∧ ¬ 57 < x3 ∧ ¬ x4 < 48 ∧ ¬ 57 < x4 ∧ ¬ x6 < 48 ∧ ¬ 57 < x6 ∧ ¬ x7 < 48 ∧ ¬ 57 < x7 ∧ ¬ x9 < 48 ∧ ¬ 57 < x9 ∧ ¬ x10 < 48 ∧ ¬ 57 < x10)
    (H : Hid (chk r (10 * (x0 - 48) + (x1 - 48)) (10 * (x3 - 48) + (x4 - 48)) (10 * (x6 - 48) + (x7 - 48)) (10 * (x9 - 48) + (x10 - 48)) (x8 == 59) = c)) (cz : (c != 0) = true) :
    Calls Try.prog 18 #[.int .u8 r, .string s] w fun e' w' => e' = .returned (labV (0, 0, 0, 0, false, c)) ∧ Below w.heap.size w w' := by
  have t0 : decide (x0 < 48) = false := decide_eq_false (by omega)
  have t1 : decide (57 < x0) = false := decide_eq_false (by omega)
  have t2 : decide (x1 < 48) = false := decide_eq_false (by omega)
  have t3 : decide (57 < x1) = false := decide_eq_false (by omega)
  have t4 : decide (x3 < 48) = false := decide_eq_false (by omega)
  have t5 : decide (57 < x3) = false := decide_eq_false (by omega)
  have t6 : decide (x4 < 48) = false := decide_eq_false (by omega)
  have t7 : decide (57 < x4) = false := decide_eq_false (by omega)
  have t8 : decide (x6 < 48) = false := decide_eq_false (by omega)
  have t9 : decide (57 < x6) = false := decide_eq_false (by omega)
  have t10 : decide (x7 < 48) = false := decide_eq_false (by omega)
  have t11 : decide (57 < x7) = false := decide_eq_false (by omega)
  have t12 : decide (x9 < 48) = false := decide_eq_false (by omega)
  have t13 : decide (57 < x9) = false := decide_eq_false (by omega)
  have t14 : decide (x10 < 48) = false := decide_eq_false (by omega)
  have t15 : decide (57 < x10) = false := decide_eq_false (by omega)
  go_enter Try.func18, Try.ntmps18
  go_wp2_with (first | (((go_at_call 41; refine (Valid_ok _ _ r0 r1).mono ?_; rintro e w1 ⟨rfl, hb1⟩; obtain ⟨hc1, hf1, hz1⟩ := bcell hb1; (try simp at hz1))); have y10 : w.heap.size < w1.heap.size := (by omega); have k : ∀ o : Nat, w1.cell? { block := w.heap.size, off := o } = _ := fun o => (hc1 w.heap.size o (by simp)); have q : ∀ o : Nat, w1.frozen? { block := w.heap.size, off := o } = _ := fun o => (hf1 w.heap.size o (by simp))) | (((go_at_call 47; refine (RValid_bel _ _ r0 r1).mono ?_; rintro e w1 ⟨rfl, hb1⟩; obtain ⟨hc1, hf1, hz1⟩ := bcell hb1; (try simp at hz1))); have y10 : w.heap.size < w1.heap.size := (by omega); have k : ∀ o : Nat, w1.cell? { block := w.heap.size, off := o } = _ := fun o => (hc1 w.heap.size o (by simp)); have q : ∀ o : Nat, w1.frozen? { block := w.heap.size, off := o } = _ := fun o => (hf1 w.heap.size o (by simp))) | fail)
  refine wp_loop_rounds 5 ?_
  rw [rounds_succ]; go_wp2; go_quiet (fail); go_wp2
  rw [rounds_succ]; go_wp2; go_quiet (fail); go_wp2
  rw [rounds_succ]; go_wp2; go_quiet (fail); go_wp2
  rw [rounds_succ]; go_wp2; go_quiet (fail); go_wp2
  rw [rounds_succ]
  go_wp2
  refine wp_gen ?_
  intro W hW
  have n1 : w.heap.size ≠ w1.heap.size := (by omega)
  have a0 : W.cell? ⟨w1.heap.size, 0, none⟩ = some (.int .i64 (10 * (x0 - 48) + (x1 - 48))) := by rw [hW]; go_cell
  have a1 : W.cell? ⟨w1.heap.size, 1, none⟩ = some (.int .i64 (10 * (x3 - 48) + (x4 - 48))) := by rw [hW]; go_cell
  have a2 : W.cell? ⟨w1.heap.size, 2, none⟩ = some (.int .i64 (10 * (x6 - 48) + (x7 - 48))) := by rw [hW]; go_cell
  have a3 : W.cell? ⟨w1.heap.size, 3, none⟩ = some (.int .i64 (10 * (x9 - 48) + (x10 - 48))) := by rw [hW]; go_cell
  have kk : ∀ o : Nat, W.cell? { block := w.heap.size, off := o } = _ := fun o => (show W.cell? { block := w.heap.size, off := o } = w1.cell? { block := w.heap.size, off := o } from by rw [hW]; go_cell).trans (k o)
  have qq : ∀ o : Nat, W.frozen? { block := w.heap.size, off := o } = _ := fun o => (show W.frozen? { block := w.heap.size, off := o } = w1.frozen? { block := w.heap.size, off := o } from by rw [hW]; go_cell).trans (q o)
  have hs : W.heap.size = w1.heap.size + 1 := by rw [hW]; simp
  have hbW : Below w.heap.size w W := by rw [hW]; (repeat (first | (with_reducible exact Below.refl _ _) | (with_reducible assumption) | refine Below.setCell ?_ (by first | exact Nat.le_refl _ | omega | (simp; done) | (simp; omega)) _ | refine Ba.below_step (by assumption) (by first | exact Nat.le_refl _ | omega | (simp; done) | (simp; omega)) ?_ | apply Below.drew | apply Ba.below_drewN | refine Below.alloc ?_ (by first | exact Nat.le_refl _ | omega | (simp; done) | (simp; omega)) _ | refine Below.setCell ?_ (by first | exact Nat.le_refl _ | omega | (simp; done) | (simp; omega)) _))
  clear hW hc1 hf1 k q hb1 g0 g1 g2 g3 g4 g5 g6 g7 g9 g10
  go_region_held3 (fun V => V.cell? ⟨w1.heap.size, 0, none⟩ = some (.int .i64 (10 * (x0 - 48) + (x1 - 48))) ∧ V.cell? ⟨w1.heap.size, 1, none⟩ = some (.int .i64 (10 * (x3 - 48) + (x4 - 48))) ∧ V.cell? ⟨w1.heap.size, 2, none⟩ = some (.int .i64 (10 * (x6 - 48) + (x7 - 48))) ∧ V.cell? ⟨w1.heap.size, 3, none⟩ = some (.int .i64 (10 * (x9 - 48) + (x10 - 48)))) (go_keep) (fail)
  all_goals (go_wp2_with (first | (((go_at_call 28; refine (Check_any _ _ _ _ _ _ _ r0 r1).mono ?_; rintro e w2 ⟨rfl, hb2⟩; obtain ⟨hc2, hf2, hz2⟩ := bcell hb2; (try simp at hz2))); rw [H.out]; have kk2 : ∀ o : Nat, w2.cell? { block := w.heap.size, off := o } = _ := fun o => ((hc2 w.heap.size o (by simp; omega)).trans ((show _ = W.cell? { block := w.heap.size, off := o } from by go_cell).trans (kk o))); have qq2 : ∀ o : Nat, w2.frozen? { block := w.heap.size, off := o } = _ := fun o => ((hf2 w.heap.size o (by simp; omega)).trans ((show _ = W.frozen? { block := w.heap.size, off := o } from by go_cell).trans (qq o))); clear kk qq) | (((go_at_call 29; refine (RCheck_any _ _ _ _ _ _ _ r0 r1).mono ?_; rintro e w2 ⟨rfl, hb2⟩; obtain ⟨hc2, hf2, hz2⟩ := bcell hb2; (try simp at hz2))); rw [H.out]; have kk2 : ∀ o : Nat, w2.cell? { block := w.heap.size, off := o } = _ := fun o => ((hc2 w.heap.size o (by simp; omega)).trans ((show _ = W.cell? { block := w.heap.size, off := o } from by go_cell).trans (kk o))); have qq2 : ∀ o : Nat, w2.frozen? { block := w.heap.size, off := o } = _ := fun o => ((hf2 w.heap.size o (by simp; omega)).trans ((show _ = W.frozen? { block := w.heap.size, off := o } from by go_cell).trans (qq o))); clear kk qq) | fail))
  all_goals (refine bodyPost_ret (v := labV (0, 0, 0, 0, false, c)) (by simp [results, Try.results18, go_sem, ret3, ret2b, labV, kk2]) rfl ⟨rfl, ?_⟩)
  all_goals (repeat (first | (with_reducible exact Below.refl _ _) | (with_reducible assumption) | refine Below.setCell ?_ (by first | exact Nat.le_refl _ | omega | (simp; done) | (simp; omega)) _ | refine Ba.below_step (by assumption) (by first | exact Nat.le_refl _ | omega | (simp; done) | (simp; omega)) ?_ | apply Below.drew | apply Ba.below_drewN | refine Below.alloc ?_ (by first | exact Nat.le_refl _ | omega | (simp; done) | (simp; omega)) _ | refine Below.setCell ?_ (by first | exact Nat.le_refl _ | omega | (simp; done) | (simp; omega)) _))
set_option maxHeartbeats 8000000 in
theorem Parse_k10 (r : Int) (w : World) (s : ByteArray) (r0 : 0 ≤ r) (r1 : r ≤ 255) (hv : va r = true) (hs : s.size = 11) (x0 x1 x2 x3 x4 x5 x6 x7 x8 x9 x10 c : Int) (g0 : ∀ h : 0 < s.size, ((s[0]'h).toNat : Int) = x0) (l0 : 0 ≤ x0) (m0 : x0 ≤ 255) (g1 : ∀ h : 1 < s.size, ((s[1]'h).toNat : Int) = x1) (l1 : 0 ≤ x1) (m1 : x1 ≤ 255) (g2 : ∀ h : 2 < s.size, ((s[2]'h).toNat : Int) = x2) (l2 : 0 ≤ x2) (m2 : x2 ≤ 255) (g3 : ∀ h : 3 < s.size, ((s[3]'h).toNat : Int) = x3) (l3 : 0 ≤ x3) (m3 : x3 ≤ 255) (g4 : ∀ h : 4 < s.size, ((s[4]'h).toNat : Int) = x4) (l4 : 0 ≤ x4) (m4 : x4 ≤ 255) (g5 : ∀ h : 5 < s.size, ((s[5]'h).toNat : Int) = x5) (l5 : 0 ≤ x5) (m5 : x5 ≤ 255) (g6 : ∀ h : 6 < s.size, ((s[6]'h).toNat : Int) = x6) (l6 : 0 ≤ x6) (m6 : x6 ≤ 255) (g7 : ∀ h : 7 < s.size, ((s[7]'h).toNat : Int) = x7) (l7 : 0 ≤ x7) (m7 : x7 ≤ 255) (g8 : ∀ h : 8 < s.size, ((s[8]'h).toNat : Int) = x8) (l8 : 0 ≤ x8) (m8 : x8 ≤ 255) (g9 : ∀ h : 9 < s.size, ((s[9]'h).toNat : Int) = x9) (l9 : 0 ≤ x9) (m9 : x9 ≤ 255) (g10 : ∀ h : 10 < s.size, ((s[10]'h).toNat : Int) = x10) (l10 : 0 ≤ x10) (m10 : x10 ≤ 255) (q2 : (x2 != 58) = false) (q5 : (x5 != 58) = false) (q8 : (x8 != 58) = true) (q9 : (x8 != 59) = false) (hh : ¬ x0 < 48 ∧ ¬ 57 < x0 ∧ ¬ x1 < 48 ∧ ¬ 57 < x1 ∧ ¬ x3 < 48 ∧ ¬ 57 < x3 ∧ ¬ x4 < 48 ∧ ¬ 57 < x4 ∧ ¬ x6 < 48 ∧ ¬ 57 < x6 ∧ ¬ x7 < 48 ∧ ¬ 57 < x7 ∧ ¬ x9 < 48 ∧ ¬ 57 < x9 ∧ ¬ x10 < 48 ∧ ¬ 57 < x10)
    (H : Hid (chk r (10 * (x0 - 48) + (x1 - 48)) (10 * (x3 - 48) + (x4 - 48)) (10 * (x6 - 48) + (x7 - 48)) (10 * (x9 - 48) + (x10 - 48)) (x8 == 59) = c)) (cz : (c != 0) = true) :
    Calls Try.prog 18 #[.int .u8 r, .string s] w fun e' w' => e' = .returned (labV (0, 0, 0, 0, false, c)) ∧ Below w.heap.size w w' := by
  have t0 : decide (x0 < 48) = false := decide_eq_false (by omega)
  have t1 : decide (57 < x0) = false := decide_eq_false (by omega)
  have t2 : decide (x1 < 48) = false := decide_eq_false (by omega)
  have t3 : decide (57 < x1) = false := decide_eq_false (by omega)
  have t4 : decide (x3 < 48) = false := decide_eq_false (by omega)
  have t5 : decide (57 < x3) = false := decide_eq_false (by omega)
  have t6 : decide (x4 < 48) = false := decide_eq_false (by omega)
  have t7 : decide (57 < x4) = false := decide_eq_false (by omega)
  have t8 : decide (x6 < 48) = false := decide_eq_false (by omega)
  have t9 : decide (57 < x6) = false := decide_eq_false (by omega)
  have t10 : decide (x7 < 48) = false := decide_eq_false (by omega)
  have t11 : decide (57 < x7) = false := decide_eq_false (by omega)
  have t12 : decide (x9 < 48) = false := decide_eq_false (by omega)
  have t13 : decide (57 < x9) = false := decide_eq_false (by omega)
  have t14 : decide (x10 < 48) = false := decide_eq_false (by omega)
  have t15 : decide (57 < x10) = false := decide_eq_false (by omega)
  go_enter Try.func18, Try.ntmps18
  go_wp2_with (first | (((go_at_call 41; refine (Valid_ok _ _ r0 r1).mono ?_; rintro e w1 ⟨rfl, hb1⟩; obtain ⟨hc1, hf1, hz1⟩ := bcell hb1; (try simp at hz1))); have y10 : w.heap.size < w1.heap.size := (by omega); have k : ∀ o : Nat, w1.cell? { block := w.heap.size, off := o } = _ := fun o => (hc1 w.heap.size o (by simp)); have q : ∀ o : Nat, w1.frozen? { block := w.heap.size, off := o } = _ := fun o => (hf1 w.heap.size o (by simp))) | (((go_at_call 47; refine (RValid_bel _ _ r0 r1).mono ?_; rintro e w1 ⟨rfl, hb1⟩; obtain ⟨hc1, hf1, hz1⟩ := bcell hb1; (try simp at hz1))); have y10 : w.heap.size < w1.heap.size := (by omega); have k : ∀ o : Nat, w1.cell? { block := w.heap.size, off := o } = _ := fun o => (hc1 w.heap.size o (by simp)); have q : ∀ o : Nat, w1.frozen? { block := w.heap.size, off := o } = _ := fun o => (hf1 w.heap.size o (by simp))) | fail)
  refine wp_loop_rounds 5 ?_
  rw [rounds_succ]; go_wp2; go_quiet (fail); go_wp2
  rw [rounds_succ]; go_wp2; go_quiet (fail); go_wp2
  rw [rounds_succ]; go_wp2; go_quiet (fail); go_wp2
  rw [rounds_succ]; go_wp2; go_quiet (fail); go_wp2
  rw [rounds_succ]
  go_wp2
  refine wp_gen ?_
  intro W hW
  have n1 : w.heap.size ≠ w1.heap.size := (by omega)
  have a0 : W.cell? ⟨w1.heap.size, 0, none⟩ = some (.int .i64 (10 * (x0 - 48) + (x1 - 48))) := by rw [hW]; go_cell
  have a1 : W.cell? ⟨w1.heap.size, 1, none⟩ = some (.int .i64 (10 * (x3 - 48) + (x4 - 48))) := by rw [hW]; go_cell
  have a2 : W.cell? ⟨w1.heap.size, 2, none⟩ = some (.int .i64 (10 * (x6 - 48) + (x7 - 48))) := by rw [hW]; go_cell
  have a3 : W.cell? ⟨w1.heap.size, 3, none⟩ = some (.int .i64 (10 * (x9 - 48) + (x10 - 48))) := by rw [hW]; go_cell
  have kk : ∀ o : Nat, W.cell? { block := w.heap.size, off := o } = _ := fun o => (show W.cell? { block := w.heap.size, off := o } = w1.cell? { block := w.heap.size, off := o } from by rw [hW]; go_cell).trans (k o)
  have qq : ∀ o : Nat, W.frozen? { block := w.heap.size, off := o } = _ := fun o => (show W.frozen? { block := w.heap.size, off := o } = w1.frozen? { block := w.heap.size, off := o } from by rw [hW]; go_cell).trans (q o)
  have hs : W.heap.size = w1.heap.size + 1 := by rw [hW]; simp
  have hbW : Below w.heap.size w W := by rw [hW]; (repeat (first | (with_reducible exact Below.refl _ _) | (with_reducible assumption) | refine Below.setCell ?_ (by first | exact Nat.le_refl _ | omega | (simp; done) | (simp; omega)) _ | refine Ba.below_step (by assumption) (by first | exact Nat.le_refl _ | omega | (simp; done) | (simp; omega)) ?_ | apply Below.drew | apply Ba.below_drewN | refine Below.alloc ?_ (by first | exact Nat.le_refl _ | omega | (simp; done) | (simp; omega)) _ | refine Below.setCell ?_ (by first | exact Nat.le_refl _ | omega | (simp; done) | (simp; omega)) _))
  clear hW hc1 hf1 k q hb1 g0 g1 g2 g3 g4 g5 g6 g7 g9 g10
  go_region_held3 (fun V => V.cell? ⟨w1.heap.size, 0, none⟩ = some (.int .i64 (10 * (x0 - 48) + (x1 - 48))) ∧ V.cell? ⟨w1.heap.size, 1, none⟩ = some (.int .i64 (10 * (x3 - 48) + (x4 - 48))) ∧ V.cell? ⟨w1.heap.size, 2, none⟩ = some (.int .i64 (10 * (x6 - 48) + (x7 - 48))) ∧ V.cell? ⟨w1.heap.size, 3, none⟩ = some (.int .i64 (10 * (x9 - 48) + (x10 - 48)))) (go_keep) (fail)
  all_goals (go_wp2_with (first | (((go_at_call 28; refine (Check_any _ _ _ _ _ _ _ r0 r1).mono ?_; rintro e w2 ⟨rfl, hb2⟩; obtain ⟨hc2, hf2, hz2⟩ := bcell hb2; (try simp at hz2))); rw [H.out]; have kk2 : ∀ o : Nat, w2.cell? { block := w.heap.size, off := o } = _ := fun o => ((hc2 w.heap.size o (by simp; omega)).trans ((show _ = W.cell? { block := w.heap.size, off := o } from by go_cell).trans (kk o))); have qq2 : ∀ o : Nat, w2.frozen? { block := w.heap.size, off := o } = _ := fun o => ((hf2 w.heap.size o (by simp; omega)).trans ((show _ = W.frozen? { block := w.heap.size, off := o } from by go_cell).trans (qq o))); clear kk qq) | (((go_at_call 29; refine (RCheck_any _ _ _ _ _ _ _ r0 r1).mono ?_; rintro e w2 ⟨rfl, hb2⟩; obtain ⟨hc2, hf2, hz2⟩ := bcell hb2; (try simp at hz2))); rw [H.out]; have kk2 : ∀ o : Nat, w2.cell? { block := w.heap.size, off := o } = _ := fun o => ((hc2 w.heap.size o (by simp; omega)).trans ((show _ = W.cell? { block := w.heap.size, off := o } from by go_cell).trans (kk o))); have qq2 : ∀ o : Nat, w2.frozen? { block := w.heap.size, off := o } = _ := fun o => ((hf2 w.heap.size o (by simp; omega)).trans ((show _ = W.frozen? { block := w.heap.size, off := o } from by go_cell).trans (qq o))); clear kk qq) | fail))
  all_goals (refine bodyPost_ret (v := labV (0, 0, 0, 0, false, c)) (by simp [results, Try.results18, go_sem, ret3, ret2b, labV, kk2]) rfl ⟨rfl, ?_⟩)
  all_goals (repeat (first | (with_reducible exact Below.refl _ _) | (with_reducible assumption) | refine Below.setCell ?_ (by first | exact Nat.le_refl _ | omega | (simp; done) | (simp; omega)) _ | refine Ba.below_step (by assumption) (by first | exact Nat.le_refl _ | omega | (simp; done) | (simp; omega)) ?_ | apply Below.drew | apply Ba.below_drewN | refine Below.alloc ?_ (by first | exact Nat.le_refl _ | omega | (simp; done) | (simp; omega)) _ | refine Below.setCell ?_ (by first | exact Nat.le_refl _ | omega | (simp; done) | (simp; omega)) _))
end Go.Proofs.Ytgllekaanaikhaa.Tb
