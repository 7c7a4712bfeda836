/- Check of both packages. -/
import Derived.Test.YtgllekaanaikhaaChecked
import Derived.Test.YtgllekaanaikhaaBase
import Derived.Test.YtgllekaanaikhaaLa
import Derived.Test.YtgllekaanaikhaaExt
namespace Go.Proofs.Ytgllekaanaikhaa.Tb
open Go.RowKit Ba
set_option linter.unusedVariables false
set_option linter.unusedSimpArgs false

def chk (r h m s f : Int) (d : Bool) : Int :=
  if rerr r d ≠ 0 then rerr r d else if h < 0 ∨ 23 < h ∨ m < 0 ∨ 59 < m ∨ s < 0 ∨ 59 < s ∨ f < 0 ∨ nm r ≤ f then 2 else if s = 0 ∧ m % 10 ≠ 0 ∧ f < dp r d then 6 else 0

theorem Check_e (r h m s f : Int) (d : Bool) (w : World) (r0 : 0 ≤ r) (r1 : r ≤ 255) (he : ¬ rerr r d = 0) :
    Calls Try.prog 28 #[.int .u8 r, .agg #[.int .i64 h, .int .i64 m, .int .i64 s, .int .i64 f, .bool d]] w fun e w' => e = .returned (.int .i64 (rerr r d)) ∧ Below w.heap.size w w' := by
  have hx : (rerr r d != 0) = true := by simpa using he
  go_enter Try.func28, Try.ntmps28
  go_wp2_with (first | ((go_at_call 38; refine (rateError_ok _ _ _ r0 r1).mono ?_; rintro e w1 ⟨rfl, hb1⟩; obtain ⟨hc1, hf1, hz1⟩ := bcell hb1; (try simp at hz1))) | ((go_at_call 44; refine (kind_ok _ _ _ r0 r1).mono ?_; rintro e w1 ⟨rfl, hb1⟩; obtain ⟨hc1, hf1, hz1⟩ := bcell hb1; (try simp at hz1))) | go_in)
  go_ret
  exact ⟨rfl, by (repeat (first | exact Below.refl _ _ | assumption | refine Ba.below_step (by assumption) (by first | exact Nat.le_refl _ | omega | (simp; done) | (simp; omega)) ?_ | apply Below.drew | apply Ba.below_drewN | refine Below.alloc ?_ (by first | exact Nat.le_refl _ | omega | (simp; done) | (simp; omega)) _ | refine Below.setCell ?_ (by first | exact Nat.le_refl _ | omega | (simp; done) | (simp; omega)) _))⟩

theorem Check_r0 (r h m s f : Int) (d : Bool) (w : World) (r0 : 0 ≤ r) (r1 : r ≤ 255) (he : rerr r d = 0) (hh : h < 0) :
    Calls Try.prog 28 #[.int .u8 r, .agg #[.int .i64 h, .int .i64 m, .int .i64 s, .int .i64 f, .bool d]] w fun e w' => e = .returned (.int .i64 2) ∧ Below w.heap.size w w' := by
  have t1 : decide (h < 0) = true := decide_eq_true (by omega)
  have hx : (rerr r d != 0) = false := by simp [he]
  go_enter Try.func28, Try.ntmps28
  go_wp2_with (first | ((go_at_call 38; refine (rateError_ok _ _ _ r0 r1).mono ?_; rintro e w1 ⟨rfl, hb1⟩; obtain ⟨hc1, hf1, hz1⟩ := bcell hb1; (try simp at hz1))) | ((go_at_call 44; refine (kind_ok _ _ _ r0 r1).mono ?_; rintro e w1 ⟨rfl, hb1⟩; obtain ⟨hc1, hf1, hz1⟩ := bcell hb1; (try simp at hz1))) | go_in)
  have c0 : w1.cell? ⟨w.heap.size, 0, none⟩ = some (.int .i64 h) := by rw [hc1 _ _ (by simp)]; simp
  have c1 : w1.cell? ⟨w.heap.size, 1, none⟩ = some (.int .i64 m) := by rw [hc1 _ _ (by simp)]; simp
  have c2 : w1.cell? ⟨w.heap.size, 2, none⟩ = some (.int .i64 s) := by rw [hc1 _ _ (by simp)]; simp
  have c3 : w1.cell? ⟨w.heap.size, 3, none⟩ = some (.int .i64 f) := by rw [hc1 _ _ (by simp)]; simp
  have c4 := hc1 w.heap.size 4 (by simp)
  simp at c4
  have y10 : w.heap.size < w1.heap.size := by omega
  clear hc1 hf1 hz1
  haveI : Nonempty (Ext w1.heap.size w1) := Ext.ne _ _
  have g0 := Ext.cell (B := w1.heap.size) w.heap.size 0 _ y10 c0
  have g1 := Ext.cell (B := w1.heap.size) w.heap.size 1 _ y10 c1
  have g2 := Ext.cell (B := w1.heap.size) w.heap.size 2 _ y10 c2
  have g3 := Ext.cell (B := w1.heap.size) w.heap.size 3 _ y10 c3
  have g4 := Ext.cell (B := w1.heap.size) w.heap.size 4 _ y10 c4
  refine region_ext w1.heap.size (by kernel_rfl) (by kernel_rfl) ?_
  repeat (first | go_big_quiet_step (first | (go_at_call 21; refine ext_call (Nat.le_refl _) (Nominal_ok _ _ r0 r1)) | (go_at_call 45; refine ext_call (Nat.le_refl _) (RNominal_ok _ _ r0 r1))) | quiet_step (first | (go_at_call 21; refine ext_call (Nat.le_refl _) (Nominal_ok _ _ r0 r1)) | (go_at_call 45; refine ext_call (Nat.le_refl _) (RNominal_ok _ _ r0 r1))))
  refine ext_nil ?_
  intro w2 hb2
  clear g0 g1 g2 g3 g4 this
  go_wp2
  go_ret
  exact ⟨rfl, by (repeat (first | exact Below.refl _ _ | assumption | refine Ba.below_step (by assumption) (by first | exact Nat.le_refl _ | omega | (simp; done) | (simp; omega)) ?_ | apply Below.drew | apply Ba.below_drewN | refine Below.alloc ?_ (by first | exact Nat.le_refl _ | omega | (simp; done) | (simp; omega)) _ | refine Below.setCell ?_ (by first | exact Nat.le_refl _ | omega | (simp; done) | (simp; omega)) _))⟩

theorem Check_r1 (r h m s f : Int) (d : Bool) (w : World) (r0 : 0 ≤ r) (r1 : r ≤ 255) (he : rerr r d = 0) (hh : ¬ h < 0 ∧ 23 < h) :
    Calls Try.prog 28 #[.int .u8 r, .agg #[.int .i64 h, .int .i64 m, .int .i64 s, .int .i64 f, .bool d]] w fun e w' => e = .returned (.int .i64 2) ∧ Below w.heap.size w w' := by
  have t2 : decide (h < 0) = false := decide_eq_false (by omega)
  have t3 : decide (23 < h) = true := decide_eq_true (by omega)
  have hx : (rerr r d != 0) = false := by simp [he]
  go_enter Try.func28, Try.ntmps28
  go_wp2_with (first | ((go_at_call 38; refine (rateError_ok _ _ _ r0 r1).mono ?_; rintro e w1 ⟨rfl, hb1⟩; obtain ⟨hc1, hf1, hz1⟩ := bcell hb1; (try simp at hz1))) | ((go_at_call 44; refine (kind_ok _ _ _ r0 r1).mono ?_; rintro e w1 ⟨rfl, hb1⟩; obtain ⟨hc1, hf1, hz1⟩ := bcell hb1; (try simp at hz1))) | go_in)
  have c0 : w1.cell? ⟨w.heap.size, 0, none⟩ = some (.int .i64 h) := by rw [hc1 _ _ (by simp)]; simp
  have c1 : w1.cell? ⟨w.heap.size, 1, none⟩ = some (.int .i64 m) := by rw [hc1 _ _ (by simp)]; simp
  have c2 : w1.cell? ⟨w.heap.size, 2, none⟩ = some (.int .i64 s) := by rw [hc1 _ _ (by simp)]; simp
  have c3 : w1.cell? ⟨w.heap.size, 3, none⟩ = some (.int .i64 f) := by rw [hc1 _ _ (by simp)]; simp
  have c4 := hc1 w.heap.size 4 (by simp)
  simp at c4
  have y10 : w.heap.size < w1.heap.size := by omega
  clear hc1 hf1 hz1
  haveI : Nonempty (Ext w1.heap.size w1) := Ext.ne _ _
  have g0 := Ext.cell (B := w1.heap.size) w.heap.size 0 _ y10 c0
  have g1 := Ext.cell (B := w1.heap.size) w.heap.size 1 _ y10 c1
  have g2 := Ext.cell (B := w1.heap.size) w.heap.size 2 _ y10 c2
  have g3 := Ext.cell (B := w1.heap.size) w.heap.size 3 _ y10 c3
  have g4 := Ext.cell (B := w1.heap.size) w.heap.size 4 _ y10 c4
  refine region_ext w1.heap.size (by kernel_rfl) (by kernel_rfl) ?_
  repeat (first | go_big_quiet_step (first | (go_at_call 21; refine ext_call (Nat.le_refl _) (Nominal_ok _ _ r0 r1)) | (go_at_call 45; refine ext_call (Nat.le_refl _) (RNominal_ok _ _ r0 r1))) | quiet_step (first | (go_at_call 21; refine ext_call (Nat.le_refl _) (Nominal_ok _ _ r0 r1)) | (go_at_call 45; refine ext_call (Nat.le_refl _) (RNominal_ok _ _ r0 r1))))
  refine ext_nil ?_
  intro w2 hb2
  clear g0 g1 g2 g3 g4 this
  go_wp2
  go_ret
  exact ⟨rfl, by (repeat (first | exact Below.refl _ _ | assumption | refine Ba.below_step (by assumption) (by first | exact Nat.le_refl _ | omega | (simp; done) | (simp; omega)) ?_ | apply Below.drew | apply Ba.below_drewN | refine Below.alloc ?_ (by first | exact Nat.le_refl _ | omega | (simp; done) | (simp; omega)) _ | refine Below.setCell ?_ (by first | exact Nat.le_refl _ | omega | (simp; done) | (simp; omega)) _))⟩

theorem Check_r2 (r h m s f : Int) (d : Bool) (w : World) (r0 : 0 ≤ r) (r1 : r ≤ 255) (he : rerr r d = 0) (hh : ¬ h < 0 ∧ ¬ 23 < h ∧ m < 0) :
    Calls Try.prog 28 #[.int .u8 r, .agg #[.int .i64 h, .int .i64 m, .int .i64 s, .int .i64 f, .bool d]] w fun e w' => e = .returned (.int .i64 2) ∧ Below w.heap.size w w' := by
  have t4 : decide (h < 0) = false := decide_eq_false (by omega)
  have t5 : decide (23 < h) = false := decide_eq_false (by omega)
  have t6 : decide (m < 0) = true := decide_eq_true (by omega)
  have hx : (rerr r d != 0) = false := by simp [he]
  go_enter Try.func28, Try.ntmps28
  go_wp2_with (first | ((go_at_call 38; refine (rateError_ok _ _ _ r0 r1).mono ?_; rintro e w1 ⟨rfl, hb1⟩; obtain ⟨hc1, hf1, hz1⟩ := bcell hb1; (try simp at hz1))) | ((go_at_call 44; refine (kind_ok _ _ _ r0 r1).mono ?_; rintro e w1 ⟨rfl, hb1⟩; obtain ⟨hc1, hf1, hz1⟩ := bcell hb1; (try simp at hz1))) | go_in)
  have c0 : w1.cell? ⟨w.heap.size, 0, none⟩ = some (.int .i64 h) := by rw [hc1 _ _ (by simp)]; simp
  have c1 : w1.cell? ⟨w.heap.size, 1, none⟩ = some (.int .i64 m) := by rw [hc1 _ _ (by simp)]; simp
  have c2 : w1.cell? ⟨w.heap.size, 2, none⟩ = some (.int .i64 s) := by rw [hc1 _ _ (by simp)]; simp
  have c3 : w1.cell? ⟨w.heap.size, 3, none⟩ = some (.int .i64 f) := by rw [hc1 _ _ (by simp)]; simp
  have c4 := hc1 w.heap.size 4 (by simp)
  simp at c4
  have y10 : w.heap.size < w1.heap.size := by omega
  clear hc1 hf1 hz1
  haveI : Nonempty (Ext w1.heap.size w1) := Ext.ne _ _
  have g0 := Ext.cell (B := w1.heap.size) w.heap.size 0 _ y10 c0
  have g1 := Ext.cell (B := w1.heap.size) w.heap.size 1 _ y10 c1
  have g2 := Ext.cell (B := w1.heap.size) w.heap.size 2 _ y10 c2
  have g3 := Ext.cell (B := w1.heap.size) w.heap.size 3 _ y10 c3
  have g4 := Ext.cell (B := w1.heap.size) w.heap.size 4 _ y10 c4
  refine region_ext w1.heap.size (by kernel_rfl) (by kernel_rfl) ?_
  repeat (first | go_big_quiet_step (first | (go_at_call 21; refine ext_call (Nat.le_refl _) (Nominal_ok _ _ r0 r1)) | (go_at_call 45; refine ext_call (Nat.le_refl _) (RNominal_ok _ _ r0 r1))) | quiet_step (first | (go_at_call 21; refine ext_call (Nat.le_refl _) (Nominal_ok _ _ r0 r1)) | (go_at_call 45; refine ext_call (Nat.le_refl _) (RNominal_ok _ _ r0 r1))))
  refine ext_nil ?_
  intro w2 hb2
  clear g0 g1 g2 g3 g4 this
  go_wp2
  go_ret
  exact ⟨rfl, by (repeat (first | exact Below.refl _ _ | assumption | refine Ba.below_step (by assumption) (by first | exact Nat.le_refl _ | omega | (simp; done) | (simp; omega)) ?_ | apply Below.drew | apply Ba.below_drewN | refine Below.alloc ?_ (by first | exact Nat.le_refl _ | omega | (simp; done) | (simp; omega)) _ | refine Below.setCell ?_ (by first | exact Nat.le_refl _ | omega | (simp; done) | (simp; omega)) _))⟩

theorem Check_r3 (r h m s f : Int) (d : Bool) (w : World) (r0 : 0 ≤ r) (r1 : r ≤ 255) (he : rerr r d = 0) (hh : ¬ h < 0 ∧ ¬ 23 < h ∧ ¬ m < 0 ∧ 59 < m) :
    Calls Try.prog 28 #[.int .u8 r, .agg #[.int .i64 h, .int .i64 m, .int .i64 s, .int .i64 f, .bool d]] w fun e w' => e = .returned (.int .i64 2) ∧ Below w.heap.size w w' := by
  have t7 : decide (h < 0) = false := decide_eq_false (by omega)
  have t8 : decide (23 < h) = false := decide_eq_false (by omega)
  have t9 : decide (m < 0) = false := decide_eq_false (by omega)
  have t10 : decide (59 < m) = true := decide_eq_true (by omega)
  have hx : (rerr r d != 0) = false := by simp [he]
  go_enter Try.func28, Try.ntmps28
  go_wp2_with (first | ((go_at_call 38; refine (rateError_ok _ _ _ r0 r1).mono ?_; rintro e w1 ⟨rfl, hb1⟩; obtain ⟨hc1, hf1, hz1⟩ := bcell hb1; (try simp at hz1))) | ((go_at_call 44; refine (kind_ok _ _ _ r0 r1).mono ?_; rintro e w1 ⟨rfl, hb1⟩; obtain ⟨hc1, hf1, hz1⟩ := bcell hb1; (try simp at hz1))) | go_in)
  have c0 : w1.cell? ⟨w.heap.size, 0, none⟩ = some (.int .i64 h) := by rw [hc1 _ _ (by simp)]; simp
  have c1 : w1.cell? ⟨w.heap.size, 1, none⟩ = some (.int .i64 m) := by rw [hc1 _ _ (by simp)]; simp
  have c2 : w1.cell? ⟨w.heap.size, 2, none⟩ = some (.int .i64 s) := by rw [hc1 _ _ (by simp)]; simp
  have c3 : w1.cell? ⟨w.heap.size, 3, none⟩ = some (.int .i64 f) := by rw [hc1 _ _ (by simp)]; simp
  have c4 := hc1 w.heap.size 4 (by simp)
  simp at c4
  have y10 : w.heap.size < w1.heap.size := by omega
  clear hc1 hf1 hz1
  haveI : Nonempty (Ext w1.heap.size w1) := Ext.ne _ _
  have g0 := Ext.cell (B := w1.heap.size) w.heap.size 0 _ y10 c0
  have g1 := Ext.cell (B := w1.heap.size) w.heap.size 1 _ y10 c1
  have g2 := Ext.cell (B := w1.heap.size) w.heap.size 2 _ y10 c2
  have g3 := Ext.cell (B := w1.heap.size) w.heap.size 3 _ y10 c3
  have g4 := Ext.cell (B := w1.heap.size) w.heap.size 4 _ y10 c4
  refine region_ext w1.heap.size (by kernel_rfl) (by kernel_rfl) ?_
  repeat (first | go_big_quiet_step (first | (go_at_call 21; refine ext_call (Nat.le_refl _) (Nominal_ok _ _ r0 r1)) | (go_at_call 45; refine ext_call (Nat.le_refl _) (RNominal_ok _ _ r0 r1))) | quiet_step (first | (go_at_call 21; refine ext_call (Nat.le_refl _) (Nominal_ok _ _ r0 r1)) | (go_at_call 45; refine ext_call (Nat.le_refl _) (RNominal_ok _ _ r0 r1))))
  refine ext_nil ?_
  intro w2 hb2
  clear g0 g1 g2 g3 g4 this
  go_wp2
  go_ret
  exact ⟨rfl, by (repeat (first | exact Below.refl _ _ | assumption | refine Ba.below_step (by assumption) (by first | exact Nat.le_refl _ | omega | (simp; done) | (simp; omega)) ?_ | apply Below.drew | apply Ba.below_drewN | refine Below.alloc ?_ (by first | exact Nat.le_refl _ | omega | (simp; done) | (simp; omega)) _ | refine Below.setCell ?_ (by first | exact Nat.le_refl _ | omega | (simp; done) | (simp; omega)) _))⟩

theorem Check_r4 (r h m s f : Int) (d : Bool) (w : World) (r0 : 0 ≤ r) (r1 : r ≤ 255) (he : rerr r d = 0) (hh : ¬ h < 0 ∧ ¬ 23 < h ∧ ¬ m < 0 ∧ ¬ 59 < m ∧ s < 0) :
    Calls Try.prog 28 #[.int .u8 r, .agg #[.int .i64 h, .int .i64 m, .int .i64 s, .int .i64 f, .bool d]] w fun e w' => e = .returned (.int .i64 2) ∧ Below w.heap.size w w' := by
  have t11 : decide (h < 0) = false := decide_eq_false (by omega)
  have t12 : decide (23 < h) = false := decide_eq_false (by omega)
  have t13 : decide (m < 0) = false := decide_eq_false (by omega)
  have t14 : decide (59 < m) = false := decide_eq_false (by omega)
  have t15 : decide (s < 0) = true := decide_eq_true (by omega)
  have hx : (rerr r d != 0) = false := by simp [he]
  go_enter Try.func28, Try.ntmps28
  go_wp2_with (first | ((go_at_call 38; refine (rateError_ok _ _ _ r0 r1).mono ?_; rintro e w1 ⟨rfl, hb1⟩; obtain ⟨hc1, hf1, hz1⟩ := bcell hb1; (try simp at hz1))) | ((go_at_call 44; refine (kind_ok _ _ _ r0 r1).mono ?_; rintro e w1 ⟨rfl, hb1⟩; obtain ⟨hc1, hf1, hz1⟩ := bcell hb1; (try simp at hz1))) | go_in)
  have c0 : w1.cell? ⟨w.heap.size, 0, none⟩ = some (.int .i64 h) := by rw [hc1 _ _ (by simp)]; simp
  have c1 : w1.cell? ⟨w.heap.size, 1, none⟩ = some (.int .i64 m) := by rw [hc1 _ _ (by simp)]; simp
  have c2 : w1.cell? ⟨w.heap.size, 2, none⟩ = some (.int .i64 s) := by rw [hc1 _ _ (by simp)]; simp
  have c3 : w1.cell? ⟨w.heap.size, 3, none⟩ = some (.int .i64 f) := by rw [hc1 _ _ (by simp)]; simp
  have c4 := hc1 w.heap.size 4 (by simp)
  simp at c4
  have y10 : w.heap.size < w1.heap.size := by omega
  clear hc1 hf1 hz1
  haveI : Nonempty (Ext w1.heap.size w1) := Ext.ne _ _
  have g0 := Ext.cell (B := w1.heap.size) w.heap.size 0 _ y10 c0
  have g1 := Ext.cell (B := w1.heap.size) w.heap.size 1 _ y10 c1
  have g2 := Ext.cell (B := w1.heap.size) w.heap.size 2 _ y10 c2
  have g3 := Ext.cell (B := w1.heap.size) w.heap.size 3 _ y10 c3
  have g4 := Ext.cell (B := w1.heap.size) w.heap.size 4 _ y10 c4
  refine region_ext w1.heap.size (by kernel_rfl) (by kernel_rfl) ?_
  repeat (first | go_big_quiet_step (first | (go_at_call 21; refine ext_call (Nat.le_refl _) (Nominal_ok _ _ r0 r1)) | (go_at_call 45; refine ext_call (Nat.le_refl _) (RNominal_ok _ _ r0 r1))) | quiet_step (first | (go_at_call 21; refine ext_call (Nat.le_refl _) (Nominal_ok _ _ r0 r1)) | (go_at_call 45; refine ext_call (Nat.le_refl _) (RNominal_ok _ _ r0 r1))))
  refine ext_nil ?_
  intro w2 hb2
  clear g0 g1 g2 g3 g4 this
  go_wp2
  go_ret
  exact ⟨rfl, by (repeat (first | exact Below.refl _ _ | assumption | refine Ba.below_step (by assumption) (by first | exact Nat.le_refl _ | omega | (simp; done) | (simp; omega)) ?_ | apply Below.drew | apply Ba.below_drewN | refine Below.alloc ?_ (by first | exact Nat.le_refl _ | omega | (simp; done) | (simp; omega)) _ | refine Below.setCell ?_ (by first | exact Nat.le_refl _ | omega | (simp; done) | (simp; omega)) _))⟩

theorem Check_r5 (r h m s f : Int) (d : Bool) (w : World) (r0 : 0 ≤ r) (r1 : r ≤ 255) (he : rerr r d = 0) (hh : ¬ h < 0 ∧ ¬ 23 < h ∧ ¬ m < 0 ∧ ¬ 59 < m ∧ ¬ s < 0 ∧ 59 < s) :
    Calls Try.prog 28 #[.int .u8 r, .agg #[.int .i64 h, .int .i64 m, .int .i64 s, .int .i64 f, .bool d]] w fun e w' => e = .returned (.int .i64 2) ∧ Below w.heap.size w w' := by
  have t16 : decide (h < 0) = false := decide_eq_false (by omega)
  have t17 : decide (23 < h) = false := decide_eq_false (by omega)
  have t18 : decide (m < 0) = false := decide_eq_false (by omega)
  have t19 : decide (59 < m) = false := decide_eq_false (by omega)
  have t20 : decide (s < 0) = false := decide_eq_false (by omega)
  have t21 : decide (59 < s) = true := decide_eq_true (by omega)
  have hx : (rerr r d != 0) = false := by simp [he]
  go_enter Try.func28, Try.ntmps28
  go_wp2_with (first | ((go_at_call 38; refine (rateError_ok _ _ _ r0 r1).mono ?_; rintro e w1 ⟨rfl, hb1⟩; obtain ⟨hc1, hf1, hz1⟩ := bcell hb1; (try simp at hz1))) | ((go_at_call 44; refine (kind_ok _ _ _ r0 r1).mono ?_; rintro e w1 ⟨rfl, hb1⟩; obtain ⟨hc1, hf1, hz1⟩ := bcell hb1; (try simp at hz1))) | go_in)
  have c0 : w1.cell? ⟨w.heap.size, 0, none⟩ = some (.int .i64 h) := by rw [hc1 _ _ (by simp)]; simp
  have c1 : w1.cell? ⟨w.heap.size, 1, none⟩ = some (.int .i64 m) := by rw [hc1 _ _ (by simp)]; simp
  have c2 : w1.cell? ⟨w.heap.size, 2, none⟩ = some (.int .i64 s) := by rw [hc1 _ _ (by simp)]; simp
  have c3 : w1.cell? ⟨w.heap.size, 3, none⟩ = some (.int .i64 f) := by rw [hc1 _ _ (by simp)]; simp
  have c4 := hc1 w.heap.size 4 (by simp)
  simp at c4
  have y10 : w.heap.size < w1.heap.size := by omega
  clear hc1 hf1 hz1
  haveI : Nonempty (Ext w1.heap.size w1) := Ext.ne _ _
  have g0 := Ext.cell (B := w1.heap.size) w.heap.size 0 _ y10 c0
  have g1 := Ext.cell (B := w1.heap.size) w.heap.size 1 _ y10 c1
  have g2 := Ext.cell (B := w1.heap.size) w.heap.size 2 _ y10 c2
  have g3 := Ext.cell (B := w1.heap.size) w.heap.size 3 _ y10 c3
  have g4 := Ext.cell (B := w1.heap.size) w.heap.size 4 _ y10 c4
  refine region_ext w1.heap.size (by kernel_rfl) (by kernel_rfl) ?_
  repeat (first | go_big_quiet_step (first | (go_at_call 21; refine ext_call (Nat.le_refl _) (Nominal_ok _ _ r0 r1)) | (go_at_call 45; refine ext_call (Nat.le_refl _) (RNominal_ok _ _ r0 r1))) | quiet_step (first | (go_at_call 21; refine ext_call (Nat.le_refl _) (Nominal_ok _ _ r0 r1)) | (go_at_call 45; refine ext_call (Nat.le_refl _) (RNominal_ok _ _ r0 r1))))
  refine ext_nil ?_
  intro w2 hb2
  clear g0 g1 g2 g3 g4 this
  go_wp2
  go_ret
  exact ⟨rfl, by (repeat (first | exact Below.refl _ _ | assumption | refine Ba.below_step (by assumption) (by first | exact Nat.le_refl _ | omega | (simp; done) | (simp; omega)) ?_ | apply Below.drew | apply Ba.below_drewN | refine Below.alloc ?_ (by first | exact Nat.le_refl _ | omega | (simp; done) | (simp; omega)) _ | refine Below.setCell ?_ (by first | exact Nat.le_refl _ | omega | (simp; done) | (simp; omega)) _))⟩

theorem Check_r6 (r h m s f : Int) (d : Bool) (w : World) (r0 : 0 ≤ r) (r1 : r ≤ 255) (he : rerr r d = 0) (hh : ¬ h < 0 ∧ ¬ 23 < h ∧ ¬ m < 0 ∧ ¬ 59 < m ∧ ¬ s < 0 ∧ ¬ 59 < s ∧ f < 0) :
    Calls Try.prog 28 #[.int .u8 r, .agg #[.int .i64 h, .int .i64 m, .int .i64 s, .int .i64 f, .bool d]] w fun e w' => e = .returned (.int .i64 2) ∧ Below w.heap.size w w' := by
  have t22 : decide (h < 0) = false := decide_eq_false (by omega)
  have t23 : decide (23 < h) = false := decide_eq_false (by omega)
  have t24 : decide (m < 0) = false := decide_eq_false (by omega)
  have t25 : decide (59 < m) = false := decide_eq_false (by omega)
  have t26 : decide (s < 0) = false := decide_eq_false (by omega)
  have t27 : decide (59 < s) = false := decide_eq_false (by omega)
  have t28 : decide (f < 0) = true := decide_eq_true (by omega)
  have hx : (rerr r d != 0) = false := by simp [he]
  go_enter Try.func28, Try.ntmps28
  go_wp2_with (first | ((go_at_call 38; refine (rateError_ok _ _ _ r0 r1).mono ?_; rintro e w1 ⟨rfl, hb1⟩; obtain ⟨hc1, hf1, hz1⟩ := bcell hb1; (try simp at hz1))) | ((go_at_call 44; refine (kind_ok _ _ _ r0 r1).mono ?_; rintro e w1 ⟨rfl, hb1⟩; obtain ⟨hc1, hf1, hz1⟩ := bcell hb1; (try simp at hz1))) | go_in)
  have c0 : w1.cell? ⟨w.heap.size, 0, none⟩ = some (.int .i64 h) := by rw [hc1 _ _ (by simp)]; simp
  have c1 : w1.cell? ⟨w.heap.size, 1, none⟩ = some (.int .i64 m) := by rw [hc1 _ _ (by simp)]; simp
  have c2 : w1.cell? ⟨w.heap.size, 2, none⟩ = some (.int .i64 s) := by rw [hc1 _ _ (by simp)]; simp
  have c3 : w1.cell? ⟨w.heap.size, 3, none⟩ = some (.int .i64 f) := by rw [hc1 _ _ (by simp)]; simp
  have c4 := hc1 w.heap.size 4 (by simp)
  simp at c4
  have y10 : w.heap.size < w1.heap.size := by omega
  clear hc1 hf1 hz1
  haveI : Nonempty (Ext w1.heap.size w1) := Ext.ne _ _
  have g0 := Ext.cell (B := w1.heap.size) w.heap.size 0 _ y10 c0
  have g1 := Ext.cell (B := w1.heap.size) w.heap.size 1 _ y10 c1
  have g2 := Ext.cell (B := w1.heap.size) w.heap.size 2 _ y10 c2
  have g3 := Ext.cell (B := w1.heap.size) w.heap.size 3 _ y10 c3
  have g4 := Ext.cell (B := w1.heap.size) w.heap.size 4 _ y10 c4
  refine region_ext w1.heap.size (by kernel_rfl) (by kernel_rfl) ?_
  repeat (first | go_big_quiet_step (first | (go_at_call 21; refine ext_call (Nat.le_refl _) (Nominal_ok _ _ r0 r1)) | (go_at_call 45; refine ext_call (Nat.le_refl _) (RNominal_ok _ _ r0 r1))) | quiet_step (first | (go_at_call 21; refine ext_call (Nat.le_refl _) (Nominal_ok _ _ r0 r1)) | (go_at_call 45; refine ext_call (Nat.le_refl _) (RNominal_ok _ _ r0 r1))))
  refine ext_nil ?_
  intro w2 hb2
  clear g0 g1 g2 g3 g4 this
  go_wp2
  go_ret
  exact ⟨rfl, by (repeat (first | exact Below.refl _ _ | assumption | refine Ba.below_step (by assumption) (by first | exact Nat.le_refl _ | omega | (simp; done) | (simp; omega)) ?_ | apply Below.drew | apply Ba.below_drewN | refine Below.alloc ?_ (by first | exact Nat.le_refl _ | omega | (simp; done) | (simp; omega)) _ | refine Below.setCell ?_ (by first | exact Nat.le_refl _ | omega | (simp; done) | (simp; omega)) _))⟩

theorem Check_r7 (r h m s f : Int) (d : Bool) (w : World) (r0 : 0 ≤ r) (r1 : r ≤ 255) (he : rerr r d = 0) (hh : ¬ h < 0 ∧ ¬ 23 < h ∧ ¬ m < 0 ∧ ¬ 59 < m ∧ ¬ s < 0 ∧ ¬ 59 < s ∧ ¬ f < 0 ∧ nm r ≤ f) :
    Calls Try.prog 28 #[.int .u8 r, .agg #[.int .i64 h, .int .i64 m, .int .i64 s, .int .i64 f, .bool d]] w fun e w' => e = .returned (.int .i64 2) ∧ Below w.heap.size w w' := by
  have t29 : decide (h < 0) = false := decide_eq_false (by omega)
  have t30 : decide (23 < h) = false := decide_eq_false (by omega)
  have t31 : decide (m < 0) = false := decide_eq_false (by omega)
  have t32 : decide (59 < m) = false := decide_eq_false (by omega)
  have t33 : decide (s < 0) = false := decide_eq_false (by omega)
  have t34 : decide (59 < s) = false := decide_eq_false (by omega)
  have t35 : decide (f < 0) = false := decide_eq_false (by omega)
  have t36 : decide (nm r ≤ f) = true := decide_eq_true (by omega)
  have hx : (rerr r d != 0) = false := by simp [he]
  go_enter Try.func28, Try.ntmps28
  go_wp2_with (first | ((go_at_call 38; refine (rateError_ok _ _ _ r0 r1).mono ?_; rintro e w1 ⟨rfl, hb1⟩; obtain ⟨hc1, hf1, hz1⟩ := bcell hb1; (try simp at hz1))) | ((go_at_call 44; refine (kind_ok _ _ _ r0 r1).mono ?_; rintro e w1 ⟨rfl, hb1⟩; obtain ⟨hc1, hf1, hz1⟩ := bcell hb1; (try simp at hz1))) | go_in)
  have c0 : w1.cell? ⟨w.heap.size, 0, none⟩ = some (.int .i64 h) := by rw [hc1 _ _ (by simp)]; simp
  have c1 : w1.cell? ⟨w.heap.size, 1, none⟩ = some (.int .i64 m) := by rw [hc1 _ _ (by simp)]; simp
  have c2 : w1.cell? ⟨w.heap.size, 2, none⟩ = some (.int .i64 s) := by rw [hc1 _ _ (by simp)]; simp
  have c3 : w1.cell? ⟨w.heap.size, 3, none⟩ = some (.int .i64 f) := by rw [hc1 _ _ (by simp)]; simp
  have c4 := hc1 w.heap.size 4 (by simp)
  simp at c4
  have y10 : w.heap.size < w1.heap.size := by omega
  clear hc1 hf1 hz1
  haveI : Nonempty (Ext w1.heap.size w1) := Ext.ne _ _
  have g0 := Ext.cell (B := w1.heap.size) w.heap.size 0 _ y10 c0
  have g1 := Ext.cell (B := w1.heap.size) w.heap.size 1 _ y10 c1
  have g2 := Ext.cell (B := w1.heap.size) w.heap.size 2 _ y10 c2
  have g3 := Ext.cell (B := w1.heap.size) w.heap.size 3 _ y10 c3
  have g4 := Ext.cell (B := w1.heap.size) w.heap.size 4 _ y10 c4
  refine region_ext w1.heap.size (by kernel_rfl) (by kernel_rfl) ?_
  repeat (first | go_big_quiet_step (first | (go_at_call 21; refine ext_call (Nat.le_refl _) (Nominal_ok _ _ r0 r1)) | (go_at_call 45; refine ext_call (Nat.le_refl _) (RNominal_ok _ _ r0 r1))) | quiet_step (first | (go_at_call 21; refine ext_call (Nat.le_refl _) (Nominal_ok _ _ r0 r1)) | (go_at_call 45; refine ext_call (Nat.le_refl _) (RNominal_ok _ _ r0 r1))))
  refine ext_nil ?_
  intro w2 hb2
  clear g0 g1 g2 g3 g4 this
  go_wp2
  go_ret
  exact ⟨rfl, by (repeat (first | exact Below.refl _ _ | assumption | refine Ba.below_step (by assumption) (by first | exact Nat.le_refl _ | omega | (simp; done) | (simp; omega)) ?_ | apply Below.drew | apply Ba.below_drewN | refine Below.alloc ?_ (by first | exact Nat.le_refl _ | omega | (simp; done) | (simp; omega)) _ | refine Below.setCell ?_ (by first | exact Nat.le_refl _ | omega | (simp; done) | (simp; omega)) _))⟩

set_option maxHeartbeats 1000000 in
theorem Check_d0 (r h m s f : Int) (d : Bool) (w : World) (r0 : 0 ≤ r) (r1 : r ≤ 255) (he : rerr r d = 0) (hh : 0 ≤ h ∧ h ≤ 23 ∧ 0 ≤ m ∧ m ≤ 59 ∧ 0 ≤ s ∧ s ≤ 59 ∧ 0 ≤ f ∧ f < nm r) (hd : ¬ s = 0) :
    Calls Try.prog 28 #[.int .u8 r, .agg #[.int .i64 h, .int .i64 m, .int .i64 s, .int .i64 f, .bool d]] w fun e w' => e = .returned (.int .i64 0) ∧ Below w.heap.size w w' := by
  have t37 : decide (h < 0) = false := decide_eq_false (by omega)
  have t38 : decide (23 < h) = false := decide_eq_false (by omega)
  have t39 : decide (m < 0) = false := decide_eq_false (by omega)
  have t40 : decide (59 < m) = false := decide_eq_false (by omega)
  have t41 : decide (s < 0) = false := decide_eq_false (by omega)
  have t42 : decide (59 < s) = false := decide_eq_false (by omega)
  have t43 : decide (f < 0) = false := decide_eq_false (by omega)
  have t44 : decide (nm r ≤ f) = false := decide_eq_false (by omega)
  obtain ⟨a0, a1, m0, m1, s0, s1, f0, f1⟩ := hh
  have e1 : m.tmod 10 = m % 10 := Int.tmod_eq_emod_of_nonneg m0
  have u1 : (s == 0) = false := (by simpa using hd)
  have hx : (rerr r d != 0) = false := by simp [he]
  go_enter Try.func28, Try.ntmps28
  go_wp2_with (first | ((go_at_call 38; refine (rateError_ok _ _ _ r0 r1).mono ?_; rintro e w1 ⟨rfl, hb1⟩; obtain ⟨hc1, hf1, hz1⟩ := bcell hb1; (try simp at hz1))) | ((go_at_call 44; refine (kind_ok _ _ _ r0 r1).mono ?_; rintro e w1 ⟨rfl, hb1⟩; obtain ⟨hc1, hf1, hz1⟩ := bcell hb1; (try simp at hz1))) | go_in)
  have c0 : w1.cell? ⟨w.heap.size, 0, none⟩ = some (.int .i64 h) := by rw [hc1 _ _ (by simp)]; simp
  have c1 : w1.cell? ⟨w.heap.size, 1, none⟩ = some (.int .i64 m) := by rw [hc1 _ _ (by simp)]; simp
  have c2 : w1.cell? ⟨w.heap.size, 2, none⟩ = some (.int .i64 s) := by rw [hc1 _ _ (by simp)]; simp
  have c3 : w1.cell? ⟨w.heap.size, 3, none⟩ = some (.int .i64 f) := by rw [hc1 _ _ (by simp)]; simp
  have c4 := hc1 w.heap.size 4 (by simp)
  simp at c4
  have y10 : w.heap.size < w1.heap.size := by omega
  clear hc1 hf1 hz1
  haveI : Nonempty (Ext w1.heap.size w1) := Ext.ne _ _
  have g0 := Ext.cell (B := w1.heap.size) w.heap.size 0 _ y10 c0
  have g1 := Ext.cell (B := w1.heap.size) w.heap.size 1 _ y10 c1
  have g2 := Ext.cell (B := w1.heap.size) w.heap.size 2 _ y10 c2
  have g3 := Ext.cell (B := w1.heap.size) w.heap.size 3 _ y10 c3
  have g4 := Ext.cell (B := w1.heap.size) w.heap.size 4 _ y10 c4
  refine region_ext w1.heap.size (by kernel_rfl) (by kernel_rfl) ?_
  repeat (first | go_big_quiet_step (first | (go_at_call 21; refine ext_call (Nat.le_refl _) (Nominal_ok _ _ r0 r1)) | (go_at_call 45; refine ext_call (Nat.le_refl _) (RNominal_ok _ _ r0 r1))) | quiet_step (first | (go_at_call 21; refine ext_call (Nat.le_refl _) (Nominal_ok _ _ r0 r1)) | (go_at_call 45; refine ext_call (Nat.le_refl _) (RNominal_ok _ _ r0 r1))))
  refine ext_nil ?_
  intro w2 hb2
  clear g0 g1 g2 g3 g4 this
  have y20 : w.heap.size < w2.heap.size := Nat.lt_of_lt_of_le y10 hb2.size
  have c0' : w2.cell? ⟨w.heap.size, 0, none⟩ = _ := (hb2.cell (p := ⟨w.heap.size, 0, none⟩) y10).trans c0
  have c1' : w2.cell? ⟨w.heap.size, 1, none⟩ = _ := (hb2.cell (p := ⟨w.heap.size, 1, none⟩) y10).trans c1
  have c2' : w2.cell? ⟨w.heap.size, 2, none⟩ = _ := (hb2.cell (p := ⟨w.heap.size, 2, none⟩) y10).trans c2
  have c3' : w2.cell? ⟨w.heap.size, 3, none⟩ = _ := (hb2.cell (p := ⟨w.heap.size, 3, none⟩) y10).trans c3
  have c4' : w2.cell? ⟨w.heap.size, 4, none⟩ = _ := (hb2.cell (p := ⟨w.heap.size, 4, none⟩) y10).trans c4
  clear c0 c1 c2 c3 c4
  go_wp2
  haveI : Nonempty (Ext w2.heap.size w2) := Ext.ne _ _
  have g0 := Ext.cell (B := w2.heap.size) w.heap.size 0 _ y20 c0'
  have g1 := Ext.cell (B := w2.heap.size) w.heap.size 1 _ y20 c1'
  have g2 := Ext.cell (B := w2.heap.size) w.heap.size 2 _ y20 c2'
  have g3 := Ext.cell (B := w2.heap.size) w.heap.size 3 _ y20 c3'
  have g4 := Ext.cell (B := w2.heap.size) w.heap.size 4 _ y20 c4'
  refine region_ext w2.heap.size (by kernel_rfl) (by kernel_rfl) ?_
  repeat (first | go_big_quiet_step (first | (go_at_call 39; refine ext_same (dropped_ok _ _ _ r0 r1)) | (go_at_call 46; refine ext_same (Dropped_ok _ _ r0 r1))) | quiet_step (first | (go_at_call 39; refine ext_same (dropped_ok _ _ _ r0 r1)) | (go_at_call 46; refine ext_same (Dropped_ok _ _ r0 r1))))

  refine ext_nil ?_
  intro w3 hb3
  clear g0 g1 g2 g3 g4 this
  go_wp2
  go_ret
  exact ⟨rfl, by (repeat (first | exact Below.refl _ _ | assumption | refine Ba.below_step (by assumption) (by first | exact Nat.le_refl _ | omega | (simp; done) | (simp; omega)) ?_ | apply Below.drew | apply Ba.below_drewN | refine Below.alloc ?_ (by first | exact Nat.le_refl _ | omega | (simp; done) | (simp; omega)) _ | refine Below.setCell ?_ (by first | exact Nat.le_refl _ | omega | (simp; done) | (simp; omega)) _))⟩

set_option maxHeartbeats 1000000 in
theorem Check_d1 (r h m s f : Int) (d : Bool) (w : World) (r0 : 0 ≤ r) (r1 : r ≤ 255) (he : rerr r d = 0) (hh : 0 ≤ h ∧ h ≤ 23 ∧ 0 ≤ m ∧ m ≤ 59 ∧ 0 ≤ s ∧ s ≤ 59 ∧ 0 ≤ f ∧ f < nm r) (hd : m % 10 = 0) :
    Calls Try.prog 28 #[.int .u8 r, .agg #[.int .i64 h, .int .i64 m, .int .i64 0, .int .i64 f, .bool d]] w fun e w' => e = .returned (.int .i64 0) ∧ Below w.heap.size w w' := by
  have t45 : decide (h < 0) = false := decide_eq_false (by omega)
  have t46 : decide (23 < h) = false := decide_eq_false (by omega)
  have t47 : decide (m < 0) = false := decide_eq_false (by omega)
  have t48 : decide (59 < m) = false := decide_eq_false (by omega)
  have t49 : decide (0 < 0) = false := decide_eq_false (by omega)
  have t50 : decide (59 < 0) = false := decide_eq_false (by omega)
  have t51 : decide (f < 0) = false := decide_eq_false (by omega)
  have t52 : decide (nm r ≤ f) = false := decide_eq_false (by omega)
  obtain ⟨a0, a1, m0, m1, s0, s1, f0, f1⟩ := hh
  have e1 : m.tmod 10 = m % 10 := Int.tmod_eq_emod_of_nonneg m0
  have u2 : (m % 10 != 0) = false := (by simpa using hd)
  have hx : (rerr r d != 0) = false := by simp [he]
  go_enter Try.func28, Try.ntmps28
  go_wp2_with (first | ((go_at_call 38; refine (rateError_ok _ _ _ r0 r1).mono ?_; rintro e w1 ⟨rfl, hb1⟩; obtain ⟨hc1, hf1, hz1⟩ := bcell hb1; (try simp at hz1))) | ((go_at_call 44; refine (kind_ok _ _ _ r0 r1).mono ?_; rintro e w1 ⟨rfl, hb1⟩; obtain ⟨hc1, hf1, hz1⟩ := bcell hb1; (try simp at hz1))) | go_in)
  have c0 : w1.cell? ⟨w.heap.size, 0, none⟩ = some (.int .i64 h) := by rw [hc1 _ _ (by simp)]; simp
  have c1 : w1.cell? ⟨w.heap.size, 1, none⟩ = some (.int .i64 m) := by rw [hc1 _ _ (by simp)]; simp
  have c2 : w1.cell? ⟨w.heap.size, 2, none⟩ = some (.int .i64 0) := by rw [hc1 _ _ (by simp)]; simp
  have c3 : w1.cell? ⟨w.heap.size, 3, none⟩ = some (.int .i64 f) := by rw [hc1 _ _ (by simp)]; simp
  have c4 := hc1 w.heap.size 4 (by simp)
  simp at c4
  have y10 : w.heap.size < w1.heap.size := by omega
  clear hc1 hf1 hz1
  haveI : Nonempty (Ext w1.heap.size w1) := Ext.ne _ _
  have g0 := Ext.cell (B := w1.heap.size) w.heap.size 0 _ y10 c0
  have g1 := Ext.cell (B := w1.heap.size) w.heap.size 1 _ y10 c1
  have g2 := Ext.cell (B := w1.heap.size) w.heap.size 2 _ y10 c2
  have g3 := Ext.cell (B := w1.heap.size) w.heap.size 3 _ y10 c3
  have g4 := Ext.cell (B := w1.heap.size) w.heap.size 4 _ y10 c4
  refine region_ext w1.heap.size (by kernel_rfl) (by kernel_rfl) ?_
  repeat (first | go_big_quiet_step (first | (go_at_call 21; refine ext_call (Nat.le_refl _) (Nominal_ok _ _ r0 r1)) | (go_at_call 45; refine ext_call (Nat.le_refl _) (RNominal_ok _ _ r0 r1))) | quiet_step (first | (go_at_call 21; refine ext_call (Nat.le_refl _) (Nominal_ok _ _ r0 r1)) | (go_at_call 45; refine ext_call (Nat.le_refl _) (RNominal_ok _ _ r0 r1))))
  refine ext_nil ?_
  intro w2 hb2
  clear g0 g1 g2 g3 g4 this
  have y20 : w.heap.size < w2.heap.size := Nat.lt_of_lt_of_le y10 hb2.size
  have c0' : w2.cell? ⟨w.heap.size, 0, none⟩ = _ := (hb2.cell (p := ⟨w.heap.size, 0, none⟩) y10).trans c0
  have c1' : w2.cell? ⟨w.heap.size, 1, none⟩ = _ := (hb2.cell (p := ⟨w.heap.size, 1, none⟩) y10).trans c1
  have c2' : w2.cell? ⟨w.heap.size, 2, none⟩ = _ := (hb2.cell (p := ⟨w.heap.size, 2, none⟩) y10).trans c2
  have c3' : w2.cell? ⟨w.heap.size, 3, none⟩ = _ := (hb2.cell (p := ⟨w.heap.size, 3, none⟩) y10).trans c3
  have c4' : w2.cell? ⟨w.heap.size, 4, none⟩ = _ := (hb2.cell (p := ⟨w.heap.size, 4, none⟩) y10).trans c4
  clear c0 c1 c2 c3 c4
  go_wp2
  haveI : Nonempty (Ext w2.heap.size w2) := Ext.ne _ _
  have g0 := Ext.cell (B := w2.heap.size) w.heap.size 0 _ y20 c0'
  have g1 := Ext.cell (B := w2.heap.size) w.heap.size 1 _ y20 c1'
  have g2 := Ext.cell (B := w2.heap.size) w.heap.size 2 _ y20 c2'
  have g3 := Ext.cell (B := w2.heap.size) w.heap.size 3 _ y20 c3'
  have g4 := Ext.cell (B := w2.heap.size) w.heap.size 4 _ y20 c4'
  refine region_ext w2.heap.size (by kernel_rfl) (by kernel_rfl) ?_
  repeat (first | go_big_quiet_step (first | (go_at_call 39; refine ext_same (dropped_ok _ _ _ r0 r1)) | (go_at_call 46; refine ext_same (Dropped_ok _ _ r0 r1))) | quiet_step (first | (go_at_call 39; refine ext_same (dropped_ok _ _ _ r0 r1)) | (go_at_call 46; refine ext_same (Dropped_ok _ _ r0 r1))))

  refine ext_nil ?_
  intro w3 hb3
  clear g0 g1 g2 g3 g4 this
  go_wp2
  go_ret
  exact ⟨rfl, by (repeat (first | exact Below.refl _ _ | assumption | refine Ba.below_step (by assumption) (by first | exact Nat.le_refl _ | omega | (simp; done) | (simp; omega)) ?_ | apply Below.drew | apply Ba.below_drewN | refine Below.alloc ?_ (by first | exact Nat.le_refl _ | omega | (simp; done) | (simp; omega)) _ | refine Below.setCell ?_ (by first | exact Nat.le_refl _ | omega | (simp; done) | (simp; omega)) _))⟩

set_option maxHeartbeats 1000000 in
theorem Check_d2 (r h m s f : Int) (d : Bool) (w : World) (r0 : 0 ≤ r) (r1 : r ≤ 255) (he : rerr r d = 0) (hh : 0 ≤ h ∧ h ≤ 23 ∧ 0 ≤ m ∧ m ≤ 59 ∧ 0 ≤ s ∧ s ≤ 59 ∧ 0 ≤ f ∧ f < nm r) (hd : ¬ m % 10 = 0 ∧ ¬ f < dp r d) :
    Calls Try.prog 28 #[.int .u8 r, .agg #[.int .i64 h, .int .i64 m, .int .i64 0, .int .i64 f, .bool d]] w fun e w' => e = .returned (.int .i64 0) ∧ Below w.heap.size w w' := by
  have t53 : decide (h < 0) = false := decide_eq_false (by omega)
  have t54 : decide (23 < h) = false := decide_eq_false (by omega)
  have t55 : decide (m < 0) = false := decide_eq_false (by omega)
  have t56 : decide (59 < m) = false := decide_eq_false (by omega)
  have t57 : decide (0 < 0) = false := decide_eq_false (by omega)
  have t58 : decide (59 < 0) = false := decide_eq_false (by omega)
  have t59 : decide (f < 0) = false := decide_eq_false (by omega)
  have t60 : decide (nm r ≤ f) = false := decide_eq_false (by omega)
  obtain ⟨a0, a1, m0, m1, s0, s1, f0, f1⟩ := hh
  have e1 : m.tmod 10 = m % 10 := Int.tmod_eq_emod_of_nonneg m0
  have u2 : (m % 10 != 0) = true := (by simpa using hd.1); have u3 : decide (f < dp r d) = false := decide_eq_false hd.2
  have hx : (rerr r d != 0) = false := by simp [he]
  go_enter Try.func28, Try.ntmps28
  go_wp2_with (first | ((go_at_call 38; refine (rateError_ok _ _ _ r0 r1).mono ?_; rintro e w1 ⟨rfl, hb1⟩; obtain ⟨hc1, hf1, hz1⟩ := bcell hb1; (try simp at hz1))) | ((go_at_call 44; refine (kind_ok _ _ _ r0 r1).mono ?_; rintro e w1 ⟨rfl, hb1⟩; obtain ⟨hc1, hf1, hz1⟩ := bcell hb1; (try simp at hz1))) | go_in)
  have c0 : w1.cell? ⟨w.heap.size, 0, none⟩ = some (.int .i64 h) := by rw [hc1 _ _ (by simp)]; simp
  have c1 : w1.cell? ⟨w.heap.size, 1, none⟩ = some (.int .i64 m) := by rw [hc1 _ _ (by simp)]; simp
  have c2 : w1.cell? ⟨w.heap.size, 2, none⟩ = some (.int .i64 0) := by rw [hc1 _ _ (by simp)]; simp
  have c3 : w1.cell? ⟨w.heap.size, 3, none⟩ = some (.int .i64 f) := by rw [hc1 _ _ (by simp)]; simp
  have c4 := hc1 w.heap.size 4 (by simp)
  simp at c4
  have y10 : w.heap.size < w1.heap.size := by omega
  clear hc1 hf1 hz1
  haveI : Nonempty (Ext w1.heap.size w1) := Ext.ne _ _
  have g0 := Ext.cell (B := w1.heap.size) w.heap.size 0 _ y10 c0
  have g1 := Ext.cell (B := w1.heap.size) w.heap.size 1 _ y10 c1
  have g2 := Ext.cell (B := w1.heap.size) w.heap.size 2 _ y10 c2
  have g3 := Ext.cell (B := w1.heap.size) w.heap.size 3 _ y10 c3
  have g4 := Ext.cell (B := w1.heap.size) w.heap.size 4 _ y10 c4
  refine region_ext w1.heap.size (by kernel_rfl) (by kernel_rfl) ?_
  repeat (first | go_big_quiet_step (first | (go_at_call 21; refine ext_call (Nat.le_refl _) (Nominal_ok _ _ r0 r1)) | (go_at_call 45; refine ext_call (Nat.le_refl _) (RNominal_ok _ _ r0 r1))) | quiet_step (first | (go_at_call 21; refine ext_call (Nat.le_refl _) (Nominal_ok _ _ r0 r1)) | (go_at_call 45; refine ext_call (Nat.le_refl _) (RNominal_ok _ _ r0 r1))))
  refine ext_nil ?_
  intro w2 hb2
  clear g0 g1 g2 g3 g4 this
  have y20 : w.heap.size < w2.heap.size := Nat.lt_of_lt_of_le y10 hb2.size
  have c0' : w2.cell? ⟨w.heap.size, 0, none⟩ = _ := (hb2.cell (p := ⟨w.heap.size, 0, none⟩) y10).trans c0
  have c1' : w2.cell? ⟨w.heap.size, 1, none⟩ = _ := (hb2.cell (p := ⟨w.heap.size, 1, none⟩) y10).trans c1
  have c2' : w2.cell? ⟨w.heap.size, 2, none⟩ = _ := (hb2.cell (p := ⟨w.heap.size, 2, none⟩) y10).trans c2
  have c3' : w2.cell? ⟨w.heap.size, 3, none⟩ = _ := (hb2.cell (p := ⟨w.heap.size, 3, none⟩) y10).trans c3
  have c4' : w2.cell? ⟨w.heap.size, 4, none⟩ = _ := (hb2.cell (p := ⟨w.heap.size, 4, none⟩) y10).trans c4
  clear c0 c1 c2 c3 c4
  go_wp2
  haveI : Nonempty (Ext w2.heap.size w2) := Ext.ne _ _
  have g0 := Ext.cell (B := w2.heap.size) w.heap.size 0 _ y20 c0'
  have g1 := Ext.cell (B := w2.heap.size) w.heap.size 1 _ y20 c1'
  have g2 := Ext.cell (B := w2.heap.size) w.heap.size 2 _ y20 c2'
  have g3 := Ext.cell (B := w2.heap.size) w.heap.size 3 _ y20 c3'
  have g4 := Ext.cell (B := w2.heap.size) w.heap.size 4 _ y20 c4'
  refine region_ext w2.heap.size (by kernel_rfl) (by kernel_rfl) ?_
  repeat (first | go_big_quiet_step (first | (go_at_call 39; refine ext_same (dropped_ok _ _ _ r0 r1)) | (go_at_call 46; refine ext_same (Dropped_ok _ _ r0 r1))) | quiet_step (first | (go_at_call 39; refine ext_same (dropped_ok _ _ _ r0 r1)) | (go_at_call 46; refine ext_same (Dropped_ok _ _ r0 r1))))

  refine ext_nil ?_
  intro w3 hb3
  clear g0 g1 g2 g3 g4 this
  go_wp2
  go_ret
  exact ⟨rfl, by (repeat (first | exact Below.refl _ _ | assumption | refine Ba.below_step (by assumption) (by first | exact Nat.le_refl _ | omega | (simp; done) | (simp; omega)) ?_ | apply Below.drew | apply Ba.below_drewN | refine Below.alloc ?_ (by first | exact Nat.le_refl _ | omega | (simp; done) | (simp; omega)) _ | refine Below.setCell ?_ (by first | exact Nat.le_refl _ | omega | (simp; done) | (simp; omega)) _))⟩

set_option maxHeartbeats 1000000 in
theorem Check_d3 (r h m s f : Int) (d : Bool) (w : World) (r0 : 0 ≤ r) (r1 : r ≤ 255) (he : rerr r d = 0) (hh : 0 ≤ h ∧ h ≤ 23 ∧ 0 ≤ m ∧ m ≤ 59 ∧ 0 ≤ s ∧ s ≤ 59 ∧ 0 ≤ f ∧ f < nm r) (hd : ¬ m % 10 = 0 ∧ f < dp r d) :
    Calls Try.prog 28 #[.int .u8 r, .agg #[.int .i64 h, .int .i64 m, .int .i64 0, .int .i64 f, .bool d]] w fun e w' => e = .returned (.int .i64 6) ∧ Below w.heap.size w w' := by
  have t61 : decide (h < 0) = false := decide_eq_false (by omega)
  have t62 : decide (23 < h) = false := decide_eq_false (by omega)
  have t63 : decide (m < 0) = false := decide_eq_false (by omega)
  have t64 : decide (59 < m) = false := decide_eq_false (by omega)
  have t65 : decide (0 < 0) = false := decide_eq_false (by omega)
  have t66 : decide (59 < 0) = false := decide_eq_false (by omega)
  have t67 : decide (f < 0) = false := decide_eq_false (by omega)
  have t68 : decide (nm r ≤ f) = false := decide_eq_false (by omega)
  obtain ⟨a0, a1, m0, m1, s0, s1, f0, f1⟩ := hh
  have e1 : m.tmod 10 = m % 10 := Int.tmod_eq_emod_of_nonneg m0
  have u2 : (m % 10 != 0) = true := (by simpa using hd.1); have u3 : decide (f < dp r d) = true := decide_eq_true hd.2
  have hx : (rerr r d != 0) = false := by simp [he]
  go_enter Try.func28, Try.ntmps28
  go_wp2_with (first | ((go_at_call 38; refine (rateError_ok _ _ _ r0 r1).mono ?_; rintro e w1 ⟨rfl, hb1⟩; obtain ⟨hc1, hf1, hz1⟩ := bcell hb1; (try simp at hz1))) | ((go_at_call 44; refine (kind_ok _ _ _ r0 r1).mono ?_; rintro e w1 ⟨rfl, hb1⟩; obtain ⟨hc1, hf1, hz1⟩ := bcell hb1; (try simp at hz1))) | go_in)
  have c0 : w1.cell? ⟨w.heap.size, 0, none⟩ = some (.int .i64 h) := by rw [hc1 _ _ (by simp)]; simp
  have c1 : w1.cell? ⟨w.heap.size, 1, none⟩ = some (.int .i64 m) := by rw [hc1 _ _ (by simp)]; simp
  have c2 : w1.cell? ⟨w.heap.size, 2, none⟩ = some (.int .i64 0) := by rw [hc1 _ _ (by simp)]; simp
  have c3 : w1.cell? ⟨w.heap.size, 3, none⟩ = some (.int .i64 f) := by rw [hc1 _ _ (by simp)]; simp
  have c4 := hc1 w.heap.size 4 (by simp)
  simp at c4
  have y10 : w.heap.size < w1.heap.size := by omega
  clear hc1 hf1 hz1
  haveI : Nonempty (Ext w1.heap.size w1) := Ext.ne _ _
  have g0 := Ext.cell (B := w1.heap.size) w.heap.size 0 _ y10 c0
  have g1 := Ext.cell (B := w1.heap.size) w.heap.size 1 _ y10 c1
  have g2 := Ext.cell (B := w1.heap.size) w.heap.size 2 _ y10 c2
  have g3 := Ext.cell (B := w1.heap.size) w.heap.size 3 _ y10 c3
  have g4 := Ext.cell (B := w1.heap.size) w.heap.size 4 _ y10 c4
  refine region_ext w1.heap.size (by kernel_rfl) (by kernel_rfl) ?_
  repeat (first | go_big_quiet_step (first | (go_at_call 21; refine ext_call (Nat.le_refl _) (Nominal_ok _ _ r0 r1)) | (go_at_call 45; refine ext_call (Nat.le_refl _) (RNominal_ok _ _ r0 r1))) | quiet_step (first | (go_at_call 21; refine ext_call (Nat.le_refl _) (Nominal_ok _ _ r0 r1)) | (go_at_call 45; refine ext_call (Nat.le_refl _) (RNominal_ok _ _ r0 r1))))
  refine ext_nil ?_
  intro w2 hb2
  clear g0 g1 g2 g3 g4 this
  have y20 : w.heap.size < w2.heap.size := Nat.lt_of_lt_of_le y10 hb2.size
  have c0' : w2.cell? ⟨w.heap.size, 0, none⟩ = _ := (hb2.cell (p := ⟨w.heap.size, 0, none⟩) y10).trans c0
  have c1' : w2.cell? ⟨w.heap.size, 1, none⟩ = _ := (hb2.cell (p := ⟨w.heap.size, 1, none⟩) y10).trans c1
  have c2' : w2.cell? ⟨w.heap.size, 2, none⟩ = _ := (hb2.cell (p := ⟨w.heap.size, 2, none⟩) y10).trans c2
  have c3' : w2.cell? ⟨w.heap.size, 3, none⟩ = _ := (hb2.cell (p := ⟨w.heap.size, 3, none⟩) y10).trans c3
  have c4' : w2.cell? ⟨w.heap.size, 4, none⟩ = _ := (hb2.cell (p := ⟨w.heap.size, 4, none⟩) y10).trans c4
  clear c0 c1 c2 c3 c4
  go_wp2
  haveI : Nonempty (Ext w2.heap.size w2) := Ext.ne _ _
  have g0 := Ext.cell (B := w2.heap.size) w.heap.size 0 _ y20 c0'
  have g1 := Ext.cell (B := w2.heap.size) w.heap.size 1 _ y20 c1'
  have g2 := Ext.cell (B := w2.heap.size) w.heap.size 2 _ y20 c2'
  have g3 := Ext.cell (B := w2.heap.size) w.heap.size 3 _ y20 c3'
  have g4 := Ext.cell (B := w2.heap.size) w.heap.size 4 _ y20 c4'
  refine region_ext w2.heap.size (by kernel_rfl) (by kernel_rfl) ?_
  repeat (first | go_big_quiet_step (first | (go_at_call 39; refine ext_same (dropped_ok _ _ _ r0 r1)) | (go_at_call 46; refine ext_same (Dropped_ok _ _ r0 r1))) | quiet_step (first | (go_at_call 39; refine ext_same (dropped_ok _ _ _ r0 r1)) | (go_at_call 46; refine ext_same (Dropped_ok _ _ r0 r1))))

  refine ext_nil ?_
  intro w3 hb3
  clear g0 g1 g2 g3 g4 this
  go_wp2
  go_ret
  exact ⟨rfl, by (repeat (first | exact Below.refl _ _ | assumption | refine Ba.below_step (by assumption) (by first | exact Nat.le_refl _ | omega | (simp; done) | (simp; omega)) ?_ | apply Below.drew | apply Ba.below_drewN | refine Below.alloc ?_ (by first | exact Nat.le_refl _ | omega | (simp; done) | (simp; omega)) _ | refine Below.setCell ?_ (by first | exact Nat.le_refl _ | omega | (simp; done) | (simp; omega)) _))⟩

theorem Check_any (r h m s f : Int) (d : Bool) (w : World) (r0 : 0 ≤ r) (r1 : r ≤ 255) :
    Calls Try.prog 28 #[.int .u8 r, .agg #[.int .i64 h, .int .i64 m, .int .i64 s, .int .i64 f, .bool d]] w fun e w' => e = .returned (.int .i64 (chk r h m s f d)) ∧ Below w.heap.size w w' := by
  unfold chk
  split
  · rename_i he; exact Check_e r h m s f d w r0 r1 he
  · rename_i he
    have he : rerr r d = 0 := by omega
    split
    · by_cases h0 : h < 0; (exact Check_r0 r h m s f d w r0 r1 he h0)
      by_cases h1 : 23 < h; (exact Check_r1 r h m s f d w r0 r1 he ⟨h0, h1⟩)
      by_cases h2 : m < 0; (exact Check_r2 r h m s f d w r0 r1 he ⟨h0, h1, h2⟩)
      by_cases h3 : 59 < m; (exact Check_r3 r h m s f d w r0 r1 he ⟨h0, h1, h2, h3⟩)
      by_cases h4 : s < 0; (exact Check_r4 r h m s f d w r0 r1 he ⟨h0, h1, h2, h3, h4⟩)
      by_cases h5 : 59 < s; (exact Check_r5 r h m s f d w r0 r1 he ⟨h0, h1, h2, h3, h4, h5⟩)
      by_cases h6 : f < 0; (exact Check_r6 r h m s f d w r0 r1 he ⟨h0, h1, h2, h3, h4, h5, h6⟩)
      exact Check_r7 r h m s f d w r0 r1 he ⟨h0, h1, h2, h3, h4, h5, h6, by omega⟩
    · have hh : 0 ≤ h ∧ h ≤ 23 ∧ 0 ≤ m ∧ m ≤ 59 ∧ 0 ≤ s ∧ s ≤ 59 ∧ 0 ≤ f ∧ f < nm r := by omega
      split
      · rename_i hd; obtain ⟨h0, hd⟩ := hd; subst h0; exact Check_d3 r h m 0 f d w r0 r1 he hh hd
      · by_cases h0 : s = 0
        · subst h0
          by_cases h1 : m % 10 = 0
          · exact Check_d1 r h m 0 f d w r0 r1 he hh h1
          · exact Check_d2 r h m 0 f d w r0 r1 he hh ⟨h1, by omega⟩
        · exact Check_d0 r h m s f d w r0 r1 he hh h0
theorem RCheck_e (r h m s f : Int) (d : Bool) (w : World) (r0 : 0 ≤ r) (r1 : r ≤ 255) (he : ¬ rerr r d = 0) :
    Calls Try.prog 29 #[.int .u8 r, .agg #[.int .i64 h, .int .i64 m, .int .i64 s, .int .i64 f, .bool d]] w fun e w' => e = .returned (.int .i64 (rerr r d)) ∧ Below w.heap.size w w' := by
  have hx : (rerr r d != 0) = true := by simpa using he
  go_enter Try.func29, Try.ntmps29
  go_wp2_with (first | ((go_at_call 38; refine (rateError_ok _ _ _ r0 r1).mono ?_; rintro e w1 ⟨rfl, hb1⟩; obtain ⟨hc1, hf1, hz1⟩ := bcell hb1; (try simp at hz1))) | ((go_at_call 44; refine (kind_ok _ _ _ r0 r1).mono ?_; rintro e w1 ⟨rfl, hb1⟩; obtain ⟨hc1, hf1, hz1⟩ := bcell hb1; (try simp at hz1))) | go_in)
  go_ret
  exact ⟨rfl, by (repeat (first | exact Below.refl _ _ | assumption | refine Ba.below_step (by assumption) (by first | exact Nat.le_refl _ | omega | (simp; done) | (simp; omega)) ?_ | apply Below.drew | apply Ba.below_drewN | refine Below.alloc ?_ (by first | exact Nat.le_refl _ | omega | (simp; done) | (simp; omega)) _ | refine Below.setCell ?_ (by first | exact Nat.le_refl _ | omega | (simp; done) | (simp; omega)) _))⟩

theorem RCheck_r0 (r h m s f : Int) (d : Bool) (w : World) (r0 : 0 ≤ r) (r1 : r ≤ 255) (he : rerr r d = 0) (hh : h < 0) :
    Calls Try.prog 29 #[.int .u8 r, .agg #[.int .i64 h, .int .i64 m, .int .i64 s, .int .i64 f, .bool d]] w fun e w' => e = .returned (.int .i64 2) ∧ Below w.heap.size w w' := by
  have t69 : decide (h < 0) = true := decide_eq_true (by omega)
  have hx : (rerr r d != 0) = false := by simp [he]
  go_enter Try.func29, Try.ntmps29
  go_wp2_with (first | ((go_at_call 38; refine (rateError_ok _ _ _ r0 r1).mono ?_; rintro e w1 ⟨rfl, hb1⟩; obtain ⟨hc1, hf1, hz1⟩ := bcell hb1; (try simp at hz1))) | ((go_at_call 44; refine (kind_ok _ _ _ r0 r1).mono ?_; rintro e w1 ⟨rfl, hb1⟩; obtain ⟨hc1, hf1, hz1⟩ := bcell hb1; (try simp at hz1))) | go_in)
  have c0 : w1.cell? ⟨w.heap.size, 0, none⟩ = some (.int .i64 h) := by rw [hc1 _ _ (by simp)]; simp
  have c1 : w1.cell? ⟨w.heap.size, 1, none⟩ = some (.int .i64 m) := by rw [hc1 _ _ (by simp)]; simp
  have c2 : w1.cell? ⟨w.heap.size, 2, none⟩ = some (.int .i64 s) := by rw [hc1 _ _ (by simp)]; simp
  have c3 : w1.cell? ⟨w.heap.size, 3, none⟩ = some (.int .i64 f) := by rw [hc1 _ _ (by simp)]; simp
  have c4 := hc1 w.heap.size 4 (by simp)
  simp at c4
  have y10 : w.heap.size < w1.heap.size := by omega
  clear hc1 hf1 hz1
  haveI : Nonempty (Ext w1.heap.size w1) := Ext.ne _ _
  have g0 := Ext.cell (B := w1.heap.size) w.heap.size 0 _ y10 c0
  have g1 := Ext.cell (B := w1.heap.size) w.heap.size 1 _ y10 c1
  have g2 := Ext.cell (B := w1.heap.size) w.heap.size 2 _ y10 c2
  have g3 := Ext.cell (B := w1.heap.size) w.heap.size 3 _ y10 c3
  have g4 := Ext.cell (B := w1.heap.size) w.heap.size 4 _ y10 c4
  refine region_ext w1.heap.size (by kernel_rfl) (by kernel_rfl) ?_
  repeat (first | go_big_quiet_step (first | (go_at_call 21; refine ext_call (Nat.le_refl _) (Nominal_ok _ _ r0 r1)) | (go_at_call 45; refine ext_call (Nat.le_refl _) (RNominal_ok _ _ r0 r1))) | quiet_step (first | (go_at_call 21; refine ext_call (Nat.le_refl _) (Nominal_ok _ _ r0 r1)) | (go_at_call 45; refine ext_call (Nat.le_refl _) (RNominal_ok _ _ r0 r1))))
  refine ext_nil ?_
  intro w2 hb2
  clear g0 g1 g2 g3 g4 this
  go_wp2
  go_ret
  exact ⟨rfl, by (repeat (first | exact Below.refl _ _ | assumption | refine Ba.below_step (by assumption) (by first | exact Nat.le_refl _ | omega | (simp; done) | (simp; omega)) ?_ | apply Below.drew | apply Ba.below_drewN | refine Below.alloc ?_ (by first | exact Nat.le_refl _ | omega | (simp; done) | (simp; omega)) _ | refine Below.setCell ?_ (by first | exact Nat.le_refl _ | omega | (simp; done) | (simp; omega)) _))⟩

theorem RCheck_r1 (r h m s f : Int) (d : Bool) (w : World) (r0 : 0 ≤ r) (r1 : r ≤ 255) (he : rerr r d = 0) (hh : ¬ h < 0 ∧ 23 < h) :
    Calls Try.prog 29 #[.int .u8 r, .agg #[.int .i64 h, .int .i64 m, .int .i64 s, .int .i64 f, .bool d]] w fun e w' => e = .returned (.int .i64 2) ∧ Below w.heap.size w w' := by
  have t70 : decide (h < 0) = false := decide_eq_false (by omega)
  have t71 : decide (23 < h) = true := decide_eq_true (by omega)
  have hx : (rerr r d != 0) = false := by simp [he]
  go_enter Try.func29, Try.ntmps29
  go_wp2_with (first | ((go_at_call 38; refine (rateError_ok _ _ _ r0 r1).mono ?_; rintro e w1 ⟨rfl, hb1⟩; obtain ⟨hc1, hf1, hz1⟩ := bcell hb1; (try simp at hz1))) | ((go_at_call 44; refine (kind_ok _ _ _ r0 r1).mono ?_; rintro e w1 ⟨rfl, hb1⟩; obtain ⟨hc1, hf1, hz1⟩ := bcell hb1; (try simp at hz1))) | go_in)
  have c0 : w1.cell? ⟨w.heap.size, 0, none⟩ = some (.int .i64 h) := by rw [hc1 _ _ (by simp)]; simp
  have c1 : w1.cell? ⟨w.heap.size, 1, none⟩ = some (.int .i64 m) := by rw [hc1 _ _ (by simp)]; simp
  have c2 : w1.cell? ⟨w.heap.size, 2, none⟩ = some (.int .i64 s) := by rw [hc1 _ _ (by simp)]; simp
  have c3 : w1.cell? ⟨w.heap.size, 3, none⟩ = some (.int .i64 f) := by rw [hc1 _ _ (by simp)]; simp
  have c4 := hc1 w.heap.size 4 (by simp)
  simp at c4
  have y10 : w.heap.size < w1.heap.size := by omega
  clear hc1 hf1 hz1
  haveI : Nonempty (Ext w1.heap.size w1) := Ext.ne _ _
  have g0 := Ext.cell (B := w1.heap.size) w.heap.size 0 _ y10 c0
  have g1 := Ext.cell (B := w1.heap.size) w.heap.size 1 _ y10 c1
  have g2 := Ext.cell (B := w1.heap.size) w.heap.size 2 _ y10 c2
  have g3 := Ext.cell (B := w1.heap.size) w.heap.size 3 _ y10 c3
  have g4 := Ext.cell (B := w1.heap.size) w.heap.size 4 _ y10 c4
  refine region_ext w1.heap.size (by kernel_rfl) (by kernel_rfl) ?_
  repeat (first | go_big_quiet_step (first | (go_at_call 21; refine ext_call (Nat.le_refl _) (Nominal_ok _ _ r0 r1)) | (go_at_call 45; refine ext_call (Nat.le_refl _) (RNominal_ok _ _ r0 r1))) | quiet_step (first | (go_at_call 21; refine ext_call (Nat.le_refl _) (Nominal_ok _ _ r0 r1)) | (go_at_call 45; refine ext_call (Nat.le_refl _) (RNominal_ok _ _ r0 r1))))
  refine ext_nil ?_
  intro w2 hb2
  clear g0 g1 g2 g3 g4 this
  go_wp2
  go_ret
  exact ⟨rfl, by (repeat (first | exact Below.refl _ _ | assumption | refine Ba.below_step (by assumption) (by first | exact Nat.le_refl _ | omega | (simp; done) | (simp; omega)) ?_ | apply Below.drew | apply Ba.below_drewN | refine Below.alloc ?_ (by first | exact Nat.le_refl _ | omega | (simp; done) | (simp; omega)) _ | refine Below.setCell ?_ (by first | exact Nat.le_refl _ | omega | (simp; done) | (simp; omega)) _))⟩

theorem RCheck_r2 (r h m s f : Int) (d : Bool) (w : World) (r0 : 0 ≤ r) (r1 : r ≤ 255) (he : rerr r d = 0) (hh : ¬ h < 0 ∧ ¬ 23 < h ∧ m < 0) :
    Calls Try.prog 29 #[.int .u8 r, .agg #[.int .i64 h, .int .i64 m, .int .i64 s, .int .i64 f, .bool d]] w fun e w' => e = .returned (.int .i64 2) ∧ Below w.heap.size w w' := by
  have t72 : decide (h < 0) = false := decide_eq_false (by omega)
  have t73 : decide (23 < h) = false := decide_eq_false (by omega)
  have t74 : decide (m < 0) = true := decide_eq_true (by omega)
  have hx : (rerr r d != 0) = false := by simp [he]
  go_enter Try.func29, Try.ntmps29
  go_wp2_with (first | ((go_at_call 38; refine (rateError_ok _ _ _ r0 r1).mono ?_; rintro e w1 ⟨rfl, hb1⟩; obtain ⟨hc1, hf1, hz1⟩ := bcell hb1; (try simp at hz1))) | ((go_at_call 44; refine (kind_ok _ _ _ r0 r1).mono ?_; rintro e w1 ⟨rfl, hb1⟩; obtain ⟨hc1, hf1, hz1⟩ := bcell hb1; (try simp at hz1))) | go_in)
  have c0 : w1.cell? ⟨w.heap.size, 0, none⟩ = some (.int .i64 h) := by rw [hc1 _ _ (by simp)]; simp
  have c1 : w1.cell? ⟨w.heap.size, 1, none⟩ = some (.int .i64 m) := by rw [hc1 _ _ (by simp)]; simp
  have c2 : w1.cell? ⟨w.heap.size, 2, none⟩ = some (.int .i64 s) := by rw [hc1 _ _ (by simp)]; simp
  have c3 : w1.cell? ⟨w.heap.size, 3, none⟩ = some (.int .i64 f) := by rw [hc1 _ _ (by simp)]; simp
  have c4 := hc1 w.heap.size 4 (by simp)
  simp at c4
  have y10 : w.heap.size < w1.heap.size := by omega
  clear hc1 hf1 hz1
  haveI : Nonempty (Ext w1.heap.size w1) := Ext.ne _ _
  have g0 := Ext.cell (B := w1.heap.size) w.heap.size 0 _ y10 c0
  have g1 := Ext.cell (B := w1.heap.size) w.heap.size 1 _ y10 c1
  have g2 := Ext.cell (B := w1.heap.size) w.heap.size 2 _ y10 c2
  have g3 := Ext.cell (B := w1.heap.size) w.heap.size 3 _ y10 c3
  have g4 := Ext.cell (B := w1.heap.size) w.heap.size 4 _ y10 c4
  refine region_ext w1.heap.size (by kernel_rfl) (by kernel_rfl) ?_
  repeat (first | go_big_quiet_step (first | (go_at_call 21; refine ext_call (Nat.le_refl _) (Nominal_ok _ _ r0 r1)) | (go_at_call 45; refine ext_call (Nat.le_refl _) (RNominal_ok _ _ r0 r1))) | quiet_step (first | (go_at_call 21; refine ext_call (Nat.le_refl _) (Nominal_ok _ _ r0 r1)) | (go_at_call 45; refine ext_call (Nat.le_refl _) (RNominal_ok _ _ r0 r1))))
  refine ext_nil ?_
  intro w2 hb2
  clear g0 g1 g2 g3 g4 this
  go_wp2
  go_ret
  exact ⟨rfl, by (repeat (first | exact Below.refl _ _ | assumption | refine Ba.below_step (by assumption) (by first | exact Nat.le_refl _ | omega | (simp; done) | (simp; omega)) ?_ | apply Below.drew | apply Ba.below_drewN | refine Below.alloc ?_ (by first | exact Nat.le_refl _ | omega | (simp; done) | (simp; omega)) _ | refine Below.setCell ?_ (by first | exact Nat.le_refl _ | omega | (simp; done) | (simp; omega)) _))⟩

theorem RCheck_r3 (r h m s f : Int) (d : Bool) (w : World) (r0 : 0 ≤ r) (r1 : r ≤ 255) (he : rerr r d = 0) (hh : ¬ h < 0 ∧ ¬ 23 < h ∧ ¬ m < 0 ∧ 59 < m) :
    Calls Try.prog 29 #[.int .u8 r, .agg #[.int .i64 h, .int .i64 m, .int .i64 s, .int .i64 f, .bool d]] w fun e w' => e = .returned (.int .i64 2) ∧ Below w.heap.size w w' := by
  have t75 : decide (h < 0) = false := decide_eq_false (by omega)
  have t76 : decide (23 < h) = false := decide_eq_false (by omega)
  have t77 : decide (m < 0) = false := decide_eq_false (by omega)
  have t78 : decide (59 < m) = true := decide_eq_true (by omega)
  have hx : (rerr r d != 0) = false := by simp [he]
  go_enter Try.func29, Try.ntmps29
  go_wp2_with (first | ((go_at_call 38; refine (rateError_ok _ _ _ r0 r1).mono ?_; rintro e w1 ⟨rfl, hb1⟩; obtain ⟨hc1, hf1, hz1⟩ := bcell hb1; (try simp at hz1))) | ((go_at_call 44; refine (kind_ok _ _ _ r0 r1).mono ?_; rintro e w1 ⟨rfl, hb1⟩; obtain ⟨hc1, hf1, hz1⟩ := bcell hb1; (try simp at hz1))) | go_in)
  have c0 : w1.cell? ⟨w.heap.size, 0, none⟩ = some (.int .i64 h) := by rw [hc1 _ _ (by simp)]; simp
  have c1 : w1.cell? ⟨w.heap.size, 1, none⟩ = some (.int .i64 m) := by rw [hc1 _ _ (by simp)]; simp
  have c2 : w1.cell? ⟨w.heap.size, 2, none⟩ = some (.int .i64 s) := by rw [hc1 _ _ (by simp)]; simp
  have c3 : w1.cell? ⟨w.heap.size, 3, none⟩ = some (.int .i64 f) := by rw [hc1 _ _ (by simp)]; simp
  have c4 := hc1 w.heap.size 4 (by simp)
  simp at c4
  have y10 : w.heap.size < w1.heap.size := by omega
  clear hc1 hf1 hz1
  haveI : Nonempty (Ext w1.heap.size w1) := Ext.ne _ _
  have g0 := Ext.cell (B := w1.heap.size) w.heap.size 0 _ y10 c0
  have g1 := Ext.cell (B := w1.heap.size) w.heap.size 1 _ y10 c1
  have g2 := Ext.cell (B := w1.heap.size) w.heap.size 2 _ y10 c2
  have g3 := Ext.cell (B := w1.heap.size) w.heap.size 3 _ y10 c3
  have g4 := Ext.cell (B := w1.heap.size) w.heap.size 4 _ y10 c4
  refine region_ext w1.heap.size (by kernel_rfl) (by kernel_rfl) ?_
  repeat (first | go_big_quiet_step (first | (go_at_call 21; refine ext_call (Nat.le_refl _) (Nominal_ok _ _ r0 r1)) | (go_at_call 45; refine ext_call (Nat.le_refl _) (RNominal_ok _ _ r0 r1))) | quiet_step (first | (go_at_call 21; refine ext_call (Nat.le_refl _) (Nominal_ok _ _ r0 r1)) | (go_at_call 45; refine ext_call (Nat.le_refl _) (RNominal_ok _ _ r0 r1))))
  refine ext_nil ?_
  intro w2 hb2
  clear g0 g1 g2 g3 g4 this
  go_wp2
  go_ret
  exact ⟨rfl, by (repeat (first | exact Below.refl _ _ | assumption | refine Ba.below_step (by assumption) (by first | exact Nat.le_refl _ | omega | (simp; done) | (simp; omega)) ?_ | apply Below.drew | apply Ba.below_drewN | refine Below.alloc ?_ (by first | exact Nat.le_refl _ | omega | (simp; done) | (simp; omega)) _ | refine Below.setCell ?_ (by first | exact Nat.le_refl _ | omega | (simp; done) | (simp; omega)) _))⟩

theorem RCheck_r4 (r h m s f : Int) (d : Bool) (w : World) (r0 : 0 ≤ r) (r1 : r ≤ 255) (he : rerr r d = 0) (hh : ¬ h < 0 ∧ ¬ 23 < h ∧ ¬ m < 0 ∧ ¬ 59 < m ∧ s < 0) :
    Calls Try.prog 29 #[.int .u8 r, .agg #[.int .i64 h, .int .i64 m, .int .i64 s, .int .i64 f, .bool d]] w fun e w' => e = .returned (.int .i64 2) ∧ Below w.heap.size w w' := by
  have t79 : decide (h < 0) = false := decide_eq_false (by omega)
  have t80 : decide (23 < h) = false := decide_eq_false (by omega)
  have t81 : decide (m < 0) = false := decide_eq_false (by omega)
  have t82 : decide (59 < m) = false := decide_eq_false (by omega)
  have t83 : decide (s < 0) = true := decide_eq_true (by omega)
  have hx : (rerr r d != 0) = false := by simp [he]
  go_enter Try.func29, Try.ntmps29
  go_wp2_with (first | ((go_at_call 38; refine (rateError_ok _ _ _ r0 r1).mono ?_; rintro e w1 ⟨rfl, hb1⟩; obtain ⟨hc1, hf1, hz1⟩ := bcell hb1; (try simp at hz1))) | ((go_at_call 44; refine (kind_ok _ _ _ r0 r1).mono ?_; rintro e w1 ⟨rfl, hb1⟩; obtain ⟨hc1, hf1, hz1⟩ := bcell hb1; (try simp at hz1))) | go_in)
  have c0 : w1.cell? ⟨w.heap.size, 0, none⟩ = some (.int .i64 h) := by rw [hc1 _ _ (by simp)]; simp
  have c1 : w1.cell? ⟨w.heap.size, 1, none⟩ = some (.int .i64 m) := by rw [hc1 _ _ (by simp)]; simp
  have c2 : w1.cell? ⟨w.heap.size, 2, none⟩ = some (.int .i64 s) := by rw [hc1 _ _ (by simp)]; simp
  have c3 : w1.cell? ⟨w.heap.size, 3, none⟩ = some (.int .i64 f) := by rw [hc1 _ _ (by simp)]; simp
  have c4 := hc1 w.heap.size 4 (by simp)
  simp at c4
  have y10 : w.heap.size < w1.heap.size := by omega
  clear hc1 hf1 hz1
  haveI : Nonempty (Ext w1.heap.size w1) := Ext.ne _ _
  have g0 := Ext.cell (B := w1.heap.size) w.heap.size 0 _ y10 c0
  have g1 := Ext.cell (B := w1.heap.size) w.heap.size 1 _ y10 c1
  have g2 := Ext.cell (B := w1.heap.size) w.heap.size 2 _ y10 c2
  have g3 := Ext.cell (B := w1.heap.size) w.heap.size 3 _ y10 c3
  have g4 := Ext.cell (B := w1.heap.size) w.heap.size 4 _ y10 c4
  refine region_ext w1.heap.size (by kernel_rfl) (by kernel_rfl) ?_
  repeat (first | go_big_quiet_step (first | (go_at_call 21; refine ext_call (Nat.le_refl _) (Nominal_ok _ _ r0 r1)) | (go_at_call 45; refine ext_call (Nat.le_refl _) (RNominal_ok _ _ r0 r1))) | quiet_step (first | (go_at_call 21; refine ext_call (Nat.le_refl _) (Nominal_ok _ _ r0 r1)) | (go_at_call 45; refine ext_call (Nat.le_refl _) (RNominal_ok _ _ r0 r1))))
  refine ext_nil ?_
  intro w2 hb2
  clear g0 g1 g2 g3 g4 this
  go_wp2
  go_ret
  exact ⟨rfl, by (repeat (first | exact Below.refl _ _ | assumption | refine Ba.below_step (by assumption) (by first | exact Nat.le_refl _ | omega | (simp; done) | (simp; omega)) ?_ | apply Below.drew | apply Ba.below_drewN | refine Below.alloc ?_ (by first | exact Nat.le_refl _ | omega | (simp; done) | (simp; omega)) _ | refine Below.setCell ?_ (by first | exact Nat.le_refl _ | omega | (simp; done) | (simp; omega)) _))⟩

theorem RCheck_r5 (r h m s f : Int) (d : Bool) (w : World) (r0 : 0 ≤ r) (r1 : r ≤ 255) (he : rerr r d = 0) (hh : ¬ h < 0 ∧ ¬ 23 < h ∧ ¬ m < 0 ∧ ¬ 59 < m ∧ ¬ s < 0 ∧ 59 < s) :
    Calls Try.prog 29 #[.int .u8 r, .agg #[.int .i64 h, .int .i64 m, .int .i64 s, .int .i64 f, .bool d]] w fun e w' => e = .returned (.int .i64 2) ∧ Below w.heap.size w w' := by
  have t84 : decide (h < 0) = false := decide_eq_false (by omega)
  have t85 : decide (23 < h) = false := decide_eq_false (by omega)
  have t86 : decide (m < 0) = false := decide_eq_false (by omega)
  have t87 : decide (59 < m) = false := decide_eq_false (by omega)
  have t88 : decide (s < 0) = false := decide_eq_false (by omega)
  have t89 : decide (59 < s) = true := decide_eq_true (by omega)
  have hx : (rerr r d != 0) = false := by simp [he]
  go_enter Try.func29, Try.ntmps29
  go_wp2_with (first | ((go_at_call 38; refine (rateError_ok _ _ _ r0 r1).mono ?_; rintro e w1 ⟨rfl, hb1⟩; obtain ⟨hc1, hf1, hz1⟩ := bcell hb1; (try simp at hz1))) | ((go_at_call 44; refine (kind_ok _ _ _ r0 r1).mono ?_; rintro e w1 ⟨rfl, hb1⟩; obtain ⟨hc1, hf1, hz1⟩ := bcell hb1; (try simp at hz1))) | go_in)
  have c0 : w1.cell? ⟨w.heap.size, 0, none⟩ = some (.int .i64 h) := by rw [hc1 _ _ (by simp)]; simp
  have c1 : w1.cell? ⟨w.heap.size, 1, none⟩ = some (.int .i64 m) := by rw [hc1 _ _ (by simp)]; simp
  have c2 : w1.cell? ⟨w.heap.size, 2, none⟩ = some (.int .i64 s) := by rw [hc1 _ _ (by simp)]; simp
  have c3 : w1.cell? ⟨w.heap.size, 3, none⟩ = some (.int .i64 f) := by rw [hc1 _ _ (by simp)]; simp
  have c4 := hc1 w.heap.size 4 (by simp)
  simp at c4
  have y10 : w.heap.size < w1.heap.size := by omega
  clear hc1 hf1 hz1
  haveI : Nonempty (Ext w1.heap.size w1) := Ext.ne _ _
  have g0 := Ext.cell (B := w1.heap.size) w.heap.size 0 _ y10 c0
  have g1 := Ext.cell (B := w1.heap.size) w.heap.size 1 _ y10 c1
  have g2 := Ext.cell (B := w1.heap.size) w.heap.size 2 _ y10 c2
  have g3 := Ext.cell (B := w1.heap.size) w.heap.size 3 _ y10 c3
  have g4 := Ext.cell (B := w1.heap.size) w.heap.size 4 _ y10 c4
  refine region_ext w1.heap.size (by kernel_rfl) (by kernel_rfl) ?_
  repeat (first | go_big_quiet_step (first | (go_at_call 21; refine ext_call (Nat.le_refl _) (Nominal_ok _ _ r0 r1)) | (go_at_call 45; refine ext_call (Nat.le_refl _) (RNominal_ok _ _ r0 r1))) | quiet_step (first | (go_at_call 21; refine ext_call (Nat.le_refl _) (Nominal_ok _ _ r0 r1)) | (go_at_call 45; refine ext_call (Nat.le_refl _) (RNominal_ok _ _ r0 r1))))
  refine ext_nil ?_
  intro w2 hb2
  clear g0 g1 g2 g3 g4 this
  go_wp2
  go_ret
  exact ⟨rfl, by (repeat (first | exact Below.refl _ _ | assumption | refine Ba.below_step (by assumption) (by first | exact Nat.le_refl _ | omega | (simp; done) | (simp; omega)) ?_ | apply Below.drew | apply Ba.below_drewN | refine Below.alloc ?_ (by first | exact Nat.le_refl _ | omega | (simp; done) | (simp; omega)) _ | refine Below.setCell ?_ (by first | exact Nat.le_refl _ | omega | (simp; done) | (simp; omega)) _))⟩

theorem RCheck_r6 (r h m s f : Int) (d : Bool) (w : World) (r0 : 0 ≤ r) (r1 : r ≤ 255) (he : rerr r d = 0) (hh : ¬ h < 0 ∧ ¬ 23 < h ∧ ¬ m < 0 ∧ ¬ 59 < m ∧ ¬ s < 0 ∧ ¬ 59 < s ∧ f < 0) :
    Calls Try.prog 29 #[.int .u8 r, .agg #[.int .i64 h, .int .i64 m, .int .i64 s, .int .i64 f, .bool d]] w fun e w' => e = .returned (.int .i64 2) ∧ Below w.heap.size w w' := by
  have t90 : decide (h < 0) = false := decide_eq_false (by omega)
  have t91 : decide (23 < h) = false := decide_eq_false (by omega)
  have t92 : decide (m < 0) = false := decide_eq_false (by omega)
  have t93 : decide (59 < m) = false := decide_eq_false (by omega)
  have t94 : decide (s < 0) = false := decide_eq_false (by omega)
  have t95 : decide (59 < s) = false := decide_eq_false (by omega)
  have t96 : decide (f < 0) = true := decide_eq_true (by omega)
  have hx : (rerr r d != 0) = false := by simp [he]
  go_enter Try.func29, Try.ntmps29
  go_wp2_with (first | ((go_at_call 38; refine (rateError_ok _ _ _ r0 r1).mono ?_; rintro e w1 ⟨rfl, hb1⟩; obtain ⟨hc1, hf1, hz1⟩ := bcell hb1; (try simp at hz1))) | ((go_at_call 44; refine (kind_ok _ _ _ r0 r1).mono ?_; rintro e w1 ⟨rfl, hb1⟩; obtain ⟨hc1, hf1, hz1⟩ := bcell hb1; (try simp at hz1))) | go_in)
  have c0 : w1.cell? ⟨w.heap.size, 0, none⟩ = some (.int .i64 h) := by rw [hc1 _ _ (by simp)]; simp
  have c1 : w1.cell? ⟨w.heap.size, 1, none⟩ = some (.int .i64 m) := by rw [hc1 _ _ (by simp)]; simp
  have c2 : w1.cell? ⟨w.heap.size, 2, none⟩ = some (.int .i64 s) := by rw [hc1 _ _ (by simp)]; simp
  have c3 : w1.cell? ⟨w.heap.size, 3, none⟩ = some (.int .i64 f) := by rw [hc1 _ _ (by simp)]; simp
  have c4 := hc1 w.heap.size 4 (by simp)
  simp at c4
  have y10 : w.heap.size < w1.heap.size := by omega
  clear hc1 hf1 hz1
  haveI : Nonempty (Ext w1.heap.size w1) := Ext.ne _ _
  have g0 := Ext.cell (B := w1.heap.size) w.heap.size 0 _ y10 c0
  have g1 := Ext.cell (B := w1.heap.size) w.heap.size 1 _ y10 c1
  have g2 := Ext.cell (B := w1.heap.size) w.heap.size 2 _ y10 c2
  have g3 := Ext.cell (B := w1.heap.size) w.heap.size 3 _ y10 c3
  have g4 := Ext.cell (B := w1.heap.size) w.heap.size 4 _ y10 c4
  refine region_ext w1.heap.size (by kernel_rfl) (by kernel_rfl) ?_
  repeat (first | go_big_quiet_step (first | (go_at_call 21; refine ext_call (Nat.le_refl _) (Nominal_ok _ _ r0 r1)) | (go_at_call 45; refine ext_call (Nat.le_refl _) (RNominal_ok _ _ r0 r1))) | quiet_step (first | (go_at_call 21; refine ext_call (Nat.le_refl _) (Nominal_ok _ _ r0 r1)) | (go_at_call 45; refine ext_call (Nat.le_refl _) (RNominal_ok _ _ r0 r1))))
  refine ext_nil ?_
  intro w2 hb2
  clear g0 g1 g2 g3 g4 this
  go_wp2
  go_ret
  exact ⟨rfl, by (repeat (first | exact Below.refl _ _ | assumption | refine Ba.below_step (by assumption) (by first | exact Nat.le_refl _ | omega | (simp; done) | (simp; omega)) ?_ | apply Below.drew | apply Ba.below_drewN | refine Below.alloc ?_ (by first | exact Nat.le_refl _ | omega | (simp; done) | (simp; omega)) _ | refine Below.setCell ?_ (by first | exact Nat.le_refl _ | omega | (simp; done) | (simp; omega)) _))⟩

theorem RCheck_r7 (r h m s f : Int) (d : Bool) (w : World) (r0 : 0 ≤ r) (r1 : r ≤ 255) (he : rerr r d = 0) (hh : ¬ h < 0 ∧ ¬ 23 < h ∧ ¬ m < 0 ∧ ¬ 59 < m ∧ ¬ s < 0 ∧ ¬ 59 < s ∧ ¬ f < 0 ∧ nm r ≤ f) :
    Calls Try.prog 29 #[.int .u8 r, .agg #[.int .i64 h, .int .i64 m, .int .i64 s, .int .i64 f, .bool d]] w fun e w' => e = .returned (.int .i64 2) ∧ Below w.heap.size w w' := by
  have t97 : decide (h < 0) = false := decide_eq_false (by omega)
  have t98 : decide (23 < h) = false := decide_eq_false (by omega)
  have t99 : decide (m < 0) = false := decide_eq_false (by omega)
  have t100 : decide (59 < m) = false := decide_eq_false (by omega)
  have t101 : decide (s < 0) = false := decide_eq_false (by omega)
  have t102 : decide (59 < s) = false := decide_eq_false (by omega)
  have t103 : decide (f < 0) = false := decide_eq_false (by omega)
  have t104 : decide (nm r ≤ f) = true := decide_eq_true (by omega)
  have hx : (rerr r d != 0) = false := by simp [he]
  go_enter Try.func29, Try.ntmps29
  go_wp2_with (first | ((go_at_call 38; refine (rateError_ok _ _ _ r0 r1).mono ?_; rintro e w1 ⟨rfl, hb1⟩; obtain ⟨hc1, hf1, hz1⟩ := bcell hb1; (try simp at hz1))) | ((go_at_call 44; refine (kind_ok _ _ _ r0 r1).mono ?_; rintro e w1 ⟨rfl, hb1⟩; obtain ⟨hc1, hf1, hz1⟩ := bcell hb1; (try simp at hz1))) | go_in)
  have c0 : w1.cell? ⟨w.heap.size, 0, none⟩ = some (.int .i64 h) := by rw [hc1 _ _ (by simp)]; simp
  have c1 : w1.cell? ⟨w.heap.size, 1, none⟩ = some (.int .i64 m) := by rw [hc1 _ _ (by simp)]; simp
  have c2 : w1.cell? ⟨w.heap.size, 2, none⟩ = some (.int .i64 s) := by rw [hc1 _ _ (by simp)]; simp
  have c3 : w1.cell? ⟨w.heap.size, 3, none⟩ = some (.int .i64 f) := by rw [hc1 _ _ (by simp)]; simp
  have c4 := hc1 w.heap.size 4 (by simp)
  simp at c4
  have y10 : w.heap.size < w1.heap.size := by omega
  clear hc1 hf1 hz1
  haveI : Nonempty (Ext w1.heap.size w1) := Ext.ne _ _
  have g0 := Ext.cell (B := w1.heap.size) w.heap.size 0 _ y10 c0
  have g1 := Ext.cell (B := w1.heap.size) w.heap.size 1 _ y10 c1
  have g2 := Ext.cell (B := w1.heap.size) w.heap.size 2 _ y10 c2
  have g3 := Ext.cell (B := w1.heap.size) w.heap.size 3 _ y10 c3
  have g4 := Ext.cell (B := w1.heap.size) w.heap.size 4 _ y10 c4
  refine region_ext w1.heap.size (by kernel_rfl) (by kernel_rfl) ?_
  repeat (first | go_big_quiet_step (first | (go_at_call 21; refine ext_call (Nat.le_refl _) (Nominal_ok _ _ r0 r1)) | (go_at_call 45; refine ext_call (Nat.le_refl _) (RNominal_ok _ _ r0 r1))) | quiet_step (first | (go_at_call 21; refine ext_call (Nat.le_refl _) (Nominal_ok _ _ r0 r1)) | (go_at_call 45; refine ext_call (Nat.le_refl _) (RNominal_ok _ _ r0 r1))))
  refine ext_nil ?_
  intro w2 hb2
  clear g0 g1 g2 g3 g4 this
  go_wp2
  go_ret
  exact ⟨rfl, by (repeat (first | exact Below.refl _ _ | assumption | refine Ba.below_step (by assumption) (by first | exact Nat.le_refl _ | omega | (simp; done) | (simp; omega)) ?_ | apply Below.drew | apply Ba.below_drewN | refine Below.alloc ?_ (by first | exact Nat.le_refl _ | omega | (simp; done) | (simp; omega)) _ | refine Below.setCell ?_ (by first | exact Nat.le_refl _ | omega | (simp; done) | (simp; omega)) _))⟩

set_option maxHeartbeats 1000000 in
theorem RCheck_d4 (r h m s f : Int)  (w : World) (r0 : 0 ≤ r) (r1 : r ≤ 255) (he : rerr r false = 0) (hh : 0 ≤ h ∧ h ≤ 23 ∧ 0 ≤ m ∧ m ≤ 59 ∧ 0 ≤ s ∧ s ≤ 59 ∧ 0 ≤ f ∧ f < nm r) (hd : True) :
    Calls Try.prog 29 #[.int .u8 r, .agg #[.int .i64 h, .int .i64 m, .int .i64 s, .int .i64 f, .bool false]] w fun e w' => e = .returned (.int .i64 0) ∧ Below w.heap.size w w' := by
  have t105 : decide (h < 0) = false := decide_eq_false (by omega)
  have t106 : decide (23 < h) = false := decide_eq_false (by omega)
  have t107 : decide (m < 0) = false := decide_eq_false (by omega)
  have t108 : decide (59 < m) = false := decide_eq_false (by omega)
  have t109 : decide (s < 0) = false := decide_eq_false (by omega)
  have t110 : decide (59 < s) = false := decide_eq_false (by omega)
  have t111 : decide (f < 0) = false := decide_eq_false (by omega)
  have t112 : decide (nm r ≤ f) = false := decide_eq_false (by omega)
  obtain ⟨a0, a1, m0, m1, s0, s1, f0, f1⟩ := hh
  have e1 : m.tmod 10 = m % 10 := Int.tmod_eq_emod_of_nonneg m0
  skip
  have hx : (rerr r false != 0) = false := by simp [he]
  go_enter Try.func29, Try.ntmps29
  go_wp2_with (first | ((go_at_call 38; refine (rateError_ok _ _ _ r0 r1).mono ?_; rintro e w1 ⟨rfl, hb1⟩; obtain ⟨hc1, hf1, hz1⟩ := bcell hb1; (try simp at hz1))) | ((go_at_call 44; refine (kind_ok _ _ _ r0 r1).mono ?_; rintro e w1 ⟨rfl, hb1⟩; obtain ⟨hc1, hf1, hz1⟩ := bcell hb1; (try simp at hz1))) | go_in)
  have c0 : w1.cell? ⟨w.heap.size, 0, none⟩ = some (.int .i64 h) := by rw [hc1 _ _ (by simp)]; simp
  have c1 : w1.cell? ⟨w.heap.size, 1, none⟩ = some (.int .i64 m) := by rw [hc1 _ _ (by simp)]; simp
  have c2 : w1.cell? ⟨w.heap.size, 2, none⟩ = some (.int .i64 s) := by rw [hc1 _ _ (by simp)]; simp
  have c3 : w1.cell? ⟨w.heap.size, 3, none⟩ = some (.int .i64 f) := by rw [hc1 _ _ (by simp)]; simp
  have c4 := hc1 w.heap.size 4 (by simp)
  simp at c4
  have y10 : w.heap.size < w1.heap.size := by omega
  clear hc1 hf1 hz1
  haveI : Nonempty (Ext w1.heap.size w1) := Ext.ne _ _
  have g0 := Ext.cell (B := w1.heap.size) w.heap.size 0 _ y10 c0
  have g1 := Ext.cell (B := w1.heap.size) w.heap.size 1 _ y10 c1
  have g2 := Ext.cell (B := w1.heap.size) w.heap.size 2 _ y10 c2
  have g3 := Ext.cell (B := w1.heap.size) w.heap.size 3 _ y10 c3
  have g4 := Ext.cell (B := w1.heap.size) w.heap.size 4 _ y10 c4
  refine region_ext w1.heap.size (by kernel_rfl) (by kernel_rfl) ?_
  repeat (first | go_big_quiet_step (first | (go_at_call 21; refine ext_call (Nat.le_refl _) (Nominal_ok _ _ r0 r1)) | (go_at_call 45; refine ext_call (Nat.le_refl _) (RNominal_ok _ _ r0 r1))) | quiet_step (first | (go_at_call 21; refine ext_call (Nat.le_refl _) (Nominal_ok _ _ r0 r1)) | (go_at_call 45; refine ext_call (Nat.le_refl _) (RNominal_ok _ _ r0 r1))))
  refine ext_nil ?_
  intro w2 hb2
  clear g0 g1 g2 g3 g4 this
  have y20 : w.heap.size < w2.heap.size := Nat.lt_of_lt_of_le y10 hb2.size
  have c0' : w2.cell? ⟨w.heap.size, 0, none⟩ = _ := (hb2.cell (p := ⟨w.heap.size, 0, none⟩) y10).trans c0
  have c1' : w2.cell? ⟨w.heap.size, 1, none⟩ = _ := (hb2.cell (p := ⟨w.heap.size, 1, none⟩) y10).trans c1
  have c2' : w2.cell? ⟨w.heap.size, 2, none⟩ = _ := (hb2.cell (p := ⟨w.heap.size, 2, none⟩) y10).trans c2
  have c3' : w2.cell? ⟨w.heap.size, 3, none⟩ = _ := (hb2.cell (p := ⟨w.heap.size, 3, none⟩) y10).trans c3
  have c4' : w2.cell? ⟨w.heap.size, 4, none⟩ = _ := (hb2.cell (p := ⟨w.heap.size, 4, none⟩) y10).trans c4
  clear c0 c1 c2 c3 c4
  go_wp2
  haveI : Nonempty (Ext w2.heap.size w2) := Ext.ne _ _
  have g0 := Ext.cell (B := w2.heap.size) w.heap.size 0 _ y20 c0'
  have g1 := Ext.cell (B := w2.heap.size) w.heap.size 1 _ y20 c1'
  have g2 := Ext.cell (B := w2.heap.size) w.heap.size 2 _ y20 c2'
  have g3 := Ext.cell (B := w2.heap.size) w.heap.size 3 _ y20 c3'
  have g4 := Ext.cell (B := w2.heap.size) w.heap.size 4 _ y20 c4'
  refine region_ext w2.heap.size (by kernel_rfl) (by kernel_rfl) ?_
  repeat (first | go_big_quiet_step (first | (go_at_call 39; refine ext_same (dropped_ok _ _ _ r0 r1)) | (go_at_call 46; refine ext_same (Dropped_ok _ _ r0 r1))) | quiet_step (first | (go_at_call 39; refine ext_same (dropped_ok _ _ _ r0 r1)) | (go_at_call 46; refine ext_same (Dropped_ok _ _ r0 r1))))

  refine ext_nil ?_
  intro w3 hb3
  clear g0 g1 g2 g3 g4 this
  go_wp2
  go_ret
  exact ⟨rfl, by (repeat (first | exact Below.refl _ _ | assumption | refine Ba.below_step (by assumption) (by first | exact Nat.le_refl _ | omega | (simp; done) | (simp; omega)) ?_ | apply Below.drew | apply Ba.below_drewN | refine Below.alloc ?_ (by first | exact Nat.le_refl _ | omega | (simp; done) | (simp; omega)) _ | refine Below.setCell ?_ (by first | exact Nat.le_refl _ | omega | (simp; done) | (simp; omega)) _))⟩

set_option maxHeartbeats 1000000 in
theorem RCheck_d0 (r h m s f : Int)  (w : World) (r0 : 0 ≤ r) (r1 : r ≤ 255) (he : rerr r true = 0) (hh : 0 ≤ h ∧ h ≤ 23 ∧ 0 ≤ m ∧ m ≤ 59 ∧ 0 ≤ s ∧ s ≤ 59 ∧ 0 ≤ f ∧ f < nm r) (hd : ¬ s = 0) :
    Calls Try.prog 29 #[.int .u8 r, .agg #[.int .i64 h, .int .i64 m, .int .i64 s, .int .i64 f, .bool true]] w fun e w' => e = .returned (.int .i64 0) ∧ Below w.heap.size w w' := by
  have t113 : decide (h < 0) = false := decide_eq_false (by omega)
  have t114 : decide (23 < h) = false := decide_eq_false (by omega)
  have t115 : decide (m < 0) = false := decide_eq_false (by omega)
  have t116 : decide (59 < m) = false := decide_eq_false (by omega)
  have t117 : decide (s < 0) = false := decide_eq_false (by omega)
  have t118 : decide (59 < s) = false := decide_eq_false (by omega)
  have t119 : decide (f < 0) = false := decide_eq_false (by omega)
  have t120 : decide (nm r ≤ f) = false := decide_eq_false (by omega)
  obtain ⟨a0, a1, m0, m1, s0, s1, f0, f1⟩ := hh
  have e1 : m.tmod 10 = m % 10 := Int.tmod_eq_emod_of_nonneg m0
  have u1 : (s == 0) = false := (by simpa using hd)
  have hx : (rerr r true != 0) = false := by simp [he]
  go_enter Try.func29, Try.ntmps29
  go_wp2_with (first | ((go_at_call 38; refine (rateError_ok _ _ _ r0 r1).mono ?_; rintro e w1 ⟨rfl, hb1⟩; obtain ⟨hc1, hf1, hz1⟩ := bcell hb1; (try simp at hz1))) | ((go_at_call 44; refine (kind_ok _ _ _ r0 r1).mono ?_; rintro e w1 ⟨rfl, hb1⟩; obtain ⟨hc1, hf1, hz1⟩ := bcell hb1; (try simp at hz1))) | go_in)
  have c0 : w1.cell? ⟨w.heap.size, 0, none⟩ = some (.int .i64 h) := by rw [hc1 _ _ (by simp)]; simp
  have c1 : w1.cell? ⟨w.heap.size, 1, none⟩ = some (.int .i64 m) := by rw [hc1 _ _ (by simp)]; simp
  have c2 : w1.cell? ⟨w.heap.size, 2, none⟩ = some (.int .i64 s) := by rw [hc1 _ _ (by simp)]; simp
  have c3 : w1.cell? ⟨w.heap.size, 3, none⟩ = some (.int .i64 f) := by rw [hc1 _ _ (by simp)]; simp
  have c4 := hc1 w.heap.size 4 (by simp)
  simp at c4
  have y10 : w.heap.size < w1.heap.size := by omega
  clear hc1 hf1 hz1
  haveI : Nonempty (Ext w1.heap.size w1) := Ext.ne _ _
  have g0 := Ext.cell (B := w1.heap.size) w.heap.size 0 _ y10 c0
  have g1 := Ext.cell (B := w1.heap.size) w.heap.size 1 _ y10 c1
  have g2 := Ext.cell (B := w1.heap.size) w.heap.size 2 _ y10 c2
  have g3 := Ext.cell (B := w1.heap.size) w.heap.size 3 _ y10 c3
  have g4 := Ext.cell (B := w1.heap.size) w.heap.size 4 _ y10 c4
  refine region_ext w1.heap.size (by kernel_rfl) (by kernel_rfl) ?_
  repeat (first | go_big_quiet_step (first | (go_at_call 21; refine ext_call (Nat.le_refl _) (Nominal_ok _ _ r0 r1)) | (go_at_call 45; refine ext_call (Nat.le_refl _) (RNominal_ok _ _ r0 r1))) | quiet_step (first | (go_at_call 21; refine ext_call (Nat.le_refl _) (Nominal_ok _ _ r0 r1)) | (go_at_call 45; refine ext_call (Nat.le_refl _) (RNominal_ok _ _ r0 r1))))
  refine ext_nil ?_
  intro w2 hb2
  clear g0 g1 g2 g3 g4 this
  have y20 : w.heap.size < w2.heap.size := Nat.lt_of_lt_of_le y10 hb2.size
  have c0' : w2.cell? ⟨w.heap.size, 0, none⟩ = _ := (hb2.cell (p := ⟨w.heap.size, 0, none⟩) y10).trans c0
  have c1' : w2.cell? ⟨w.heap.size, 1, none⟩ = _ := (hb2.cell (p := ⟨w.heap.size, 1, none⟩) y10).trans c1
  have c2' : w2.cell? ⟨w.heap.size, 2, none⟩ = _ := (hb2.cell (p := ⟨w.heap.size, 2, none⟩) y10).trans c2
  have c3' : w2.cell? ⟨w.heap.size, 3, none⟩ = _ := (hb2.cell (p := ⟨w.heap.size, 3, none⟩) y10).trans c3
  have c4' : w2.cell? ⟨w.heap.size, 4, none⟩ = _ := (hb2.cell (p := ⟨w.heap.size, 4, none⟩) y10).trans c4
  clear c0 c1 c2 c3 c4
  go_wp2
  haveI : Nonempty (Ext w2.heap.size w2) := Ext.ne _ _
  have g0 := Ext.cell (B := w2.heap.size) w.heap.size 0 _ y20 c0'
  have g1 := Ext.cell (B := w2.heap.size) w.heap.size 1 _ y20 c1'
  have g2 := Ext.cell (B := w2.heap.size) w.heap.size 2 _ y20 c2'
  have g3 := Ext.cell (B := w2.heap.size) w.heap.size 3 _ y20 c3'
  have g4 := Ext.cell (B := w2.heap.size) w.heap.size 4 _ y20 c4'
  refine region_ext w2.heap.size (by kernel_rfl) (by kernel_rfl) ?_
  repeat (first | go_big_quiet_step (first | (go_at_call 39; refine ext_same (dropped_ok _ _ _ r0 r1)) | (go_at_call 46; refine ext_same (Dropped_ok _ _ r0 r1))) | quiet_step (first | (go_at_call 39; refine ext_same (dropped_ok _ _ _ r0 r1)) | (go_at_call 46; refine ext_same (Dropped_ok _ _ r0 r1))))

  refine ext_nil ?_
  intro w3 hb3
  clear g0 g1 g2 g3 g4 this
  go_wp2
  go_ret
  exact ⟨rfl, by (repeat (first | exact Below.refl _ _ | assumption | refine Ba.below_step (by assumption) (by first | exact Nat.le_refl _ | omega | (simp; done) | (simp; omega)) ?_ | apply Below.drew | apply Ba.below_drewN | refine Below.alloc ?_ (by first | exact Nat.le_refl _ | omega | (simp; done) | (simp; omega)) _ | refine Below.setCell ?_ (by first | exact Nat.le_refl _ | omega | (simp; done) | (simp; omega)) _))⟩

set_option maxHeartbeats 1000000 in
theorem RCheck_d1 (r h m s f : Int)  (w : World) (r0 : 0 ≤ r) (r1 : r ≤ 255) (he : rerr r true = 0) (hh : 0 ≤ h ∧ h ≤ 23 ∧ 0 ≤ m ∧ m ≤ 59 ∧ 0 ≤ s ∧ s ≤ 59 ∧ 0 ≤ f ∧ f < nm r) (hd : m % 10 = 0) :
    Calls Try.prog 29 #[.int .u8 r, .agg #[.int .i64 h, .int .i64 m, .int .i64 0, .int .i64 f, .bool true]] w fun e w' => e = .returned (.int .i64 0) ∧ Below w.heap.size w w' := by
  have t121 : decide (h < 0) = false := decide_eq_false (by omega)
  have t122 : decide (23 < h) = false := decide_eq_false (by omega)
  have t123 : decide (m < 0) = false := decide_eq_false (by omega)
  have t124 : decide (59 < m) = false := decide_eq_false (by omega)
  have t125 : decide (0 < 0) = false := decide_eq_false (by omega)
  have t126 : decide (59 < 0) = false := decide_eq_false (by omega)
  have t127 : decide (f < 0) = false := decide_eq_false (by omega)
  have t128 : decide (nm r ≤ f) = false := decide_eq_false (by omega)
  obtain ⟨a0, a1, m0, m1, s0, s1, f0, f1⟩ := hh
  have e1 : m.tmod 10 = m % 10 := Int.tmod_eq_emod_of_nonneg m0
  have u2 : (m % 10 != 0) = false := (by simpa using hd)
  have hx : (rerr r true != 0) = false := by simp [he]
  go_enter Try.func29, Try.ntmps29
  go_wp2_with (first | ((go_at_call 38; refine (rateError_ok _ _ _ r0 r1).mono ?_; rintro e w1 ⟨rfl, hb1⟩; obtain ⟨hc1, hf1, hz1⟩ := bcell hb1; (try simp at hz1))) | ((go_at_call 44; refine (kind_ok _ _ _ r0 r1).mono ?_; rintro e w1 ⟨rfl, hb1⟩; obtain ⟨hc1, hf1, hz1⟩ := bcell hb1; (try simp at hz1))) | go_in)
  have c0 : w1.cell? ⟨w.heap.size, 0, none⟩ = some (.int .i64 h) := by rw [hc1 _ _ (by simp)]; simp
  have c1 : w1.cell? ⟨w.heap.size, 1, none⟩ = some (.int .i64 m) := by rw [hc1 _ _ (by simp)]; simp
  have c2 : w1.cell? ⟨w.heap.size, 2, none⟩ = some (.int .i64 0) := by rw [hc1 _ _ (by simp)]; simp
  have c3 : w1.cell? ⟨w.heap.size, 3, none⟩ = some (.int .i64 f) := by rw [hc1 _ _ (by simp)]; simp
  have c4 := hc1 w.heap.size 4 (by simp)
  simp at c4
  have y10 : w.heap.size < w1.heap.size := by omega
  clear hc1 hf1 hz1
  haveI : Nonempty (Ext w1.heap.size w1) := Ext.ne _ _
  have g0 := Ext.cell (B := w1.heap.size) w.heap.size 0 _ y10 c0
  have g1 := Ext.cell (B := w1.heap.size) w.heap.size 1 _ y10 c1
  have g2 := Ext.cell (B := w1.heap.size) w.heap.size 2 _ y10 c2
  have g3 := Ext.cell (B := w1.heap.size) w.heap.size 3 _ y10 c3
  have g4 := Ext.cell (B := w1.heap.size) w.heap.size 4 _ y10 c4
  refine region_ext w1.heap.size (by kernel_rfl) (by kernel_rfl) ?_
  repeat (first | go_big_quiet_step (first | (go_at_call 21; refine ext_call (Nat.le_refl _) (Nominal_ok _ _ r0 r1)) | (go_at_call 45; refine ext_call (Nat.le_refl _) (RNominal_ok _ _ r0 r1))) | quiet_step (first | (go_at_call 21; refine ext_call (Nat.le_refl _) (Nominal_ok _ _ r0 r1)) | (go_at_call 45; refine ext_call (Nat.le_refl _) (RNominal_ok _ _ r0 r1))))
  refine ext_nil ?_
  intro w2 hb2
  clear g0 g1 g2 g3 g4 this
  have y20 : w.heap.size < w2.heap.size := Nat.lt_of_lt_of_le y10 hb2.size
  have c0' : w2.cell? ⟨w.heap.size, 0, none⟩ = _ := (hb2.cell (p := ⟨w.heap.size, 0, none⟩) y10).trans c0
  have c1' : w2.cell? ⟨w.heap.size, 1, none⟩ = _ := (hb2.cell (p := ⟨w.heap.size, 1, none⟩) y10).trans c1
  have c2' : w2.cell? ⟨w.heap.size, 2, none⟩ = _ := (hb2.cell (p := ⟨w.heap.size, 2, none⟩) y10).trans c2
  have c3' : w2.cell? ⟨w.heap.size, 3, none⟩ = _ := (hb2.cell (p := ⟨w.heap.size, 3, none⟩) y10).trans c3
  have c4' : w2.cell? ⟨w.heap.size, 4, none⟩ = _ := (hb2.cell (p := ⟨w.heap.size, 4, none⟩) y10).trans c4
  clear c0 c1 c2 c3 c4
  go_wp2
  haveI : Nonempty (Ext w2.heap.size w2) := Ext.ne _ _
  have g0 := Ext.cell (B := w2.heap.size) w.heap.size 0 _ y20 c0'
  have g1 := Ext.cell (B := w2.heap.size) w.heap.size 1 _ y20 c1'
  have g2 := Ext.cell (B := w2.heap.size) w.heap.size 2 _ y20 c2'
  have g3 := Ext.cell (B := w2.heap.size) w.heap.size 3 _ y20 c3'
  have g4 := Ext.cell (B := w2.heap.size) w.heap.size 4 _ y20 c4'
  refine region_ext w2.heap.size (by kernel_rfl) (by kernel_rfl) ?_
  repeat (first | go_big_quiet_step (first | (go_at_call 39; refine ext_same (dropped_ok _ _ _ r0 r1)) | (go_at_call 46; refine ext_same (Dropped_ok _ _ r0 r1))) | quiet_step (first | (go_at_call 39; refine ext_same (dropped_ok _ _ _ r0 r1)) | (go_at_call 46; refine ext_same (Dropped_ok _ _ r0 r1))))

  refine ext_nil ?_
  intro w3 hb3
  clear g0 g1 g2 g3 g4 this
  go_wp2
  go_ret
  exact ⟨rfl, by (repeat (first | exact Below.refl _ _ | assumption | refine Ba.below_step (by assumption) (by first | exact Nat.le_refl _ | omega | (simp; done) | (simp; omega)) ?_ | apply Below.drew | apply Ba.below_drewN | refine Below.alloc ?_ (by first | exact Nat.le_refl _ | omega | (simp; done) | (simp; omega)) _ | refine Below.setCell ?_ (by first | exact Nat.le_refl _ | omega | (simp; done) | (simp; omega)) _))⟩

set_option maxHeartbeats 1000000 in
theorem RCheck_d2 (r h m s f : Int)  (w : World) (r0 : 0 ≤ r) (r1 : r ≤ 255) (he : rerr r true = 0) (hh : 0 ≤ h ∧ h ≤ 23 ∧ 0 ≤ m ∧ m ≤ 59 ∧ 0 ≤ s ∧ s ≤ 59 ∧ 0 ≤ f ∧ f < nm r) (hd : ¬ m % 10 = 0 ∧ ¬ f < dp r true) :
    Calls Try.prog 29 #[.int .u8 r, .agg #[.int .i64 h, .int .i64 m, .int .i64 0, .int .i64 f, .bool true]] w fun e w' => e = .returned (.int .i64 0) ∧ Below w.heap.size w w' := by
  have t129 : decide (h < 0) = false := decide_eq_false (by omega)
  have t130 : decide (23 < h) = false := decide_eq_false (by omega)
  have t131 : decide (m < 0) = false := decide_eq_false (by omega)
  have t132 : decide (59 < m) = false := decide_eq_false (by omega)
  have t133 : decide (0 < 0) = false := decide_eq_false (by omega)
  have t134 : decide (59 < 0) = false := decide_eq_false (by omega)
  have t135 : decide (f < 0) = false := decide_eq_false (by omega)
  have t136 : decide (nm r ≤ f) = false := decide_eq_false (by omega)
  obtain ⟨a0, a1, m0, m1, s0, s1, f0, f1⟩ := hh
  have e1 : m.tmod 10 = m % 10 := Int.tmod_eq_emod_of_nonneg m0
  have u2 : (m % 10 != 0) = true := (by simpa using hd.1); have u3 : decide (f < dp r true) = false := decide_eq_false hd.2
  have hx : (rerr r true != 0) = false := by simp [he]
  go_enter Try.func29, Try.ntmps29
  go_wp2_with (first | ((go_at_call 38; refine (rateError_ok _ _ _ r0 r1).mono ?_; rintro e w1 ⟨rfl, hb1⟩; obtain ⟨hc1, hf1, hz1⟩ := bcell hb1; (try simp at hz1))) | ((go_at_call 44; refine (kind_ok _ _ _ r0 r1).mono ?_; rintro e w1 ⟨rfl, hb1⟩; obtain ⟨hc1, hf1, hz1⟩ := bcell hb1; (try simp at hz1))) | go_in)
  have c0 : w1.cell? ⟨w.heap.size, 0, none⟩ = some (.int .i64 h) := by rw [hc1 _ _ (by simp)]; simp
  have c1 : w1.cell? ⟨w.heap.size, 1, none⟩ = some (.int .i64 m) := by rw [hc1 _ _ (by simp)]; simp
  have c2 : w1.cell? ⟨w.heap.size, 2, none⟩ = some (.int .i64 0) := by rw [hc1 _ _ (by simp)]; simp
  have c3 : w1.cell? ⟨w.heap.size, 3, none⟩ = some (.int .i64 f) := by rw [hc1 _ _ (by simp)]; simp
  have c4 := hc1 w.heap.size 4 (by simp)
  simp at c4
  have y10 : w.heap.size < w1.heap.size := by omega
  clear hc1 hf1 hz1
  haveI : Nonempty (Ext w1.heap.size w1) := Ext.ne _ _
  have g0 := Ext.cell (B := w1.heap.size) w.heap.size 0 _ y10 c0
  have g1 := Ext.cell (B := w1.heap.size) w.heap.size 1 _ y10 c1
  have g2 := Ext.cell (B := w1.heap.size) w.heap.size 2 _ y10 c2
  have g3 := Ext.cell (B := w1.heap.size) w.heap.size 3 _ y10 c3
  have g4 := Ext.cell (B := w1.heap.size) w.heap.size 4 _ y10 c4
  refine region_ext w1.heap.size (by kernel_rfl) (by kernel_rfl) ?_
  repeat (first | go_big_quiet_step (first | (go_at_call 21; refine ext_call (Nat.le_refl _) (Nominal_ok _ _ r0 r1)) | (go_at_call 45; refine ext_call (Nat.le_refl _) (RNominal_ok _ _ r0 r1))) | quiet_step (first | (go_at_call 21; refine ext_call (Nat.le_refl _) (Nominal_ok _ _ r0 r1)) | (go_at_call 45; refine ext_call (Nat.le_refl _) (RNominal_ok _ _ r0 r1))))
  refine ext_nil ?_
  intro w2 hb2
  clear g0 g1 g2 g3 g4 this
  have y20 : w.heap.size < w2.heap.size := Nat.lt_of_lt_of_le y10 hb2.size
  have c0' : w2.cell? ⟨w.heap.size, 0, none⟩ = _ := (hb2.cell (p := ⟨w.heap.size, 0, none⟩) y10).trans c0
  have c1' : w2.cell? ⟨w.heap.size, 1, none⟩ = _ := (hb2.cell (p := ⟨w.heap.size, 1, none⟩) y10).trans c1
  have c2' : w2.cell? ⟨w.heap.size, 2, none⟩ = _ := (hb2.cell (p := ⟨w.heap.size, 2, none⟩) y10).trans c2
  have c3' : w2.cell? ⟨w.heap.size, 3, none⟩ = _ := (hb2.cell (p := ⟨w.heap.size, 3, none⟩) y10).trans c3
  have c4' : w2.cell? ⟨w.heap.size, 4, none⟩ = _ := (hb2.cell (p := ⟨w.heap.size, 4, none⟩) y10).trans c4
  clear c0 c1 c2 c3 c4
  go_wp2
  haveI : Nonempty (Ext w2.heap.size w2) := Ext.ne _ _
  have g0 := Ext.cell (B := w2.heap.size) w.heap.size 0 _ y20 c0'
  have g1 := Ext.cell (B := w2.heap.size) w.heap.size 1 _ y20 c1'
  have g2 := Ext.cell (B := w2.heap.size) w.heap.size 2 _ y20 c2'
  have g3 := Ext.cell (B := w2.heap.size) w.heap.size 3 _ y20 c3'
  have g4 := Ext.cell (B := w2.heap.size) w.heap.size 4 _ y20 c4'
  refine region_ext w2.heap.size (by kernel_rfl) (by kernel_rfl) ?_
  repeat (first | go_big_quiet_step (first | (go_at_call 39; refine ext_same (dropped_ok _ _ _ r0 r1)) | (go_at_call 46; refine ext_same (Dropped_ok _ _ r0 r1))) | quiet_step (first | (go_at_call 39; refine ext_same (dropped_ok _ _ _ r0 r1)) | (go_at_call 46; refine ext_same (Dropped_ok _ _ r0 r1))))

  refine ext_nil ?_
  intro w3 hb3
  clear g0 g1 g2 g3 g4 this
  go_wp2
  go_ret
  exact ⟨rfl, by (repeat (first | exact Below.refl _ _ | assumption | refine Ba.below_step (by assumption) (by first | exact Nat.le_refl _ | omega | (simp; done) | (simp; omega)) ?_ | apply Below.drew | apply Ba.below_drewN | refine Below.alloc ?_ (by first | exact Nat.le_refl _ | omega | (simp; done) | (simp; omega)) _ | refine Below.setCell ?_ (by first | exact Nat.le_refl _ | omega | (simp; done) | (simp; omega)) _))⟩

set_option maxHeartbeats 1000000 in
theorem RCheck_d3 (r h m s f : Int)  (w : World) (r0 : 0 ≤ r) (r1 : r ≤ 255) (he : rerr r true = 0) (hh : 0 ≤ h ∧ h ≤ 23 ∧ 0 ≤ m ∧ m ≤ 59 ∧ 0 ≤ s ∧ s ≤ 59 ∧ 0 ≤ f ∧ f < nm r) (hd : ¬ m % 10 = 0 ∧ f < dp r true) :
    Calls Try.prog 29 #[.int .u8 r, .agg #[.int .i64 h, .int .i64 m, .int .i64 0, .int .i64 f, .bool true]] w fun e w' => e = .returned (.int .i64 6) ∧ Below w.heap.size w w' := by
  have t137 : decide (h < 0) = false := decide_eq_false (by omega)
  have t138 : decide (23 < h) = false := decide_eq_false (by omega)
  have t139 : decide (m < 0) = false := decide_eq_false (by omega)
  have t140 : decide (59 < m) = false := decide_eq_false (by omega)
  have t141 : decide (0 < 0) = false := decide_eq_false (by omega)
  have t142 : decide (59 < 0) = false := decide_eq_false (by omega)
  have t143 : decide (f < 0) = false := decide_eq_false (by omega)
  have t144 : decide (nm r ≤ f) = false := decide_eq_false (by omega)
  obtain ⟨a0, a1, m0, m1, s0, s1, f0, f1⟩ := hh
  have e1 : m.tmod 10 = m % 10 := Int.tmod_eq_emod_of_nonneg m0
  have u2 : (m % 10 != 0) = true := (by simpa using hd.1); have u3 : decide (f < dp r true) = true := decide_eq_true hd.2
  have hx : (rerr r true != 0) = false := by simp [he]
  go_enter Try.func29, Try.ntmps29
  go_wp2_with (first | ((go_at_call 38; refine (rateError_ok _ _ _ r0 r1).mono ?_; rintro e w1 ⟨rfl, hb1⟩; obtain ⟨hc1, hf1, hz1⟩ := bcell hb1; (try simp at hz1))) | ((go_at_call 44; refine (kind_ok _ _ _ r0 r1).mono ?_; rintro e w1 ⟨rfl, hb1⟩; obtain ⟨hc1, hf1, hz1⟩ := bcell hb1; (try simp at hz1))) | go_in)
  have c0 : w1.cell? ⟨w.heap.size, 0, none⟩ = some (.int .i64 h) := by rw [hc1 _ _ (by simp)]; simp
  have c1 : w1.cell? ⟨w.heap.size, 1, none⟩ = some (.int .i64 m) := by rw [hc1 _ _ (by simp)]; simp
  have c2 : w1.cell? ⟨w.heap.size, 2, none⟩ = some (.int .i64 0) := by rw [hc1 _ _ (by simp)]; simp
  have c3 : w1.cell? ⟨w.heap.size, 3, none⟩ = some (.int .i64 f) := by rw [hc1 _ _ (by simp)]; simp
  have c4 := hc1 w.heap.size 4 (by simp)
  simp at c4
  have y10 : w.heap.size < w1.heap.size := by omega
  clear hc1 hf1 hz1
  haveI : Nonempty (Ext w1.heap.size w1) := Ext.ne _ _
  have g0 := Ext.cell (B := w1.heap.size) w.heap.size 0 _ y10 c0
  have g1 := Ext.cell (B := w1.heap.size) w.heap.size 1 _ y10 c1
  have g2 := Ext.cell (B := w1.heap.size) w.heap.size 2 _ y10 c2
  have g3 := Ext.cell (B := w1.heap.size) w.heap.size 3 _ y10 c3
  have g4 := Ext.cell (B := w1.heap.size) w.heap.size 4 _ y10 c4
  refine region_ext w1.heap.size (by kernel_rfl) (by kernel_rfl) ?_
  repeat (first | go_big_quiet_step (first | (go_at_call 21; refine ext_call (Nat.le_refl _) (Nominal_ok _ _ r0 r1)) | (go_at_call 45; refine ext_call (Nat.le_refl _) (RNominal_ok _ _ r0 r1))) | quiet_step (first | (go_at_call 21; refine ext_call (Nat.le_refl _) (Nominal_ok _ _ r0 r1)) | (go_at_call 45; refine ext_call (Nat.le_refl _) (RNominal_ok _ _ r0 r1))))
  refine ext_nil ?_
  intro w2 hb2
  clear g0 g1 g2 g3 g4 this
  have y20 : w.heap.size < w2.heap.size := Nat.lt_of_lt_of_le y10 hb2.size
  have c0' : w2.cell? ⟨w.heap.size, 0, none⟩ = _ := (hb2.cell (p := ⟨w.heap.size, 0, none⟩) y10).trans c0
  have c1' : w2.cell? ⟨w.heap.size, 1, none⟩ = _ := (hb2.cell (p := ⟨w.heap.size, 1, none⟩) y10).trans c1
  have c2' : w2.cell? ⟨w.heap.size, 2, none⟩ = _ := (hb2.cell (p := ⟨w.heap.size, 2, none⟩) y10).trans c2
  have c3' : w2.cell? ⟨w.heap.size, 3, none⟩ = _ := (hb2.cell (p := ⟨w.heap.size, 3, none⟩) y10).trans c3
  have c4' : w2.cell? ⟨w.heap.size, 4, none⟩ = _ := (hb2.cell (p := ⟨w.heap.size, 4, none⟩) y10).trans c4
  clear c0 c1 c2 c3 c4
  go_wp2
  haveI : Nonempty (Ext w2.heap.size w2) := Ext.ne _ _
  have g0 := Ext.cell (B := w2.heap.size) w.heap.size 0 _ y20 c0'
  have g1 := Ext.cell (B := w2.heap.size) w.heap.size 1 _ y20 c1'
  have g2 := Ext.cell (B := w2.heap.size) w.heap.size 2 _ y20 c2'
  have g3 := Ext.cell (B := w2.heap.size) w.heap.size 3 _ y20 c3'
  have g4 := Ext.cell (B := w2.heap.size) w.heap.size 4 _ y20 c4'
  refine region_ext w2.heap.size (by kernel_rfl) (by kernel_rfl) ?_
  repeat (first | go_big_quiet_step (first | (go_at_call 39; refine ext_same (dropped_ok _ _ _ r0 r1)) | (go_at_call 46; refine ext_same (Dropped_ok _ _ r0 r1))) | quiet_step (first | (go_at_call 39; refine ext_same (dropped_ok _ _ _ r0 r1)) | (go_at_call 46; refine ext_same (Dropped_ok _ _ r0 r1))))

  refine ext_nil ?_
  intro w3 hb3
  clear g0 g1 g2 g3 g4 this
  go_wp2
  go_ret
  exact ⟨rfl, by (repeat (first | exact Below.refl _ _ | assumption | refine Ba.below_step (by assumption) (by first | exact Nat.le_refl _ | omega | (simp; done) | (simp; omega)) ?_ | apply Below.drew | apply Ba.below_drewN | refine Below.alloc ?_ (by first | exact Nat.le_refl _ | omega | (simp; done) | (simp; omega)) _ | refine Below.setCell ?_ (by first | exact Nat.le_refl _ | omega | (simp; done) | (simp; omega)) _))⟩

theorem RCheck_any (r h m s f : Int) (d : Bool) (w : World) (r0 : 0 ≤ r) (r1 : r ≤ 255) :
    Calls Try.prog 29 #[.int .u8 r, .agg #[.int .i64 h, .int .i64 m, .int .i64 s, .int .i64 f, .bool d]] w fun e w' => e = .returned (.int .i64 (chk r h m s f d)) ∧ Below w.heap.size w w' := by
  unfold chk
  split
  · rename_i he; exact RCheck_e r h m s f d w r0 r1 he
  · rename_i he
    have he : rerr r d = 0 := by omega
    split
    · by_cases h0 : h < 0; (exact RCheck_r0 r h m s f d w r0 r1 he h0)
      by_cases h1 : 23 < h; (exact RCheck_r1 r h m s f d w r0 r1 he ⟨h0, h1⟩)
      by_cases h2 : m < 0; (exact RCheck_r2 r h m s f d w r0 r1 he ⟨h0, h1, h2⟩)
      by_cases h3 : 59 < m; (exact RCheck_r3 r h m s f d w r0 r1 he ⟨h0, h1, h2, h3⟩)
      by_cases h4 : s < 0; (exact RCheck_r4 r h m s f d w r0 r1 he ⟨h0, h1, h2, h3, h4⟩)
      by_cases h5 : 59 < s; (exact RCheck_r5 r h m s f d w r0 r1 he ⟨h0, h1, h2, h3, h4, h5⟩)
      by_cases h6 : f < 0; (exact RCheck_r6 r h m s f d w r0 r1 he ⟨h0, h1, h2, h3, h4, h5, h6⟩)
      exact RCheck_r7 r h m s f d w r0 r1 he ⟨h0, h1, h2, h3, h4, h5, h6, by omega⟩
    · have hh : 0 ≤ h ∧ h ≤ 23 ∧ 0 ≤ m ∧ m ≤ 59 ∧ 0 ≤ s ∧ s ≤ 59 ∧ 0 ≤ f ∧ f < nm r := by omega
      cases d
      · rw [if_neg (by have : dp r false = 0 := rfl; omega)]
        exact RCheck_d4 r h m s f w r0 r1 he hh trivial
      · split
        · rename_i hd; obtain ⟨h0, hd⟩ := hd; subst h0; exact RCheck_d3 r h m 0 f w r0 r1 he hh hd
        · by_cases h0 : s = 0
          · subst h0
            by_cases h1 : m % 10 = 0
            · exact RCheck_d1 r h m 0 f w r0 r1 he hh h1
            · exact RCheck_d2 r h m 0 f w r0 r1 he hh ⟨h1, by omega⟩
          · exact RCheck_d0 r h m s f w r0 r1 he hh h0
end Go.Proofs.Ytgllekaanaikhaa.Tb
