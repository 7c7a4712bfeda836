/- Frame of both packages. -/
import Derived.Test.YtgllekaanaikhaaChecked
import Derived.Test.YtgllekaanaikhaaBase
import Derived.Test.YtgllekaanaikhaaPm
import Derived.Test.YtgllekaanaikhaaExt
namespace Go.Proofs.Ytgllekaanaikhaa.Tb
open Go.RowKit Ba
set_option linter.unusedVariables false
set_option linter.unusedSimpArgs false


theorem wr64b (n : Int) (h0 : -9223372036854775808 ≤ n) (h1 : n ≤ 9223372036854775807) : IntKind.i64.wrap n = n := by rw [IntKind.wrap_i64]; omega
theorem Frame_e (r h m s f : Int) (d : Bool) (w : World) (r0 : 0 ≤ r) (r1 : r ≤ 255) (c : Int) (hx : (c != 0) = true) (H : Hid (chk r h m s f d = c)) :
    Calls Try.prog 16 #[.int .u8 r, .agg #[.int .i64 h, .int .i64 m, .int .i64 s, .int .i64 f, .bool d]] w fun e' w' => e' = .returned (.tuple #[.int .i64 0, .int .i64 c]) ∧ Below w.heap.size w w' := by
  go_enter Try.func16, Try.ntmps16
  go_wp2_with (first | (((go_at_call 28; refine (Check_any _ _ _ _ _ _ _ r0 r1).mono ?_; rintro e w1 ⟨rfl, hb1⟩; obtain ⟨hc1, hf1, hz1⟩ := bcell hb1; (try simp at hz1))); rw [H.out]) | (((go_at_call 29; refine (RCheck_any _ _ _ _ _ _ _ r0 r1).mono ?_; rintro e w1 ⟨rfl, hb1⟩; obtain ⟨hc1, hf1, hz1⟩ := bcell hb1; (try simp at hz1))); rw [H.out]) | go_in)
  go_ret2
  exact ⟨rfl, by (repeat (first | exact Below.refl _ _ | assumption | refine Ba.below_step (by assumption) (by first | exact Nat.le_refl _ | omega | (simp; done) | (simp; omega)) ?_ | apply Below.drew | apply Ba.below_drewN | refine Below.alloc ?_ (by first | exact Nat.le_refl _ | omega | (simp; done) | (simp; omega)) _ | refine Below.setCell ?_ (by first | exact Nat.le_refl _ | omega | (simp; done) | (simp; omega)) _))⟩

theorem RFrame_e (r h m s f : Int) (d : Bool) (w : World) (r0 : 0 ≤ r) (r1 : r ≤ 255) (c : Int) (hx : (c != 0) = true) (H : Hid (chk r h m s f d = c)) :
    Calls Try.prog 27 #[.int .u8 r, .agg #[.int .i64 h, .int .i64 m, .int .i64 s, .int .i64 f, .bool d]] w fun e' w' => e' = .returned (.tuple #[.int .i64 0, .int .i64 c]) ∧ Below w.heap.size w w' := by
  go_enter Try.func27, Try.ntmps27
  go_wp2_with (first | (((go_at_call 28; refine (Check_any _ _ _ _ _ _ _ r0 r1).mono ?_; rintro e w1 ⟨rfl, hb1⟩; obtain ⟨hc1, hf1, hz1⟩ := bcell hb1; (try simp at hz1))); rw [H.out]) | (((go_at_call 29; refine (RCheck_any _ _ _ _ _ _ _ r0 r1).mono ?_; rintro e w1 ⟨rfl, hb1⟩; obtain ⟨hc1, hf1, hz1⟩ := bcell hb1; (try simp at hz1))); rw [H.out]) | go_in)
  go_ret2
  exact ⟨rfl, by (repeat (first | exact Below.refl _ _ | assumption | refine Ba.below_step (by assumption) (by first | exact Nat.le_refl _ | omega | (simp; done) | (simp; omega)) ?_ | apply Below.drew | apply Ba.below_drewN | refine Below.alloc ?_ (by first | exact Nat.le_refl _ | omega | (simp; done) | (simp; omega)) _ | refine Below.setCell ?_ (by first | exact Nat.le_refl _ | omega | (simp; done) | (simp; omega)) _))⟩

set_option maxHeartbeats 1000000 in
theorem Frame_k (r h m s f : Int) (d : Bool) (w : World) (r0 : 0 ≤ r) (r1 : r ≤ 255) (H : Hid (chk r h m s f d = 0)) (h0 : 0 ≤ h) (h1 : h ≤ 23) (m0 : 0 ≤ m) (m1 : m ≤ 59) (s0 : 0 ≤ s) (s1 : s ≤ 59) (f0 : 0 ≤ f) (f1 : f ≤ 60)
    (p0 : 0 ≤ ((h * 60 + m) * 60 + s) * nm r) (p1 : ((h * 60 + m) * 60 + s) * nm r ≤ 5184000) (q0 : 0 ≤ dp r d * (h * 60 + m - (h * 60 + m) / 10)) (q1 : dp r d * (h * 60 + m - (h * 60 + m) / 10) ≤ 6000) :
    Calls Try.prog 16 #[.int .u8 r, .agg #[.int .i64 h, .int .i64 m, .int .i64 s, .int .i64 f, .bool d]] w fun e' w' => e' = .returned (.tuple #[.int .i64 (fr r h m s f d), .int .i64 0]) ∧ Below w.heap.size w w' := by
  go_enter Try.func16, Try.ntmps16
  go_wp2_with (first | (((go_at_call 28; refine (Check_any _ _ _ _ _ _ _ r0 r1).mono ?_; rintro e w1 ⟨rfl, hb1⟩; obtain ⟨hc1, hf1, hz1⟩ := bcell hb1; (try simp at hz1))); rw [H.out]) | (((go_at_call 29; refine (RCheck_any _ _ _ _ _ _ _ r0 r1).mono ?_; rintro e w1 ⟨rfl, hb1⟩; obtain ⟨hc1, hf1, hz1⟩ := bcell hb1; (try simp at hz1))); rw [H.out]) | go_in)
  have c0 : w1.cell? ⟨w.heap.size, 0, none⟩ = some (.int .i64 h) := by rw [hc1 _ _ (by simp)]; simp
  have c1 : w1.cell? ⟨w.heap.size, 1, none⟩ = some (.int .i64 m) := by rw [hc1 _ _ (by simp)]; simp
  have c2 : w1.cell? ⟨w.heap.size, 2, none⟩ = some (.int .i64 s) := by rw [hc1 _ _ (by simp)]; simp
  have c3 : w1.cell? ⟨w.heap.size, 3, none⟩ = some (.int .i64 f) := by rw [hc1 _ _ (by simp)]; simp
  have c4 : w1.cell? ⟨w.heap.size, 4, none⟩ = some (.bool d) := by rw [hc1 _ _ (by simp)]; simp
  have y10 : w.heap.size < w1.heap.size := by omega
  clear hc1 hf1 hz1
  haveI : Nonempty (Ext w1.heap.size w1) := Ext.ne _ _
  have g0 := Ext.cell (B := w1.heap.size) w.heap.size 0 _ y10 c0
  have g1 := Ext.cell (B := w1.heap.size) w.heap.size 1 _ y10 c1
  have g2 := Ext.cell (B := w1.heap.size) w.heap.size 2 _ y10 c2
  have g3 := Ext.cell (B := w1.heap.size) w.heap.size 3 _ y10 c3
  have g4 := Ext.cell (B := w1.heap.size) w.heap.size 4 _ y10 c4
  refine region_ext w1.heap.size (by kernel_rfl) (by kernel_rfl) ?_
  repeat ((first | go_big_quiet_step (first | (go_at_call 21; refine ext_call (Nat.le_refl _) (Nominal_ok _ _ r0 r1))) | quiet_step (first | (go_at_call 21; refine ext_call (Nat.le_refl _) (Nominal_ok _ _ r0 r1)))); (try simp (disch := omega) only [wr64b]))
  refine ext_nil ?_
  intro w2 hb2
  clear g0 g1 g2 g3 g4 this
  have y20 : w.heap.size < w2.heap.size := Nat.lt_of_lt_of_le y10 hb2.size
  have c0' : w2.cell? ⟨w.heap.size, 0, none⟩ = _ := (hb2.cell (p := ⟨w.heap.size, 0, none⟩) y10).trans c0
  have c1' : w2.cell? ⟨w.heap.size, 1, none⟩ = _ := (hb2.cell (p := ⟨w.heap.size, 1, none⟩) y10).trans c1
  have c2' : w2.cell? ⟨w.heap.size, 2, none⟩ = _ := (hb2.cell (p := ⟨w.heap.size, 2, none⟩) y10).trans c2
  have c3' : w2.cell? ⟨w.heap.size, 3, none⟩ = _ := (hb2.cell (p := ⟨w.heap.size, 3, none⟩) y10).trans c3
  have c4' : w2.cell? ⟨w.heap.size, 4, none⟩ = _ := (hb2.cell (p := ⟨w.heap.size, 4, none⟩) y10).trans c4
  clear c0 c1 c2 c3 c4
  go_wp2_with (first | (go_at_call 39; refine (dropped_ok _ _ _ r0 r1).mono ?_; rintro e w' ⟨rfl, rfl⟩) | go_in)
  go_ret2
  exact ⟨rfl, by (repeat (first | exact Below.refl _ _ | assumption | refine Ba.below_step (by assumption) (by first | exact Nat.le_refl _ | omega | (simp; done) | (simp; omega)) ?_ | apply Below.drew | apply Ba.below_drewN | refine Below.alloc ?_ (by first | exact Nat.le_refl _ | omega | (simp; done) | (simp; omega)) _ | refine Below.setCell ?_ (by first | exact Nat.le_refl _ | omega | (simp; done) | (simp; omega)) _))⟩
set_option maxHeartbeats 1000000 in
theorem RFrame_k (r h m s f : Int) (d : Bool) (w : World) (r0 : 0 ≤ r) (r1 : r ≤ 255) (H : Hid (chk r h m s f d = 0)) (h0 : 0 ≤ h) (h1 : h ≤ 23) (m0 : 0 ≤ m) (m1 : m ≤ 59) (s0 : 0 ≤ s) (s1 : s ≤ 59) (f0 : 0 ≤ f) (f1 : f ≤ 60)
    (p0 : 0 ≤ ((h * 60 + m) * 60 + s) * nm r) (p1 : ((h * 60 + m) * 60 + s) * nm r ≤ 5184000) (q0 : 0 ≤ dp r d * (h * 60 + m - (h * 60 + m) / 10)) (q1 : dp r d * (h * 60 + m - (h * 60 + m) / 10) ≤ 6000) :
    Calls Try.prog 27 #[.int .u8 r, .agg #[.int .i64 h, .int .i64 m, .int .i64 s, .int .i64 f, .bool d]] w fun e' w' => e' = .returned (.tuple #[.int .i64 (fr r h m s f d), .int .i64 0]) ∧ Below w.heap.size w w' := by
  cases d
  · have hq : fr r h m s f false = ((h * 60 + m) * 60 + s) * nm r + f := by
      unfold fr frN
      have : dp r false = 0 := rfl
      rw [this]; omega
    rw [hq]
    clear hq
    go_enter Try.func27, Try.ntmps27
    go_wp2_with (first | (((go_at_call 28; refine (Check_any _ _ _ _ _ _ _ r0 r1).mono ?_; rintro e w1 ⟨rfl, hb1⟩; obtain ⟨hc1, hf1, hz1⟩ := bcell hb1; (try simp at hz1))); rw [H.out]) | (((go_at_call 29; refine (RCheck_any _ _ _ _ _ _ _ r0 r1).mono ?_; rintro e w1 ⟨rfl, hb1⟩; obtain ⟨hc1, hf1, hz1⟩ := bcell hb1; (try simp at hz1))); rw [H.out]) | (((go_at_call 45; refine (RNominal_ok _ _ r0 r1).mono ?_; rintro e w2 ⟨rfl, hb2⟩; obtain ⟨hc2, hf2, hz2⟩ := bcell hb2; (try simp at hz2))); have k : ∀ o : Nat, w2.cell? { block := w.heap.size, off := o } = _ := fun o => ((hc2 w.heap.size o (by omega)).trans (hc1 w.heap.size o (by simp)))) | go_in)
    go_ret2
    exact ⟨rfl, by (repeat (first | exact Below.refl _ _ | assumption | refine Ba.below_step (by assumption) (by first | exact Nat.le_refl _ | omega | (simp; done) | (simp; omega)) ?_ | apply Below.drew | apply Ba.below_drewN | refine Below.alloc ?_ (by first | exact Nat.le_refl _ | omega | (simp; done) | (simp; omega)) _ | refine Below.setCell ?_ (by first | exact Nat.le_refl _ | omega | (simp; done) | (simp; omega)) _))⟩
  · go_enter Try.func27, Try.ntmps27
    go_wp2_with (first | (((go_at_call 28; refine (Check_any _ _ _ _ _ _ _ r0 r1).mono ?_; rintro e w1 ⟨rfl, hb1⟩; obtain ⟨hc1, hf1, hz1⟩ := bcell hb1; (try simp at hz1))); rw [H.out]) | (((go_at_call 29; refine (RCheck_any _ _ _ _ _ _ _ r0 r1).mono ?_; rintro e w1 ⟨rfl, hb1⟩; obtain ⟨hc1, hf1, hz1⟩ := bcell hb1; (try simp at hz1))); rw [H.out]) | (((go_at_call 45; refine (RNominal_ok _ _ r0 r1).mono ?_; rintro e w2 ⟨rfl, hb2⟩; obtain ⟨hc2, hf2, hz2⟩ := bcell hb2; (try simp at hz2))); have k : ∀ o : Nat, w2.cell? { block := w.heap.size, off := o } = _ := fun o => ((hc2 w.heap.size o (by omega)).trans (hc1 w.heap.size o (by simp)))) | (go_at_call 46; refine (Dropped_ok _ _ r0 r1).mono ?_; rintro e w' ⟨rfl, rfl⟩) | go_in)
    go_ret2
    exact ⟨rfl, by (repeat (first | exact Below.refl _ _ | assumption | refine Ba.below_step (by assumption) (by first | exact Nat.le_refl _ | omega | (simp; done) | (simp; omega)) ?_ | apply Below.drew | apply Ba.below_drewN | refine Below.alloc ?_ (by first | exact Nat.le_refl _ | omega | (simp; done) | (simp; omega)) _ | refine Below.setCell ?_ (by first | exact Nat.le_refl _ | omega | (simp; done) | (simp; omega)) _))⟩
theorem fr_p (r h m s f : Int) (d : Bool) (hc : chk r h m s f d = 0) : f ≤ 60 ∧ 0 ≤ ((h * 60 + m) * 60 + s) * nm r ∧ ((h * 60 + m) * 60 + s) * nm r ≤ 5184000 ∧ 0 ≤ dp r d * (h * 60 + m - (h * 60 + m) / 10) ∧ dp r d * (h * 60 + m - (h * 60 + m) / 10) ≤ 6000 := by
  obtain ⟨he, h0, h1, m0, m1, s0, s1, f0, f1, _⟩ := chk_0 r h m s f d hc
  rcases kinds r d he with ⟨k, l⟩ | ⟨k, l⟩ | ⟨k, l⟩ | ⟨k, l⟩ | ⟨k, l⟩ | ⟨k, l⟩ | ⟨k, l⟩ <;> rw [k, l] <;> rw [k] at f1 <;> omega
theorem Frame_any (r h m s f : Int) (d : Bool) (w : World) (r0 : 0 ≤ r) (r1 : r ≤ 255) :
    Calls Try.prog 16 #[.int .u8 r, .agg #[.int .i64 h, .int .i64 m, .int .i64 s, .int .i64 f, .bool d]] w fun e' w' => e' = .returned (ret2 (frmR r h m s f d)) ∧ Below w.heap.size w w' := by
  by_cases hc : chk r h m s f d = 0
  · have hx : frmR r h m s f d = (fr r h m s f d, 0) := by unfold frmR; rw [if_neg (by omega)]
    rw [hx]
    obtain ⟨he, h0, h1, m0, m1, s0, s1, f0, f1, _⟩ := chk_0 r h m s f d hc
    obtain ⟨f2, p0, p1, q0, q1⟩ := fr_p r h m s f d hc
    exact Frame_k r h m s f d w r0 r1 (Lib.hid hc) h0 h1 m0 m1 s0 s1 f0 f2 p0 p1 q0 q1
  · have hx : frmR r h m s f d = (0, chk r h m s f d) := by unfold frmR; rw [if_pos (by omega)]
    rw [hx]
    exact Frame_e r h m s f d w r0 r1 _ (by simpa using hc) (Lib.hid rfl)

theorem RFrame_any (r h m s f : Int) (d : Bool) (w : World) (r0 : 0 ≤ r) (r1 : r ≤ 255) :
    Calls Try.prog 27 #[.int .u8 r, .agg #[.int .i64 h, .int .i64 m, .int .i64 s, .int .i64 f, .bool d]] w fun e' w' => e' = .returned (ret2 (frmR r h m s f d)) ∧ Below w.heap.size w w' := by
  by_cases hc : chk r h m s f d = 0
  · have hx : frmR r h m s f d = (fr r h m s f d, 0) := by unfold frmR; rw [if_neg (by omega)]
    rw [hx]
    obtain ⟨he, h0, h1, m0, m1, s0, s1, f0, f1, _⟩ := chk_0 r h m s f d hc
    obtain ⟨f2, p0, p1, q0, q1⟩ := fr_p r h m s f d hc
    exact RFrame_k r h m s f d w r0 r1 (Lib.hid hc) h0 h1 m0 m1 s0 s1 f0 f2 p0 p1 q0 q1
  · have hx : frmR r h m s f d = (0, chk r h m s f d) := by unfold frmR; rw [if_pos (by omega)]
    rw [hx]
    exact RFrame_e r h m s f d w r0 r1 _ (by simpa using hc) (Lib.hid rfl)

end Go.Proofs.Ytgllekaanaikhaa.Tb
