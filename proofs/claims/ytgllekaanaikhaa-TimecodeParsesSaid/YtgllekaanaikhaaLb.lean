/- Label of both packages: the number of a frame among all labels, split into hours, minutes, seconds and frames. -/
import Derived.Test.YtgllekaanaikhaaChecked
import Derived.Test.YtgllekaanaikhaaBase
import Derived.Test.YtgllekaanaikhaaLa
import Derived.Test.YtgllekaanaikhaaExt
namespace Go.Proofs.Ytgllekaanaikhaa.Tb
open Go.RowKit Ba
set_option linter.unusedVariables false
set_option linter.unusedSimpArgs false

/-! ### Label -/
/-- The number of a frame among all labels of its rate, the left-out ones counted. -/
def num (n d f : Int) : Int := f + 9 * d * (f / (600 * n - 9 * d)) + (if 60 * n ≤ f % (600 * n - 9 * d) then d * ((f % (600 * n - 9 * d) - 60 * n) / (60 * n - d) + 1) else 0)
@[go_sem] def labV (x : Int × Int × Int × Int × Bool × Int) : Value := .tuple #[.agg #[.int .i64 x.1, .int .i64 x.2.1, .int .i64 x.2.2.1, .int .i64 x.2.2.2.1, .bool x.2.2.2.2.1], .int .i64 x.2.2.2.2.2]
def split4 (n : Int) (d : Bool) (N : Int) : Int × Int × Int × Int × Bool × Int := (N / n / 3600, N / n / 60 % 60, N / n % 60, N % n, d, 0)
def labR (r : Int) (d : Bool) (f : Int) : Int × Int × Int × Int × Bool × Int :=
  if rerr r d ≠ 0 then (0, 0, 0, 0, false, rerr r d) else if f < 0 ∨ day r d ≤ f then (0, 0, 0, 0, false, 2) else split4 (nm r) d (num (nm r) (dp r d) f)

theorem Label_24_0 (r : Int) (f : Int) (w : World) (r0 : 0 ≤ r) (r1 : r ≤ 255) (he : rerr r false = 0) (hn : nm r = 24) (hd : dp r false = 0) (f0 : 0 ≤ f) (f1 : f < 2073600) (hday : day r false = 2073600) :
    Calls Try.prog 15 #[.int .u8 r, .bool false, .int .i64 f] w fun e w' => e = .returned (labV (split4 24 false (num 24 0 f))) ∧ Below w.heap.size w w' := by
  have t1 : decide (f < 0) = false := decide_eq_false (by omega)
  have t2 : decide (2073600 ≤ f) = false := decide_eq_false (by omega)
  by_cases hc : 1440 ≤ f % 14400
  · have e1 : num 24 0 f = f + 0 * (f / 14400) + 0 * ((f % 14400 - 1440) / 1440 + 1) := by unfold num; rw [if_pos (by omega)]; omega
    rw [e1]
    clear e1
    have t3 : decide (1440 ≤ f % 14400) = true := decide_eq_true (by omega)
    go_enter Try.func15, Try.ntmps15
    go_wp2_with (first | (go_at_call 38; refine (rateError_ok _ _ _ r0 r1).mono ?_; rintro e w1 ⟨rfl, hb1⟩; obtain ⟨hc1, hf1, hz1⟩ := bcell hb1; (try simp at hz1)) | (go_at_call 44; refine (kind_ok _ _ _ r0 r1).mono ?_; rintro e w1 ⟨rfl, hb1⟩; obtain ⟨hc1, hf1, hz1⟩ := bcell hb1; (try simp at hz1)) | (go_at_call 14; refine (Day_any _ _ _ r0 r1).mono ?_; rintro e w2 ⟨rfl, hb2⟩; obtain ⟨hc2, hf2, hz2⟩ := bcell hb2; (try simp at hz2)) | (go_at_call 24; refine (RDay_any _ _ _ r0 r1).mono ?_; rintro e w2 ⟨rfl, hb2⟩; obtain ⟨hc2, hf2, hz2⟩ := bcell hb2; (try simp at hz2)) | (go_at_call 21; refine (Nominal_ok _ _ r0 r1).mono ?_; rintro e w3 ⟨rfl, hb3⟩; obtain ⟨hc3, hf3, hz3⟩ := bcell hb3; (try simp at hz3)) | (((go_at_call 45; refine (RNominal_ok _ _ r0 r1).mono ?_; rintro e w3 ⟨rfl, hb3⟩; obtain ⟨hc3, hf3, hz3⟩ := bcell hb3; (try simp at hz3))); have k : ∀ o : Nat, w3.cell? { block := w.heap.size, off := o } = _ := fun o => (hc3 w.heap.size o (by omega)).trans ((hc2 w.heap.size o (by omega)).trans (hc1 w.heap.size o (by simp))); have q : ∀ o : Nat, w3.frozen? { block := w.heap.size, off := o } = _ := fun o => (hf3 w.heap.size o (by omega)).trans ((hf2 w.heap.size o (by omega)).trans (hf1 w.heap.size o (by simp)))) | (go_at_call 39; refine (dropped_ok _ _ _ r0 r1).mono ?_; rintro e w' ⟨rfl, rfl⟩) | (go_at_call 46; refine (Dropped_ok _ _ r0 r1).mono ?_; rintro e w' ⟨rfl, rfl⟩) | go_in)
    have k : ∀ o : Nat, w3.cell? { block := w.heap.size, off := o } = _ := fun o => (hc3 w.heap.size o (by omega)).trans ((hc2 w.heap.size o (by omega)).trans (hc1 w.heap.size o (by simp)))
    have q : ∀ o : Nat, w3.frozen? { block := w.heap.size, off := o } = _ := fun o => (hf3 w.heap.size o (by omega)).trans ((hf2 w.heap.size o (by omega)).trans (hf1 w.heap.size o (by simp)))
    go_quiet (fail)
    go_wp2
    refine bodyPost_ret (v := labV (split4 24 false (f + 0 * (f / 14400) + 0 * ((f % 14400 - 1440) / 1440 + 1)))) (by simp [results, Try.results15, go_sem, ret3, ret2b, labV, split4, k]) rfl ⟨rfl, ?_⟩
    (repeat (first | (with_reducible exact Below.refl _ _) | (with_reducible assumption) | refine Below.setCell ?_ (by first | exact Nat.le_refl _ | omega | (simp; done) | (simp; omega)) _ | refine Ba.below_step (by assumption) (by first | exact Nat.le_refl _ | omega | (simp; done) | (simp; omega)) ?_ | apply Below.drew | apply Ba.below_drewN | refine Below.alloc ?_ (by first | exact Nat.le_refl _ | omega | (simp; done) | (simp; omega)) _ | refine Below.setCell ?_ (by first | exact Nat.le_refl _ | omega | (simp; done) | (simp; omega)) _))
  · have e1 : num 24 0 f = f + 0 * (f / 14400) := by unfold num; rw [if_neg (by omega)]; omega
    rw [e1]
    clear e1
    have t4 : decide (1440 ≤ f % 14400) = false := decide_eq_false (by omega)
    go_enter Try.func15, Try.ntmps15
    go_wp2_with (first | (go_at_call 38; refine (rateError_ok _ _ _ r0 r1).mono ?_; rintro e w1 ⟨rfl, hb1⟩; obtain ⟨hc1, hf1, hz1⟩ := bcell hb1; (try simp at hz1)) | (go_at_call 44; refine (kind_ok _ _ _ r0 r1).mono ?_; rintro e w1 ⟨rfl, hb1⟩; obtain ⟨hc1, hf1, hz1⟩ := bcell hb1; (try simp at hz1)) | (go_at_call 14; refine (Day_any _ _ _ r0 r1).mono ?_; rintro e w2 ⟨rfl, hb2⟩; obtain ⟨hc2, hf2, hz2⟩ := bcell hb2; (try simp at hz2)) | (go_at_call 24; refine (RDay_any _ _ _ r0 r1).mono ?_; rintro e w2 ⟨rfl, hb2⟩; obtain ⟨hc2, hf2, hz2⟩ := bcell hb2; (try simp at hz2)) | (go_at_call 21; refine (Nominal_ok _ _ r0 r1).mono ?_; rintro e w3 ⟨rfl, hb3⟩; obtain ⟨hc3, hf3, hz3⟩ := bcell hb3; (try simp at hz3)) | (((go_at_call 45; refine (RNominal_ok _ _ r0 r1).mono ?_; rintro e w3 ⟨rfl, hb3⟩; obtain ⟨hc3, hf3, hz3⟩ := bcell hb3; (try simp at hz3))); have k : ∀ o : Nat, w3.cell? { block := w.heap.size, off := o } = _ := fun o => (hc3 w.heap.size o (by omega)).trans ((hc2 w.heap.size o (by omega)).trans (hc1 w.heap.size o (by simp))); have q : ∀ o : Nat, w3.frozen? { block := w.heap.size, off := o } = _ := fun o => (hf3 w.heap.size o (by omega)).trans ((hf2 w.heap.size o (by omega)).trans (hf1 w.heap.size o (by simp)))) | (go_at_call 39; refine (dropped_ok _ _ _ r0 r1).mono ?_; rintro e w' ⟨rfl, rfl⟩) | (go_at_call 46; refine (Dropped_ok _ _ r0 r1).mono ?_; rintro e w' ⟨rfl, rfl⟩) | go_in)
    have k : ∀ o : Nat, w3.cell? { block := w.heap.size, off := o } = _ := fun o => (hc3 w.heap.size o (by omega)).trans ((hc2 w.heap.size o (by omega)).trans (hc1 w.heap.size o (by simp)))
    have q : ∀ o : Nat, w3.frozen? { block := w.heap.size, off := o } = _ := fun o => (hf3 w.heap.size o (by omega)).trans ((hf2 w.heap.size o (by omega)).trans (hf1 w.heap.size o (by simp)))
    go_quiet (fail)
    go_wp2
    refine bodyPost_ret (v := labV (split4 24 false (f + 0 * (f / 14400)))) (by simp [results, Try.results15, go_sem, ret3, ret2b, labV, split4, k]) rfl ⟨rfl, ?_⟩
    (repeat (first | (with_reducible exact Below.refl _ _) | (with_reducible assumption) | refine Below.setCell ?_ (by first | exact Nat.le_refl _ | omega | (simp; done) | (simp; omega)) _ | refine Ba.below_step (by assumption) (by first | exact Nat.le_refl _ | omega | (simp; done) | (simp; omega)) ?_ | apply Below.drew | apply Ba.below_drewN | refine Below.alloc ?_ (by first | exact Nat.le_refl _ | omega | (simp; done) | (simp; omega)) _ | refine Below.setCell ?_ (by first | exact Nat.le_refl _ | omega | (simp; done) | (simp; omega)) _))

theorem Label_25_0 (r : Int) (f : Int) (w : World) (r0 : 0 ≤ r) (r1 : r ≤ 255) (he : rerr r false = 0) (hn : nm r = 25) (hd : dp r false = 0) (f0 : 0 ≤ f) (f1 : f < 2160000) (hday : day r false = 2160000) :
    Calls Try.prog 15 #[.int .u8 r, .bool false, .int .i64 f] w fun e w' => e = .returned (labV (split4 25 false (num 25 0 f))) ∧ Below w.heap.size w w' := by
  have t5 : decide (f < 0) = false := decide_eq_false (by omega)
  have t6 : decide (2160000 ≤ f) = false := decide_eq_false (by omega)
  by_cases hc : 1500 ≤ f % 15000
  · have e1 : num 25 0 f = f + 0 * (f / 15000) + 0 * ((f % 15000 - 1500) / 1500 + 1) := by unfold num; rw [if_pos (by omega)]; omega
    rw [e1]
    clear e1
    have t7 : decide (1500 ≤ f % 15000) = true := decide_eq_true (by omega)
    go_enter Try.func15, Try.ntmps15
    go_wp2_with (first | (go_at_call 38; refine (rateError_ok _ _ _ r0 r1).mono ?_; rintro e w1 ⟨rfl, hb1⟩; obtain ⟨hc1, hf1, hz1⟩ := bcell hb1; (try simp at hz1)) | (go_at_call 44; refine (kind_ok _ _ _ r0 r1).mono ?_; rintro e w1 ⟨rfl, hb1⟩; obtain ⟨hc1, hf1, hz1⟩ := bcell hb1; (try simp at hz1)) | (go_at_call 14; refine (Day_any _ _ _ r0 r1).mono ?_; rintro e w2 ⟨rfl, hb2⟩; obtain ⟨hc2, hf2, hz2⟩ := bcell hb2; (try simp at hz2)) | (go_at_call 24; refine (RDay_any _ _ _ r0 r1).mono ?_; rintro e w2 ⟨rfl, hb2⟩; obtain ⟨hc2, hf2, hz2⟩ := bcell hb2; (try simp at hz2)) | (go_at_call 21; refine (Nominal_ok _ _ r0 r1).mono ?_; rintro e w3 ⟨rfl, hb3⟩; obtain ⟨hc3, hf3, hz3⟩ := bcell hb3; (try simp at hz3)) | (((go_at_call 45; refine (RNominal_ok _ _ r0 r1).mono ?_; rintro e w3 ⟨rfl, hb3⟩; obtain ⟨hc3, hf3, hz3⟩ := bcell hb3; (try simp at hz3))); have k : ∀ o : Nat, w3.cell? { block := w.heap.size, off := o } = _ := fun o => (hc3 w.heap.size o (by omega)).trans ((hc2 w.heap.size o (by omega)).trans (hc1 w.heap.size o (by simp))); have q : ∀ o : Nat, w3.frozen? { block := w.heap.size, off := o } = _ := fun o => (hf3 w.heap.size o (by omega)).trans ((hf2 w.heap.size o (by omega)).trans (hf1 w.heap.size o (by simp)))) | (go_at_call 39; refine (dropped_ok _ _ _ r0 r1).mono ?_; rintro e w' ⟨rfl, rfl⟩) | (go_at_call 46; refine (Dropped_ok _ _ r0 r1).mono ?_; rintro e w' ⟨rfl, rfl⟩) | go_in)
    have k : ∀ o : Nat, w3.cell? { block := w.heap.size, off := o } = _ := fun o => (hc3 w.heap.size o (by omega)).trans ((hc2 w.heap.size o (by omega)).trans (hc1 w.heap.size o (by simp)))
    have q : ∀ o : Nat, w3.frozen? { block := w.heap.size, off := o } = _ := fun o => (hf3 w.heap.size o (by omega)).trans ((hf2 w.heap.size o (by omega)).trans (hf1 w.heap.size o (by simp)))
    go_quiet (fail)
    go_wp2
    refine bodyPost_ret (v := labV (split4 25 false (f + 0 * (f / 15000) + 0 * ((f % 15000 - 1500) / 1500 + 1)))) (by simp [results, Try.results15, go_sem, ret3, ret2b, labV, split4, k]) rfl ⟨rfl, ?_⟩
    (repeat (first | (with_reducible exact Below.refl _ _) | (with_reducible assumption) | refine Below.setCell ?_ (by first | exact Nat.le_refl _ | omega | (simp; done) | (simp; omega)) _ | refine Ba.below_step (by assumption) (by first | exact Nat.le_refl _ | omega | (simp; done) | (simp; omega)) ?_ | apply Below.drew | apply Ba.below_drewN | refine Below.alloc ?_ (by first | exact Nat.le_refl _ | omega | (simp; done) | (simp; omega)) _ | refine Below.setCell ?_ (by first | exact Nat.le_refl _ | omega | (simp; done) | (simp; omega)) _))
  · have e1 : num 25 0 f = f + 0 * (f / 15000) := by unfold num; rw [if_neg (by omega)]; omega
    rw [e1]
    clear e1
    have t8 : decide (1500 ≤ f % 15000) = false := decide_eq_false (by omega)
    go_enter Try.func15, Try.ntmps15
    go_wp2_with (first | (go_at_call 38; refine (rateError_ok _ _ _ r0 r1).mono ?_; rintro e w1 ⟨rfl, hb1⟩; obtain ⟨hc1, hf1, hz1⟩ := bcell hb1; (try simp at hz1)) | (go_at_call 44; refine (kind_ok _ _ _ r0 r1).mono ?_; rintro e w1 ⟨rfl, hb1⟩; obtain ⟨hc1, hf1, hz1⟩ := bcell hb1; (try simp at hz1)) | (go_at_call 14; refine (Day_any _ _ _ r0 r1).mono ?_; rintro e w2 ⟨rfl, hb2⟩; obtain ⟨hc2, hf2, hz2⟩ := bcell hb2; (try simp at hz2)) | (go_at_call 24; refine (RDay_any _ _ _ r0 r1).mono ?_; rintro e w2 ⟨rfl, hb2⟩; obtain ⟨hc2, hf2, hz2⟩ := bcell hb2; (try simp at hz2)) | (go_at_call 21; refine (Nominal_ok _ _ r0 r1).mono ?_; rintro e w3 ⟨rfl, hb3⟩; obtain ⟨hc3, hf3, hz3⟩ := bcell hb3; (try simp at hz3)) | (((go_at_call 45; refine (RNominal_ok _ _ r0 r1).mono ?_; rintro e w3 ⟨rfl, hb3⟩; obtain ⟨hc3, hf3, hz3⟩ := bcell hb3; (try simp at hz3))); have k : ∀ o : Nat, w3.cell? { block := w.heap.size, off := o } = _ := fun o => (hc3 w.heap.size o (by omega)).trans ((hc2 w.heap.size o (by omega)).trans (hc1 w.heap.size o (by simp))); have q : ∀ o : Nat, w3.frozen? { block := w.heap.size, off := o } = _ := fun o => (hf3 w.heap.size o (by omega)).trans ((hf2 w.heap.size o (by omega)).trans (hf1 w.heap.size o (by simp)))) | (go_at_call 39; refine (dropped_ok _ _ _ r0 r1).mono ?_; rintro e w' ⟨rfl, rfl⟩) | (go_at_call 46; refine (Dropped_ok _ _ r0 r1).mono ?_; rintro e w' ⟨rfl, rfl⟩) | go_in)
    have k : ∀ o : Nat, w3.cell? { block := w.heap.size, off := o } = _ := fun o => (hc3 w.heap.size o (by omega)).trans ((hc2 w.heap.size o (by omega)).trans (hc1 w.heap.size o (by simp)))
    have q : ∀ o : Nat, w3.frozen? { block := w.heap.size, off := o } = _ := fun o => (hf3 w.heap.size o (by omega)).trans ((hf2 w.heap.size o (by omega)).trans (hf1 w.heap.size o (by simp)))
    go_quiet (fail)
    go_wp2
    refine bodyPost_ret (v := labV (split4 25 false (f + 0 * (f / 15000)))) (by simp [results, Try.results15, go_sem, ret3, ret2b, labV, split4, k]) rfl ⟨rfl, ?_⟩
    (repeat (first | (with_reducible exact Below.refl _ _) | (with_reducible assumption) | refine Below.setCell ?_ (by first | exact Nat.le_refl _ | omega | (simp; done) | (simp; omega)) _ | refine Ba.below_step (by assumption) (by first | exact Nat.le_refl _ | omega | (simp; done) | (simp; omega)) ?_ | apply Below.drew | apply Ba.below_drewN | refine Below.alloc ?_ (by first | exact Nat.le_refl _ | omega | (simp; done) | (simp; omega)) _ | refine Below.setCell ?_ (by first | exact Nat.le_refl _ | omega | (simp; done) | (simp; omega)) _))

theorem Label_30_0 (r : Int) (f : Int) (w : World) (r0 : 0 ≤ r) (r1 : r ≤ 255) (he : rerr r false = 0) (hn : nm r = 30) (hd : dp r false = 0) (f0 : 0 ≤ f) (f1 : f < 2592000) (hday : day r false = 2592000) :
    Calls Try.prog 15 #[.int .u8 r, .bool false, .int .i64 f] w fun e w' => e = .returned (labV (split4 30 false (num 30 0 f))) ∧ Below w.heap.size w w' := by
  have t9 : decide (f < 0) = false := decide_eq_false (by omega)
  have t10 : decide (2592000 ≤ f) = false := decide_eq_false (by omega)
  by_cases hc : 1800 ≤ f % 18000
  · have e1 : num 30 0 f = f + 0 * (f / 18000) + 0 * ((f % 18000 - 1800) / 1800 + 1) := by unfold num; rw [if_pos (by omega)]; omega
    rw [e1]
    clear e1
    have t11 : decide (1800 ≤ f % 18000) = true := decide_eq_true (by omega)
    go_enter Try.func15, Try.ntmps15
    go_wp2_with (first | (go_at_call 38; refine (rateError_ok _ _ _ r0 r1).mono ?_; rintro e w1 ⟨rfl, hb1⟩; obtain ⟨hc1, hf1, hz1⟩ := bcell hb1; (try simp at hz1)) | (go_at_call 44; refine (kind_ok _ _ _ r0 r1).mono ?_; rintro e w1 ⟨rfl, hb1⟩; obtain ⟨hc1, hf1, hz1⟩ := bcell hb1; (try simp at hz1)) | (go_at_call 14; refine (Day_any _ _ _ r0 r1).mono ?_; rintro e w2 ⟨rfl, hb2⟩; obtain ⟨hc2, hf2, hz2⟩ := bcell hb2; (try simp at hz2)) | (go_at_call 24; refine (RDay_any _ _ _ r0 r1).mono ?_; rintro e w2 ⟨rfl, hb2⟩; obtain ⟨hc2, hf2, hz2⟩ := bcell hb2; (try simp at hz2)) | (go_at_call 21; refine (Nominal_ok _ _ r0 r1).mono ?_; rintro e w3 ⟨rfl, hb3⟩; obtain ⟨hc3, hf3, hz3⟩ := bcell hb3; (try simp at hz3)) | (((go_at_call 45; refine (RNominal_ok _ _ r0 r1).mono ?_; rintro e w3 ⟨rfl, hb3⟩; obtain ⟨hc3, hf3, hz3⟩ := bcell hb3; (try simp at hz3))); have k : ∀ o : Nat, w3.cell? { block := w.heap.size, off := o } = _ := fun o => (hc3 w.heap.size o (by omega)).trans ((hc2 w.heap.size o (by omega)).trans (hc1 w.heap.size o (by simp))); have q : ∀ o : Nat, w3.frozen? { block := w.heap.size, off := o } = _ := fun o => (hf3 w.heap.size o (by omega)).trans ((hf2 w.heap.size o (by omega)).trans (hf1 w.heap.size o (by simp)))) | (go_at_call 39; refine (dropped_ok _ _ _ r0 r1).mono ?_; rintro e w' ⟨rfl, rfl⟩) | (go_at_call 46; refine (Dropped_ok _ _ r0 r1).mono ?_; rintro e w' ⟨rfl, rfl⟩) | go_in)
    have k : ∀ o : Nat, w3.cell? { block := w.heap.size, off := o } = _ := fun o => (hc3 w.heap.size o (by omega)).trans ((hc2 w.heap.size o (by omega)).trans (hc1 w.heap.size o (by simp)))
    have q : ∀ o : Nat, w3.frozen? { block := w.heap.size, off := o } = _ := fun o => (hf3 w.heap.size o (by omega)).trans ((hf2 w.heap.size o (by omega)).trans (hf1 w.heap.size o (by simp)))
    go_quiet (fail)
    go_wp2
    refine bodyPost_ret (v := labV (split4 30 false (f + 0 * (f / 18000) + 0 * ((f % 18000 - 1800) / 1800 + 1)))) (by simp [results, Try.results15, go_sem, ret3, ret2b, labV, split4, k]) rfl ⟨rfl, ?_⟩
    (repeat (first | (with_reducible exact Below.refl _ _) | (with_reducible assumption) | refine Below.setCell ?_ (by first | exact Nat.le_refl _ | omega | (simp; done) | (simp; omega)) _ | refine Ba.below_step (by assumption) (by first | exact Nat.le_refl _ | omega | (simp; done) | (simp; omega)) ?_ | apply Below.drew | apply Ba.below_drewN | refine Below.alloc ?_ (by first | exact Nat.le_refl _ | omega | (simp; done) | (simp; omega)) _ | refine Below.setCell ?_ (by first | exact Nat.le_refl _ | omega | (simp; done) | (simp; omega)) _))
  · have e1 : num 30 0 f = f + 0 * (f / 18000) := by unfold num; rw [if_neg (by omega)]; omega
    rw [e1]
    clear e1
    have t12 : decide (1800 ≤ f % 18000) = false := decide_eq_false (by omega)
    go_enter Try.func15, Try.ntmps15
    go_wp2_with (first | (go_at_call 38; refine (rateError_ok _ _ _ r0 r1).mono ?_; rintro e w1 ⟨rfl, hb1⟩; obtain ⟨hc1, hf1, hz1⟩ := bcell hb1; (try simp at hz1)) | (go_at_call 44; refine (kind_ok _ _ _ r0 r1).mono ?_; rintro e w1 ⟨rfl, hb1⟩; obtain ⟨hc1, hf1, hz1⟩ := bcell hb1; (try simp at hz1)) | (go_at_call 14; refine (Day_any _ _ _ r0 r1).mono ?_; rintro e w2 ⟨rfl, hb2⟩; obtain ⟨hc2, hf2, hz2⟩ := bcell hb2; (try simp at hz2)) | (go_at_call 24; refine (RDay_any _ _ _ r0 r1).mono ?_; rintro e w2 ⟨rfl, hb2⟩; obtain ⟨hc2, hf2, hz2⟩ := bcell hb2; (try simp at hz2)) | (go_at_call 21; refine (Nominal_ok _ _ r0 r1).mono ?_; rintro e w3 ⟨rfl, hb3⟩; obtain ⟨hc3, hf3, hz3⟩ := bcell hb3; (try simp at hz3)) | (((go_at_call 45; refine (RNominal_ok _ _ r0 r1).mono ?_; rintro e w3 ⟨rfl, hb3⟩; obtain ⟨hc3, hf3, hz3⟩ := bcell hb3; (try simp at hz3))); have k : ∀ o : Nat, w3.cell? { block := w.heap.size, off := o } = _ := fun o => (hc3 w.heap.size o (by omega)).trans ((hc2 w.heap.size o (by omega)).trans (hc1 w.heap.size o (by simp))); have q : ∀ o : Nat, w3.frozen? { block := w.heap.size, off := o } = _ := fun o => (hf3 w.heap.size o (by omega)).trans ((hf2 w.heap.size o (by omega)).trans (hf1 w.heap.size o (by simp)))) | (go_at_call 39; refine (dropped_ok _ _ _ r0 r1).mono ?_; rintro e w' ⟨rfl, rfl⟩) | (go_at_call 46; refine (Dropped_ok _ _ r0 r1).mono ?_; rintro e w' ⟨rfl, rfl⟩) | go_in)
    have k : ∀ o : Nat, w3.cell? { block := w.heap.size, off := o } = _ := fun o => (hc3 w.heap.size o (by omega)).trans ((hc2 w.heap.size o (by omega)).trans (hc1 w.heap.size o (by simp)))
    have q : ∀ o : Nat, w3.frozen? { block := w.heap.size, off := o } = _ := fun o => (hf3 w.heap.size o (by omega)).trans ((hf2 w.heap.size o (by omega)).trans (hf1 w.heap.size o (by simp)))
    go_quiet (fail)
    go_wp2
    refine bodyPost_ret (v := labV (split4 30 false (f + 0 * (f / 18000)))) (by simp [results, Try.results15, go_sem, ret3, ret2b, labV, split4, k]) rfl ⟨rfl, ?_⟩
    (repeat (first | (with_reducible exact Below.refl _ _) | (with_reducible assumption) | refine Below.setCell ?_ (by first | exact Nat.le_refl _ | omega | (simp; done) | (simp; omega)) _ | refine Ba.below_step (by assumption) (by first | exact Nat.le_refl _ | omega | (simp; done) | (simp; omega)) ?_ | apply Below.drew | apply Ba.below_drewN | refine Below.alloc ?_ (by first | exact Nat.le_refl _ | omega | (simp; done) | (simp; omega)) _ | refine Below.setCell ?_ (by first | exact Nat.le_refl _ | omega | (simp; done) | (simp; omega)) _))

theorem Label_50_0 (r : Int) (f : Int) (w : World) (r0 : 0 ≤ r) (r1 : r ≤ 255) (he : rerr r false = 0) (hn : nm r = 50) (hd : dp r false = 0) (f0 : 0 ≤ f) (f1 : f < 4320000) (hday : day r false = 4320000) :
    Calls Try.prog 15 #[.int .u8 r, .bool false, .int .i64 f] w fun e w' => e = .returned (labV (split4 50 false (num 50 0 f))) ∧ Below w.heap.size w w' := by
  have t13 : decide (f < 0) = false := decide_eq_false (by omega)
  have t14 : decide (4320000 ≤ f) = false := decide_eq_false (by omega)
  by_cases hc : 3000 ≤ f % 30000
  · have e1 : num 50 0 f = f + 0 * (f / 30000) + 0 * ((f % 30000 - 3000) / 3000 + 1) := by unfold num; rw [if_pos (by omega)]; omega
    rw [e1]
    clear e1
    have t15 : decide (3000 ≤ f % 30000) = true := decide_eq_true (by omega)
    go_enter Try.func15, Try.ntmps15
    go_wp2_with (first | (go_at_call 38; refine (rateError_ok _ _ _ r0 r1).mono ?_; rintro e w1 ⟨rfl, hb1⟩; obtain ⟨hc1, hf1, hz1⟩ := bcell hb1; (try simp at hz1)) | (go_at_call 44; refine (kind_ok _ _ _ r0 r1).mono ?_; rintro e w1 ⟨rfl, hb1⟩; obtain ⟨hc1, hf1, hz1⟩ := bcell hb1; (try simp at hz1)) | (go_at_call 14; refine (Day_any _ _ _ r0 r1).mono ?_; rintro e w2 ⟨rfl, hb2⟩; obtain ⟨hc2, hf2, hz2⟩ := bcell hb2; (try simp at hz2)) | (go_at_call 24; refine (RDay_any _ _ _ r0 r1).mono ?_; rintro e w2 ⟨rfl, hb2⟩; obtain ⟨hc2, hf2, hz2⟩ := bcell hb2; (try simp at hz2)) | (go_at_call 21; refine (Nominal_ok _ _ r0 r1).mono ?_; rintro e w3 ⟨rfl, hb3⟩; obtain ⟨hc3, hf3, hz3⟩ := bcell hb3; (try simp at hz3)) | (((go_at_call 45; refine (RNominal_ok _ _ r0 r1).mono ?_; rintro e w3 ⟨rfl, hb3⟩; obtain ⟨hc3, hf3, hz3⟩ := bcell hb3; (try simp at hz3))); have k : ∀ o : Nat, w3.cell? { block := w.heap.size, off := o } = _ := fun o => (hc3 w.heap.size o (by omega)).trans ((hc2 w.heap.size o (by omega)).trans (hc1 w.heap.size o (by simp))); have q : ∀ o : Nat, w3.frozen? { block := w.heap.size, off := o } = _ := fun o => (hf3 w.heap.size o (by omega)).trans ((hf2 w.heap.size o (by omega)).trans (hf1 w.heap.size o (by simp)))) | (go_at_call 39; refine (dropped_ok _ _ _ r0 r1).mono ?_; rintro e w' ⟨rfl, rfl⟩) | (go_at_call 46; refine (Dropped_ok _ _ r0 r1).mono ?_; rintro e w' ⟨rfl, rfl⟩) | go_in)
    have k : ∀ o : Nat, w3.cell? { block := w.heap.size, off := o } = _ := fun o => (hc3 w.heap.size o (by omega)).trans ((hc2 w.heap.size o (by omega)).trans (hc1 w.heap.size o (by simp)))
    have q : ∀ o : Nat, w3.frozen? { block := w.heap.size, off := o } = _ := fun o => (hf3 w.heap.size o (by omega)).trans ((hf2 w.heap.size o (by omega)).trans (hf1 w.heap.size o (by simp)))
    go_quiet (fail)
    go_wp2
    refine bodyPost_ret (v := labV (split4 50 false (f + 0 * (f / 30000) + 0 * ((f % 30000 - 3000) / 3000 + 1)))) (by simp [results, Try.results15, go_sem, ret3, ret2b, labV, split4, k]) rfl ⟨rfl, ?_⟩
    (repeat (first | (with_reducible exact Below.refl _ _) | (with_reducible assumption) | refine Below.setCell ?_ (by first | exact Nat.le_refl _ | omega | (simp; done) | (simp; omega)) _ | refine Ba.below_step (by assumption) (by first | exact Nat.le_refl _ | omega | (simp; done) | (simp; omega)) ?_ | apply Below.drew | apply Ba.below_drewN | refine Below.alloc ?_ (by first | exact Nat.le_refl _ | omega | (simp; done) | (simp; omega)) _ | refine Below.setCell ?_ (by first | exact Nat.le_refl _ | omega | (simp; done) | (simp; omega)) _))
  · have e1 : num 50 0 f = f + 0 * (f / 30000) := by unfold num; rw [if_neg (by omega)]; omega
    rw [e1]
    clear e1
    have t16 : decide (3000 ≤ f % 30000) = false := decide_eq_false (by omega)
    go_enter Try.func15, Try.ntmps15
    go_wp2_with (first | (go_at_call 38; refine (rateError_ok _ _ _ r0 r1).mono ?_; rintro e w1 ⟨rfl, hb1⟩; obtain ⟨hc1, hf1, hz1⟩ := bcell hb1; (try simp at hz1)) | (go_at_call 44; refine (kind_ok _ _ _ r0 r1).mono ?_; rintro e w1 ⟨rfl, hb1⟩; obtain ⟨hc1, hf1, hz1⟩ := bcell hb1; (try simp at hz1)) | (go_at_call 14; refine (Day_any _ _ _ r0 r1).mono ?_; rintro e w2 ⟨rfl, hb2⟩; obtain ⟨hc2, hf2, hz2⟩ := bcell hb2; (try simp at hz2)) | (go_at_call 24; refine (RDay_any _ _ _ r0 r1).mono ?_; rintro e w2 ⟨rfl, hb2⟩; obtain ⟨hc2, hf2, hz2⟩ := bcell hb2; (try simp at hz2)) | (go_at_call 21; refine (Nominal_ok _ _ r0 r1).mono ?_; rintro e w3 ⟨rfl, hb3⟩; obtain ⟨hc3, hf3, hz3⟩ := bcell hb3; (try simp at hz3)) | (((go_at_call 45; refine (RNominal_ok _ _ r0 r1).mono ?_; rintro e w3 ⟨rfl, hb3⟩; obtain ⟨hc3, hf3, hz3⟩ := bcell hb3; (try simp at hz3))); have k : ∀ o : Nat, w3.cell? { block := w.heap.size, off := o } = _ := fun o => (hc3 w.heap.size o (by omega)).trans ((hc2 w.heap.size o (by omega)).trans (hc1 w.heap.size o (by simp))); have q : ∀ o : Nat, w3.frozen? { block := w.heap.size, off := o } = _ := fun o => (hf3 w.heap.size o (by omega)).trans ((hf2 w.heap.size o (by omega)).trans (hf1 w.heap.size o (by simp)))) | (go_at_call 39; refine (dropped_ok _ _ _ r0 r1).mono ?_; rintro e w' ⟨rfl, rfl⟩) | (go_at_call 46; refine (Dropped_ok _ _ r0 r1).mono ?_; rintro e w' ⟨rfl, rfl⟩) | go_in)
    have k : ∀ o : Nat, w3.cell? { block := w.heap.size, off := o } = _ := fun o => (hc3 w.heap.size o (by omega)).trans ((hc2 w.heap.size o (by omega)).trans (hc1 w.heap.size o (by simp)))
    have q : ∀ o : Nat, w3.frozen? { block := w.heap.size, off := o } = _ := fun o => (hf3 w.heap.size o (by omega)).trans ((hf2 w.heap.size o (by omega)).trans (hf1 w.heap.size o (by simp)))
    go_quiet (fail)
    go_wp2
    refine bodyPost_ret (v := labV (split4 50 false (f + 0 * (f / 30000)))) (by simp [results, Try.results15, go_sem, ret3, ret2b, labV, split4, k]) rfl ⟨rfl, ?_⟩
    (repeat (first | (with_reducible exact Below.refl _ _) | (with_reducible assumption) | refine Below.setCell ?_ (by first | exact Nat.le_refl _ | omega | (simp; done) | (simp; omega)) _ | refine Ba.below_step (by assumption) (by first | exact Nat.le_refl _ | omega | (simp; done) | (simp; omega)) ?_ | apply Below.drew | apply Ba.below_drewN | refine Below.alloc ?_ (by first | exact Nat.le_refl _ | omega | (simp; done) | (simp; omega)) _ | refine Below.setCell ?_ (by first | exact Nat.le_refl _ | omega | (simp; done) | (simp; omega)) _))

theorem Label_60_0 (r : Int) (f : Int) (w : World) (r0 : 0 ≤ r) (r1 : r ≤ 255) (he : rerr r false = 0) (hn : nm r = 60) (hd : dp r false = 0) (f0 : 0 ≤ f) (f1 : f < 5184000) (hday : day r false = 5184000) :
    Calls Try.prog 15 #[.int .u8 r, .bool false, .int .i64 f] w fun e w' => e = .returned (labV (split4 60 false (num 60 0 f))) ∧ Below w.heap.size w w' := by
  have t17 : decide (f < 0) = false := decide_eq_false (by omega)
  have t18 : decide (5184000 ≤ f) = false := decide_eq_false (by omega)
  by_cases hc : 3600 ≤ f % 36000
  · have e1 : num 60 0 f = f + 0 * (f / 36000) + 0 * ((f % 36000 - 3600) / 3600 + 1) := by unfold num; rw [if_pos (by omega)]; omega
    rw [e1]
    clear e1
    have t19 : decide (3600 ≤ f % 36000) = true := decide_eq_true (by omega)
    go_enter Try.func15, Try.ntmps15
    go_wp2_with (first | (go_at_call 38; refine (rateError_ok _ _ _ r0 r1).mono ?_; rintro e w1 ⟨rfl, hb1⟩; obtain ⟨hc1, hf1, hz1⟩ := bcell hb1; (try simp at hz1)) | (go_at_call 44; refine (kind_ok _ _ _ r0 r1).mono ?_; rintro e w1 ⟨rfl, hb1⟩; obtain ⟨hc1, hf1, hz1⟩ := bcell hb1; (try simp at hz1)) | (go_at_call 14; refine (Day_any _ _ _ r0 r1).mono ?_; rintro e w2 ⟨rfl, hb2⟩; obtain ⟨hc2, hf2, hz2⟩ := bcell hb2; (try simp at hz2)) | (go_at_call 24; refine (RDay_any _ _ _ r0 r1).mono ?_; rintro e w2 ⟨rfl, hb2⟩; obtain ⟨hc2, hf2, hz2⟩ := bcell hb2; (try simp at hz2)) | (go_at_call 21; refine (Nominal_ok _ _ r0 r1).mono ?_; rintro e w3 ⟨rfl, hb3⟩; obtain ⟨hc3, hf3, hz3⟩ := bcell hb3; (try simp at hz3)) | (((go_at_call 45; refine (RNominal_ok _ _ r0 r1).mono ?_; rintro e w3 ⟨rfl, hb3⟩; obtain ⟨hc3, hf3, hz3⟩ := bcell hb3; (try simp at hz3))); have k : ∀ o : Nat, w3.cell? { block := w.heap.size, off := o } = _ := fun o => (hc3 w.heap.size o (by omega)).trans ((hc2 w.heap.size o (by omega)).trans (hc1 w.heap.size o (by simp))); have q : ∀ o : Nat, w3.frozen? { block := w.heap.size, off := o } = _ := fun o => (hf3 w.heap.size o (by omega)).trans ((hf2 w.heap.size o (by omega)).trans (hf1 w.heap.size o (by simp)))) | (go_at_call 39; refine (dropped_ok _ _ _ r0 r1).mono ?_; rintro e w' ⟨rfl, rfl⟩) | (go_at_call 46; refine (Dropped_ok _ _ r0 r1).mono ?_; rintro e w' ⟨rfl, rfl⟩) | go_in)
    have k : ∀ o : Nat, w3.cell? { block := w.heap.size, off := o } = _ := fun o => (hc3 w.heap.size o (by omega)).trans ((hc2 w.heap.size o (by omega)).trans (hc1 w.heap.size o (by simp)))
    have q : ∀ o : Nat, w3.frozen? { block := w.heap.size, off := o } = _ := fun o => (hf3 w.heap.size o (by omega)).trans ((hf2 w.heap.size o (by omega)).trans (hf1 w.heap.size o (by simp)))
    go_quiet (fail)
    go_wp2
    refine bodyPost_ret (v := labV (split4 60 false (f + 0 * (f / 36000) + 0 * ((f % 36000 - 3600) / 3600 + 1)))) (by simp [results, Try.results15, go_sem, ret3, ret2b, labV, split4, k]) rfl ⟨rfl, ?_⟩
    (repeat (first | (with_reducible exact Below.refl _ _) | (with_reducible assumption) | refine Below.setCell ?_ (by first | exact Nat.le_refl _ | omega | (simp; done) | (simp; omega)) _ | refine Ba.below_step (by assumption) (by first | exact Nat.le_refl _ | omega | (simp; done) | (simp; omega)) ?_ | apply Below.drew | apply Ba.below_drewN | refine Below.alloc ?_ (by first | exact Nat.le_refl _ | omega | (simp; done) | (simp; omega)) _ | refine Below.setCell ?_ (by first | exact Nat.le_refl _ | omega | (simp; done) | (simp; omega)) _))
  · have e1 : num 60 0 f = f + 0 * (f / 36000) := by unfold num; rw [if_neg (by omega)]; omega
    rw [e1]
    clear e1
    have t20 : decide (3600 ≤ f % 36000) = false := decide_eq_false (by omega)
    go_enter Try.func15, Try.ntmps15
    go_wp2_with (first | (go_at_call 38; refine (rateError_ok _ _ _ r0 r1).mono ?_; rintro e w1 ⟨rfl, hb1⟩; obtain ⟨hc1, hf1, hz1⟩ := bcell hb1; (try simp at hz1)) | (go_at_call 44; refine (kind_ok _ _ _ r0 r1).mono ?_; rintro e w1 ⟨rfl, hb1⟩; obtain ⟨hc1, hf1, hz1⟩ := bcell hb1; (try simp at hz1)) | (go_at_call 14; refine (Day_any _ _ _ r0 r1).mono ?_; rintro e w2 ⟨rfl, hb2⟩; obtain ⟨hc2, hf2, hz2⟩ := bcell hb2; (try simp at hz2)) | (go_at_call 24; refine (RDay_any _ _ _ r0 r1).mono ?_; rintro e w2 ⟨rfl, hb2⟩; obtain ⟨hc2, hf2, hz2⟩ := bcell hb2; (try simp at hz2)) | (go_at_call 21; refine (Nominal_ok _ _ r0 r1).mono ?_; rintro e w3 ⟨rfl, hb3⟩; obtain ⟨hc3, hf3, hz3⟩ := bcell hb3; (try simp at hz3)) | (((go_at_call 45; refine (RNominal_ok _ _ r0 r1).mono ?_; rintro e w3 ⟨rfl, hb3⟩; obtain ⟨hc3, hf3, hz3⟩ := bcell hb3; (try simp at hz3))); have k : ∀ o : Nat, w3.cell? { block := w.heap.size, off := o } = _ := fun o => (hc3 w.heap.size o (by omega)).trans ((hc2 w.heap.size o (by omega)).trans (hc1 w.heap.size o (by simp))); have q : ∀ o : Nat, w3.frozen? { block := w.heap.size, off := o } = _ := fun o => (hf3 w.heap.size o (by omega)).trans ((hf2 w.heap.size o (by omega)).trans (hf1 w.heap.size o (by simp)))) | (go_at_call 39; refine (dropped_ok _ _ _ r0 r1).mono ?_; rintro e w' ⟨rfl, rfl⟩) | (go_at_call 46; refine (Dropped_ok _ _ r0 r1).mono ?_; rintro e w' ⟨rfl, rfl⟩) | go_in)
    have k : ∀ o : Nat, w3.cell? { block := w.heap.size, off := o } = _ := fun o => (hc3 w.heap.size o (by omega)).trans ((hc2 w.heap.size o (by omega)).trans (hc1 w.heap.size o (by simp)))
    have q : ∀ o : Nat, w3.frozen? { block := w.heap.size, off := o } = _ := fun o => (hf3 w.heap.size o (by omega)).trans ((hf2 w.heap.size o (by omega)).trans (hf1 w.heap.size o (by simp)))
    go_quiet (fail)
    go_wp2
    refine bodyPost_ret (v := labV (split4 60 false (f + 0 * (f / 36000)))) (by simp [results, Try.results15, go_sem, ret3, ret2b, labV, split4, k]) rfl ⟨rfl, ?_⟩
    (repeat (first | (with_reducible exact Below.refl _ _) | (with_reducible assumption) | refine Below.setCell ?_ (by first | exact Nat.le_refl _ | omega | (simp; done) | (simp; omega)) _ | refine Ba.below_step (by assumption) (by first | exact Nat.le_refl _ | omega | (simp; done) | (simp; omega)) ?_ | apply Below.drew | apply Ba.below_drewN | refine Below.alloc ?_ (by first | exact Nat.le_refl _ | omega | (simp; done) | (simp; omega)) _ | refine Below.setCell ?_ (by first | exact Nat.le_refl _ | omega | (simp; done) | (simp; omega)) _))

theorem Label_30_2 (r : Int) (f : Int) (w : World) (r0 : 0 ≤ r) (r1 : r ≤ 255) (he : rerr r true = 0) (hn : nm r = 30) (hd : dp r true = 2) (f0 : 0 ≤ f) (f1 : f < 2589408) (hday : day r true = 2589408) :
    Calls Try.prog 15 #[.int .u8 r, .bool true, .int .i64 f] w fun e w' => e = .returned (labV (split4 30 true (num 30 2 f))) ∧ Below w.heap.size w w' := by
  have t21 : decide (f < 0) = false := decide_eq_false (by omega)
  have t22 : decide (2589408 ≤ f) = false := decide_eq_false (by omega)
  by_cases hc : 1800 ≤ f % 17982
  · have e1 : num 30 2 f = f + 18 * (f / 17982) + 2 * ((f % 17982 - 1800) / 1798 + 1) := by unfold num; rw [if_pos (by omega)]; omega
    rw [e1]
    clear e1
    have t23 : decide (1800 ≤ f % 17982) = true := decide_eq_true (by omega)
    go_enter Try.func15, Try.ntmps15
    go_wp2_with (first | (go_at_call 38; refine (rateError_ok _ _ _ r0 r1).mono ?_; rintro e w1 ⟨rfl, hb1⟩; obtain ⟨hc1, hf1, hz1⟩ := bcell hb1; (try simp at hz1)) | (go_at_call 44; refine (kind_ok _ _ _ r0 r1).mono ?_; rintro e w1 ⟨rfl, hb1⟩; obtain ⟨hc1, hf1, hz1⟩ := bcell hb1; (try simp at hz1)) | (go_at_call 14; refine (Day_any _ _ _ r0 r1).mono ?_; rintro e w2 ⟨rfl, hb2⟩; obtain ⟨hc2, hf2, hz2⟩ := bcell hb2; (try simp at hz2)) | (go_at_call 24; refine (RDay_any _ _ _ r0 r1).mono ?_; rintro e w2 ⟨rfl, hb2⟩; obtain ⟨hc2, hf2, hz2⟩ := bcell hb2; (try simp at hz2)) | (go_at_call 21; refine (Nominal_ok _ _ r0 r1).mono ?_; rintro e w3 ⟨rfl, hb3⟩; obtain ⟨hc3, hf3, hz3⟩ := bcell hb3; (try simp at hz3)) | (((go_at_call 45; refine (RNominal_ok _ _ r0 r1).mono ?_; rintro e w3 ⟨rfl, hb3⟩; obtain ⟨hc3, hf3, hz3⟩ := bcell hb3; (try simp at hz3))); have k : ∀ o : Nat, w3.cell? { block := w.heap.size, off := o } = _ := fun o => (hc3 w.heap.size o (by omega)).trans ((hc2 w.heap.size o (by omega)).trans (hc1 w.heap.size o (by simp))); have q : ∀ o : Nat, w3.frozen? { block := w.heap.size, off := o } = _ := fun o => (hf3 w.heap.size o (by omega)).trans ((hf2 w.heap.size o (by omega)).trans (hf1 w.heap.size o (by simp)))) | (go_at_call 39; refine (dropped_ok _ _ _ r0 r1).mono ?_; rintro e w' ⟨rfl, rfl⟩) | (go_at_call 46; refine (Dropped_ok _ _ r0 r1).mono ?_; rintro e w' ⟨rfl, rfl⟩) | go_in)
    have k : ∀ o : Nat, w3.cell? { block := w.heap.size, off := o } = _ := fun o => (hc3 w.heap.size o (by omega)).trans ((hc2 w.heap.size o (by omega)).trans (hc1 w.heap.size o (by simp)))
    have q : ∀ o : Nat, w3.frozen? { block := w.heap.size, off := o } = _ := fun o => (hf3 w.heap.size o (by omega)).trans ((hf2 w.heap.size o (by omega)).trans (hf1 w.heap.size o (by simp)))
    go_quiet (fail)
    go_wp2
    refine bodyPost_ret (v := labV (split4 30 true (f + 18 * (f / 17982) + 2 * ((f % 17982 - 1800) / 1798 + 1)))) (by simp [results, Try.results15, go_sem, ret3, ret2b, labV, split4, k]) rfl ⟨rfl, ?_⟩
    (repeat (first | (with_reducible exact Below.refl _ _) | (with_reducible assumption) | refine Below.setCell ?_ (by first | exact Nat.le_refl _ | omega | (simp; done) | (simp; omega)) _ | refine Ba.below_step (by assumption) (by first | exact Nat.le_refl _ | omega | (simp; done) | (simp; omega)) ?_ | apply Below.drew | apply Ba.below_drewN | refine Below.alloc ?_ (by first | exact Nat.le_refl _ | omega | (simp; done) | (simp; omega)) _ | refine Below.setCell ?_ (by first | exact Nat.le_refl _ | omega | (simp; done) | (simp; omega)) _))
  · have e1 : num 30 2 f = f + 18 * (f / 17982) := by unfold num; rw [if_neg (by omega)]; omega
    rw [e1]
    clear e1
    have t24 : decide (1800 ≤ f % 17982) = false := decide_eq_false (by omega)
    go_enter Try.func15, Try.ntmps15
    go_wp2_with (first | (go_at_call 38; refine (rateError_ok _ _ _ r0 r1).mono ?_; rintro e w1 ⟨rfl, hb1⟩; obtain ⟨hc1, hf1, hz1⟩ := bcell hb1; (try simp at hz1)) | (go_at_call 44; refine (kind_ok _ _ _ r0 r1).mono ?_; rintro e w1 ⟨rfl, hb1⟩; obtain ⟨hc1, hf1, hz1⟩ := bcell hb1; (try simp at hz1)) | (go_at_call 14; refine (Day_any _ _ _ r0 r1).mono ?_; rintro e w2 ⟨rfl, hb2⟩; obtain ⟨hc2, hf2, hz2⟩ := bcell hb2; (try simp at hz2)) | (go_at_call 24; refine (RDay_any _ _ _ r0 r1).mono ?_; rintro e w2 ⟨rfl, hb2⟩; obtain ⟨hc2, hf2, hz2⟩ := bcell hb2; (try simp at hz2)) | (go_at_call 21; refine (Nominal_ok _ _ r0 r1).mono ?_; rintro e w3 ⟨rfl, hb3⟩; obtain ⟨hc3, hf3, hz3⟩ := bcell hb3; (try simp at hz3)) | (((go_at_call 45; refine (RNominal_ok _ _ r0 r1).mono ?_; rintro e w3 ⟨rfl, hb3⟩; obtain ⟨hc3, hf3, hz3⟩ := bcell hb3; (try simp at hz3))); have k : ∀ o : Nat, w3.cell? { block := w.heap.size, off := o } = _ := fun o => (hc3 w.heap.size o (by omega)).trans ((hc2 w.heap.size o (by omega)).trans (hc1 w.heap.size o (by simp))); have q : ∀ o : Nat, w3.frozen? { block := w.heap.size, off := o } = _ := fun o => (hf3 w.heap.size o (by omega)).trans ((hf2 w.heap.size o (by omega)).trans (hf1 w.heap.size o (by simp)))) | (go_at_call 39; refine (dropped_ok _ _ _ r0 r1).mono ?_; rintro e w' ⟨rfl, rfl⟩) | (go_at_call 46; refine (Dropped_ok _ _ r0 r1).mono ?_; rintro e w' ⟨rfl, rfl⟩) | go_in)
    have k : ∀ o : Nat, w3.cell? { block := w.heap.size, off := o } = _ := fun o => (hc3 w.heap.size o (by omega)).trans ((hc2 w.heap.size o (by omega)).trans (hc1 w.heap.size o (by simp)))
    have q : ∀ o : Nat, w3.frozen? { block := w.heap.size, off := o } = _ := fun o => (hf3 w.heap.size o (by omega)).trans ((hf2 w.heap.size o (by omega)).trans (hf1 w.heap.size o (by simp)))
    go_quiet (fail)
    go_wp2
    refine bodyPost_ret (v := labV (split4 30 true (f + 18 * (f / 17982)))) (by simp [results, Try.results15, go_sem, ret3, ret2b, labV, split4, k]) rfl ⟨rfl, ?_⟩
    (repeat (first | (with_reducible exact Below.refl _ _) | (with_reducible assumption) | refine Below.setCell ?_ (by first | exact Nat.le_refl _ | omega | (simp; done) | (simp; omega)) _ | refine Ba.below_step (by assumption) (by first | exact Nat.le_refl _ | omega | (simp; done) | (simp; omega)) ?_ | apply Below.drew | apply Ba.below_drewN | refine Below.alloc ?_ (by first | exact Nat.le_refl _ | omega | (simp; done) | (simp; omega)) _ | refine Below.setCell ?_ (by first | exact Nat.le_refl _ | omega | (simp; done) | (simp; omega)) _))

theorem Label_60_4 (r : Int) (f : Int) (w : World) (r0 : 0 ≤ r) (r1 : r ≤ 255) (he : rerr r true = 0) (hn : nm r = 60) (hd : dp r true = 4) (f0 : 0 ≤ f) (f1 : f < 5178816) (hday : day r true = 5178816) :
    Calls Try.prog 15 #[.int .u8 r, .bool true, .int .i64 f] w fun e w' => e = .returned (labV (split4 60 true (num 60 4 f))) ∧ Below w.heap.size w w' := by
  have t25 : decide (f < 0) = false := decide_eq_false (by omega)
  have t26 : decide (5178816 ≤ f) = false := decide_eq_false (by omega)
  by_cases hc : 3600 ≤ f % 35964
  · have e1 : num 60 4 f = f + 36 * (f / 35964) + 4 * ((f % 35964 - 3600) / 3596 + 1) := by unfold num; rw [if_pos (by omega)]; omega
    rw [e1]
    clear e1
    have t27 : decide (3600 ≤ f % 35964) = true := decide_eq_true (by omega)
    go_enter Try.func15, Try.ntmps15
    go_wp2_with (first | (go_at_call 38; refine (rateError_ok _ _ _ r0 r1).mono ?_; rintro e w1 ⟨rfl, hb1⟩; obtain ⟨hc1, hf1, hz1⟩ := bcell hb1; (try simp at hz1)) | (go_at_call 44; refine (kind_ok _ _ _ r0 r1).mono ?_; rintro e w1 ⟨rfl, hb1⟩; obtain ⟨hc1, hf1, hz1⟩ := bcell hb1; (try simp at hz1)) | (go_at_call 14; refine (Day_any _ _ _ r0 r1).mono ?_; rintro e w2 ⟨rfl, hb2⟩; obtain ⟨hc2, hf2, hz2⟩ := bcell hb2; (try simp at hz2)) | (go_at_call 24; refine (RDay_any _ _ _ r0 r1).mono ?_; rintro e w2 ⟨rfl, hb2⟩; obtain ⟨hc2, hf2, hz2⟩ := bcell hb2; (try simp at hz2)) | (go_at_call 21; refine (Nominal_ok _ _ r0 r1).mono ?_; rintro e w3 ⟨rfl, hb3⟩; obtain ⟨hc3, hf3, hz3⟩ := bcell hb3; (try simp at hz3)) | (((go_at_call 45; refine (RNominal_ok _ _ r0 r1).mono ?_; rintro e w3 ⟨rfl, hb3⟩; obtain ⟨hc3, hf3, hz3⟩ := bcell hb3; (try simp at hz3))); have k : ∀ o : Nat, w3.cell? { block := w.heap.size, off := o } = _ := fun o => (hc3 w.heap.size o (by omega)).trans ((hc2 w.heap.size o (by omega)).trans (hc1 w.heap.size o (by simp))); have q : ∀ o : Nat, w3.frozen? { block := w.heap.size, off := o } = _ := fun o => (hf3 w.heap.size o (by omega)).trans ((hf2 w.heap.size o (by omega)).trans (hf1 w.heap.size o (by simp)))) | (go_at_call 39; refine (dropped_ok _ _ _ r0 r1).mono ?_; rintro e w' ⟨rfl, rfl⟩) | (go_at_call 46; refine (Dropped_ok _ _ r0 r1).mono ?_; rintro e w' ⟨rfl, rfl⟩) | go_in)
    have k : ∀ o : Nat, w3.cell? { block := w.heap.size, off := o } = _ := fun o => (hc3 w.heap.size o (by omega)).trans ((hc2 w.heap.size o (by omega)).trans (hc1 w.heap.size o (by simp)))
    have q : ∀ o : Nat, w3.frozen? { block := w.heap.size, off := o } = _ := fun o => (hf3 w.heap.size o (by omega)).trans ((hf2 w.heap.size o (by omega)).trans (hf1 w.heap.size o (by simp)))
    go_quiet (fail)
    go_wp2
    refine bodyPost_ret (v := labV (split4 60 true (f + 36 * (f / 35964) + 4 * ((f % 35964 - 3600) / 3596 + 1)))) (by simp [results, Try.results15, go_sem, ret3, ret2b, labV, split4, k]) rfl ⟨rfl, ?_⟩
    (repeat (first | (with_reducible exact Below.refl _ _) | (with_reducible assumption) | refine Below.setCell ?_ (by first | exact Nat.le_refl _ | omega | (simp; done) | (simp; omega)) _ | refine Ba.below_step (by assumption) (by first | exact Nat.le_refl _ | omega | (simp; done) | (simp; omega)) ?_ | apply Below.drew | apply Ba.below_drewN | refine Below.alloc ?_ (by first | exact Nat.le_refl _ | omega | (simp; done) | (simp; omega)) _ | refine Below.setCell ?_ (by first | exact Nat.le_refl _ | omega | (simp; done) | (simp; omega)) _))
  · have e1 : num 60 4 f = f + 36 * (f / 35964) := by unfold num; rw [if_neg (by omega)]; omega
    rw [e1]
    clear e1
    have t28 : decide (3600 ≤ f % 35964) = false := decide_eq_false (by omega)
    go_enter Try.func15, Try.ntmps15
    go_wp2_with (first | (go_at_call 38; refine (rateError_ok _ _ _ r0 r1).mono ?_; rintro e w1 ⟨rfl, hb1⟩; obtain ⟨hc1, hf1, hz1⟩ := bcell hb1; (try simp at hz1)) | (go_at_call 44; refine (kind_ok _ _ _ r0 r1).mono ?_; rintro e w1 ⟨rfl, hb1⟩; obtain ⟨hc1, hf1, hz1⟩ := bcell hb1; (try simp at hz1)) | (go_at_call 14; refine (Day_any _ _ _ r0 r1).mono ?_; rintro e w2 ⟨rfl, hb2⟩; obtain ⟨hc2, hf2, hz2⟩ := bcell hb2; (try simp at hz2)) | (go_at_call 24; refine (RDay_any _ _ _ r0 r1).mono ?_; rintro e w2 ⟨rfl, hb2⟩; obtain ⟨hc2, hf2, hz2⟩ := bcell hb2; (try simp at hz2)) | (go_at_call 21; refine (Nominal_ok _ _ r0 r1).mono ?_; rintro e w3 ⟨rfl, hb3⟩; obtain ⟨hc3, hf3, hz3⟩ := bcell hb3; (try simp at hz3)) | (((go_at_call 45; refine (RNominal_ok _ _ r0 r1).mono ?_; rintro e w3 ⟨rfl, hb3⟩; obtain ⟨hc3, hf3, hz3⟩ := bcell hb3; (try simp at hz3))); have k : ∀ o : Nat, w3.cell? { block := w.heap.size, off := o } = _ := fun o => (hc3 w.heap.size o (by omega)).trans ((hc2 w.heap.size o (by omega)).trans (hc1 w.heap.size o (by simp))); have q : ∀ o : Nat, w3.frozen? { block := w.heap.size, off := o } = _ := fun o => (hf3 w.heap.size o (by omega)).trans ((hf2 w.heap.size o (by omega)).trans (hf1 w.heap.size o (by simp)))) | (go_at_call 39; refine (dropped_ok _ _ _ r0 r1).mono ?_; rintro e w' ⟨rfl, rfl⟩) | (go_at_call 46; refine (Dropped_ok _ _ r0 r1).mono ?_; rintro e w' ⟨rfl, rfl⟩) | go_in)
    have k : ∀ o : Nat, w3.cell? { block := w.heap.size, off := o } = _ := fun o => (hc3 w.heap.size o (by omega)).trans ((hc2 w.heap.size o (by omega)).trans (hc1 w.heap.size o (by simp)))
    have q : ∀ o : Nat, w3.frozen? { block := w.heap.size, off := o } = _ := fun o => (hf3 w.heap.size o (by omega)).trans ((hf2 w.heap.size o (by omega)).trans (hf1 w.heap.size o (by simp)))
    go_quiet (fail)
    go_wp2
    refine bodyPost_ret (v := labV (split4 60 true (f + 36 * (f / 35964)))) (by simp [results, Try.results15, go_sem, ret3, ret2b, labV, split4, k]) rfl ⟨rfl, ?_⟩
    (repeat (first | (with_reducible exact Below.refl _ _) | (with_reducible assumption) | refine Below.setCell ?_ (by first | exact Nat.le_refl _ | omega | (simp; done) | (simp; omega)) _ | refine Ba.below_step (by assumption) (by first | exact Nat.le_refl _ | omega | (simp; done) | (simp; omega)) ?_ | apply Below.drew | apply Ba.below_drewN | refine Below.alloc ?_ (by first | exact Nat.le_refl _ | omega | (simp; done) | (simp; omega)) _ | refine Below.setCell ?_ (by first | exact Nat.le_refl _ | omega | (simp; done) | (simp; omega)) _))

theorem RLabel_24_0 (r : Int) (f : Int) (w : World) (r0 : 0 ≤ r) (r1 : r ≤ 255) (he : rerr r false = 0) (hn : nm r = 24) (hd : dp r false = 0) (f0 : 0 ≤ f) (f1 : f < 2073600) (hday : day r false = 2073600) :
    Calls Try.prog 23 #[.int .u8 r, .bool false, .int .i64 f] w fun e w' => e = .returned (labV (split4 24 false (num 24 0 f))) ∧ Below w.heap.size w w' := by
  have t29 : decide (f < 0) = false := decide_eq_false (by omega)
  have t30 : decide (2073600 ≤ f) = false := decide_eq_false (by omega)
  by_cases hc : 1440 ≤ f % 14400
  · have e1 : num 24 0 f = f + f / 14400 * 9 * 0 + (((f + f / 14400 * 9 * 0) % 14400 - 1440) / 1440 * 0 + 0) := by unfold num; rw [if_pos (by omega)]; omega
    rw [e1]
    clear e1
    have t31 : decide (1440 ≤ (f + f / 14400 * 9 * 0) % 14400) = true := decide_eq_true (by omega)
    go_enter Try.func23, Try.ntmps23
    go_wp2_with (first | (go_at_call 38; refine (rateError_ok _ _ _ r0 r1).mono ?_; rintro e w1 ⟨rfl, hb1⟩; obtain ⟨hc1, hf1, hz1⟩ := bcell hb1; (try simp at hz1)) | (go_at_call 44; refine (kind_ok _ _ _ r0 r1).mono ?_; rintro e w1 ⟨rfl, hb1⟩; obtain ⟨hc1, hf1, hz1⟩ := bcell hb1; (try simp at hz1)) | (go_at_call 14; refine (Day_any _ _ _ r0 r1).mono ?_; rintro e w2 ⟨rfl, hb2⟩; obtain ⟨hc2, hf2, hz2⟩ := bcell hb2; (try simp at hz2)) | (go_at_call 24; refine (RDay_any _ _ _ r0 r1).mono ?_; rintro e w2 ⟨rfl, hb2⟩; obtain ⟨hc2, hf2, hz2⟩ := bcell hb2; (try simp at hz2)) | (go_at_call 21; refine (Nominal_ok _ _ r0 r1).mono ?_; rintro e w3 ⟨rfl, hb3⟩; obtain ⟨hc3, hf3, hz3⟩ := bcell hb3; (try simp at hz3)) | (((go_at_call 45; refine (RNominal_ok _ _ r0 r1).mono ?_; rintro e w3 ⟨rfl, hb3⟩; obtain ⟨hc3, hf3, hz3⟩ := bcell hb3; (try simp at hz3))); have k : ∀ o : Nat, w3.cell? { block := w.heap.size, off := o } = _ := fun o => (hc3 w.heap.size o (by omega)).trans ((hc2 w.heap.size o (by omega)).trans (hc1 w.heap.size o (by simp))); have q : ∀ o : Nat, w3.frozen? { block := w.heap.size, off := o } = _ := fun o => (hf3 w.heap.size o (by omega)).trans ((hf2 w.heap.size o (by omega)).trans (hf1 w.heap.size o (by simp)))) | (go_at_call 39; refine (dropped_ok _ _ _ r0 r1).mono ?_; rintro e w' ⟨rfl, rfl⟩) | (go_at_call 46; refine (Dropped_ok _ _ r0 r1).mono ?_; rintro e w' ⟨rfl, rfl⟩) | go_in)
    refine bodyPost_ret (v := labV (split4 24 false (f + f / 14400 * 9 * 0 + (((f + f / 14400 * 9 * 0) % 14400 - 1440) / 1440 * 0 + 0)))) (by simp [results, Try.results23, go_sem, ret3, ret2b, labV, split4, k]) rfl ⟨rfl, ?_⟩
    (repeat (first | (with_reducible exact Below.refl _ _) | (with_reducible assumption) | refine Below.setCell ?_ (by first | exact Nat.le_refl _ | omega | (simp; done) | (simp; omega)) _ | refine Ba.below_step (by assumption) (by first | exact Nat.le_refl _ | omega | (simp; done) | (simp; omega)) ?_ | apply Below.drew | apply Ba.below_drewN | refine Below.alloc ?_ (by first | exact Nat.le_refl _ | omega | (simp; done) | (simp; omega)) _ | refine Below.setCell ?_ (by first | exact Nat.le_refl _ | omega | (simp; done) | (simp; omega)) _))
  · have e1 : num 24 0 f = f + f / 14400 * 9 * 0 := by unfold num; rw [if_neg (by omega)]; omega
    rw [e1]
    clear e1
    have t32 : decide (1440 ≤ (f + f / 14400 * 9 * 0) % 14400) = false := decide_eq_false (by omega)
    go_enter Try.func23, Try.ntmps23
    go_wp2_with (first | (go_at_call 38; refine (rateError_ok _ _ _ r0 r1).mono ?_; rintro e w1 ⟨rfl, hb1⟩; obtain ⟨hc1, hf1, hz1⟩ := bcell hb1; (try simp at hz1)) | (go_at_call 44; refine (kind_ok _ _ _ r0 r1).mono ?_; rintro e w1 ⟨rfl, hb1⟩; obtain ⟨hc1, hf1, hz1⟩ := bcell hb1; (try simp at hz1)) | (go_at_call 14; refine (Day_any _ _ _ r0 r1).mono ?_; rintro e w2 ⟨rfl, hb2⟩; obtain ⟨hc2, hf2, hz2⟩ := bcell hb2; (try simp at hz2)) | (go_at_call 24; refine (RDay_any _ _ _ r0 r1).mono ?_; rintro e w2 ⟨rfl, hb2⟩; obtain ⟨hc2, hf2, hz2⟩ := bcell hb2; (try simp at hz2)) | (go_at_call 21; refine (Nominal_ok _ _ r0 r1).mono ?_; rintro e w3 ⟨rfl, hb3⟩; obtain ⟨hc3, hf3, hz3⟩ := bcell hb3; (try simp at hz3)) | (((go_at_call 45; refine (RNominal_ok _ _ r0 r1).mono ?_; rintro e w3 ⟨rfl, hb3⟩; obtain ⟨hc3, hf3, hz3⟩ := bcell hb3; (try simp at hz3))); have k : ∀ o : Nat, w3.cell? { block := w.heap.size, off := o } = _ := fun o => (hc3 w.heap.size o (by omega)).trans ((hc2 w.heap.size o (by omega)).trans (hc1 w.heap.size o (by simp))); have q : ∀ o : Nat, w3.frozen? { block := w.heap.size, off := o } = _ := fun o => (hf3 w.heap.size o (by omega)).trans ((hf2 w.heap.size o (by omega)).trans (hf1 w.heap.size o (by simp)))) | (go_at_call 39; refine (dropped_ok _ _ _ r0 r1).mono ?_; rintro e w' ⟨rfl, rfl⟩) | (go_at_call 46; refine (Dropped_ok _ _ r0 r1).mono ?_; rintro e w' ⟨rfl, rfl⟩) | go_in)
    refine bodyPost_ret (v := labV (split4 24 false (f + f / 14400 * 9 * 0))) (by simp [results, Try.results23, go_sem, ret3, ret2b, labV, split4, k]) rfl ⟨rfl, ?_⟩
    (repeat (first | (with_reducible exact Below.refl _ _) | (with_reducible assumption) | refine Below.setCell ?_ (by first | exact Nat.le_refl _ | omega | (simp; done) | (simp; omega)) _ | refine Ba.below_step (by assumption) (by first | exact Nat.le_refl _ | omega | (simp; done) | (simp; omega)) ?_ | apply Below.drew | apply Ba.below_drewN | refine Below.alloc ?_ (by first | exact Nat.le_refl _ | omega | (simp; done) | (simp; omega)) _ | refine Below.setCell ?_ (by first | exact Nat.le_refl _ | omega | (simp; done) | (simp; omega)) _))

theorem RLabel_25_0 (r : Int) (f : Int) (w : World) (r0 : 0 ≤ r) (r1 : r ≤ 255) (he : rerr r false = 0) (hn : nm r = 25) (hd : dp r false = 0) (f0 : 0 ≤ f) (f1 : f < 2160000) (hday : day r false = 2160000) :
    Calls Try.prog 23 #[.int .u8 r, .bool false, .int .i64 f] w fun e w' => e = .returned (labV (split4 25 false (num 25 0 f))) ∧ Below w.heap.size w w' := by
  have t33 : decide (f < 0) = false := decide_eq_false (by omega)
  have t34 : decide (2160000 ≤ f) = false := decide_eq_false (by omega)
  by_cases hc : 1500 ≤ f % 15000
  · have e1 : num 25 0 f = f + f / 15000 * 9 * 0 + (((f + f / 15000 * 9 * 0) % 15000 - 1500) / 1500 * 0 + 0) := by unfold num; rw [if_pos (by omega)]; omega
    rw [e1]
    clear e1
    have t35 : decide (1500 ≤ (f + f / 15000 * 9 * 0) % 15000) = true := decide_eq_true (by omega)
    go_enter Try.func23, Try.ntmps23
    go_wp2_with (first | (go_at_call 38; refine (rateError_ok _ _ _ r0 r1).mono ?_; rintro e w1 ⟨rfl, hb1⟩; obtain ⟨hc1, hf1, hz1⟩ := bcell hb1; (try simp at hz1)) | (go_at_call 44; refine (kind_ok _ _ _ r0 r1).mono ?_; rintro e w1 ⟨rfl, hb1⟩; obtain ⟨hc1, hf1, hz1⟩ := bcell hb1; (try simp at hz1)) | (go_at_call 14; refine (Day_any _ _ _ r0 r1).mono ?_; rintro e w2 ⟨rfl, hb2⟩; obtain ⟨hc2, hf2, hz2⟩ := bcell hb2; (try simp at hz2)) | (go_at_call 24; refine (RDay_any _ _ _ r0 r1).mono ?_; rintro e w2 ⟨rfl, hb2⟩; obtain ⟨hc2, hf2, hz2⟩ := bcell hb2; (try simp at hz2)) | (go_at_call 21; refine (Nominal_ok _ _ r0 r1).mono ?_; rintro e w3 ⟨rfl, hb3⟩; obtain ⟨hc3, hf3, hz3⟩ := bcell hb3; (try simp at hz3)) | (((go_at_call 45; refine (RNominal_ok _ _ r0 r1).mono ?_; rintro e w3 ⟨rfl, hb3⟩; obtain ⟨hc3, hf3, hz3⟩ := bcell hb3; (try simp at hz3))); have k : ∀ o : Nat, w3.cell? { block := w.heap.size, off := o } = _ := fun o => (hc3 w.heap.size o (by omega)).trans ((hc2 w.heap.size o (by omega)).trans (hc1 w.heap.size o (by simp))); have q : ∀ o : Nat, w3.frozen? { block := w.heap.size, off := o } = _ := fun o => (hf3 w.heap.size o (by omega)).trans ((hf2 w.heap.size o (by omega)).trans (hf1 w.heap.size o (by simp)))) | (go_at_call 39; refine (dropped_ok _ _ _ r0 r1).mono ?_; rintro e w' ⟨rfl, rfl⟩) | (go_at_call 46; refine (Dropped_ok _ _ r0 r1).mono ?_; rintro e w' ⟨rfl, rfl⟩) | go_in)
    refine bodyPost_ret (v := labV (split4 25 false (f + f / 15000 * 9 * 0 + (((f + f / 15000 * 9 * 0) % 15000 - 1500) / 1500 * 0 + 0)))) (by simp [results, Try.results23, go_sem, ret3, ret2b, labV, split4, k]) rfl ⟨rfl, ?_⟩
    (repeat (first | (with_reducible exact Below.refl _ _) | (with_reducible assumption) | refine Below.setCell ?_ (by first | exact Nat.le_refl _ | omega | (simp; done) | (simp; omega)) _ | refine Ba.below_step (by assumption) (by first | exact Nat.le_refl _ | omega | (simp; done) | (simp; omega)) ?_ | apply Below.drew | apply Ba.below_drewN | refine Below.alloc ?_ (by first | exact Nat.le_refl _ | omega | (simp; done) | (simp; omega)) _ | refine Below.setCell ?_ (by first | exact Nat.le_refl _ | omega | (simp; done) | (simp; omega)) _))
  · have e1 : num 25 0 f = f + f / 15000 * 9 * 0 := by unfold num; rw [if_neg (by omega)]; omega
    rw [e1]
    clear e1
    have t36 : decide (1500 ≤ (f + f / 15000 * 9 * 0) % 15000) = false := decide_eq_false (by omega)
    go_enter Try.func23, Try.ntmps23
    go_wp2_with (first | (go_at_call 38; refine (rateError_ok _ _ _ r0 r1).mono ?_; rintro e w1 ⟨rfl, hb1⟩; obtain ⟨hc1, hf1, hz1⟩ := bcell hb1; (try simp at hz1)) | (go_at_call 44; refine (kind_ok _ _ _ r0 r1).mono ?_; rintro e w1 ⟨rfl, hb1⟩; obtain ⟨hc1, hf1, hz1⟩ := bcell hb1; (try simp at hz1)) | (go_at_call 14; refine (Day_any _ _ _ r0 r1).mono ?_; rintro e w2 ⟨rfl, hb2⟩; obtain ⟨hc2, hf2, hz2⟩ := bcell hb2; (try simp at hz2)) | (go_at_call 24; refine (RDay_any _ _ _ r0 r1).mono ?_; rintro e w2 ⟨rfl, hb2⟩; obtain ⟨hc2, hf2, hz2⟩ := bcell hb2; (try simp at hz2)) | (go_at_call 21; refine (Nominal_ok _ _ r0 r1).mono ?_; rintro e w3 ⟨rfl, hb3⟩; obtain ⟨hc3, hf3, hz3⟩ := bcell hb3; (try simp at hz3)) | (((go_at_call 45; refine (RNominal_ok _ _ r0 r1).mono ?_; rintro e w3 ⟨rfl, hb3⟩; obtain ⟨hc3, hf3, hz3⟩ := bcell hb3; (try simp at hz3))); have k : ∀ o : Nat, w3.cell? { block := w.heap.size, off := o } = _ := fun o => (hc3 w.heap.size o (by omega)).trans ((hc2 w.heap.size o (by omega)).trans (hc1 w.heap.size o (by simp))); have q : ∀ o : Nat, w3.frozen? { block := w.heap.size, off := o } = _ := fun o => (hf3 w.heap.size o (by omega)).trans ((hf2 w.heap.size o (by omega)).trans (hf1 w.heap.size o (by simp)))) | (go_at_call 39; refine (dropped_ok _ _ _ r0 r1).mono ?_; rintro e w' ⟨rfl, rfl⟩) | (go_at_call 46; refine (Dropped_ok _ _ r0 r1).mono ?_; rintro e w' ⟨rfl, rfl⟩) | go_in)
    refine bodyPost_ret (v := labV (split4 25 false (f + f / 15000 * 9 * 0))) (by simp [results, Try.results23, go_sem, ret3, ret2b, labV, split4, k]) rfl ⟨rfl, ?_⟩
    (repeat (first | (with_reducible exact Below.refl _ _) | (with_reducible assumption) | refine Below.setCell ?_ (by first | exact Nat.le_refl _ | omega | (simp; done) | (simp; omega)) _ | refine Ba.below_step (by assumption) (by first | exact Nat.le_refl _ | omega | (simp; done) | (simp; omega)) ?_ | apply Below.drew | apply Ba.below_drewN | refine Below.alloc ?_ (by first | exact Nat.le_refl _ | omega | (simp; done) | (simp; omega)) _ | refine Below.setCell ?_ (by first | exact Nat.le_refl _ | omega | (simp; done) | (simp; omega)) _))

theorem RLabel_30_0 (r : Int) (f : Int) (w : World) (r0 : 0 ≤ r) (r1 : r ≤ 255) (he : rerr r false = 0) (hn : nm r = 30) (hd : dp r false = 0) (f0 : 0 ≤ f) (f1 : f < 2592000) (hday : day r false = 2592000) :
    Calls Try.prog 23 #[.int .u8 r, .bool false, .int .i64 f] w fun e w' => e = .returned (labV (split4 30 false (num 30 0 f))) ∧ Below w.heap.size w w' := by
  have t37 : decide (f < 0) = false := decide_eq_false (by omega)
  have t38 : decide (2592000 ≤ f) = false := decide_eq_false (by omega)
  by_cases hc : 1800 ≤ f % 18000
  · have e1 : num 30 0 f = f + f / 18000 * 9 * 0 + (((f + f / 18000 * 9 * 0) % 18000 - 1800) / 1800 * 0 + 0) := by unfold num; rw [if_pos (by omega)]; omega
    rw [e1]
    clear e1
    have t39 : decide (1800 ≤ (f + f / 18000 * 9 * 0) % 18000) = true := decide_eq_true (by omega)
    go_enter Try.func23, Try.ntmps23
    go_wp2_with (first | (go_at_call 38; refine (rateError_ok _ _ _ r0 r1).mono ?_; rintro e w1 ⟨rfl, hb1⟩; obtain ⟨hc1, hf1, hz1⟩ := bcell hb1; (try simp at hz1)) | (go_at_call 44; refine (kind_ok _ _ _ r0 r1).mono ?_; rintro e w1 ⟨rfl, hb1⟩; obtain ⟨hc1, hf1, hz1⟩ := bcell hb1; (try simp at hz1)) | (go_at_call 14; refine (Day_any _ _ _ r0 r1).mono ?_; rintro e w2 ⟨rfl, hb2⟩; obtain ⟨hc2, hf2, hz2⟩ := bcell hb2; (try simp at hz2)) | (go_at_call 24; refine (RDay_any _ _ _ r0 r1).mono ?_; rintro e w2 ⟨rfl, hb2⟩; obtain ⟨hc2, hf2, hz2⟩ := bcell hb2; (try simp at hz2)) | (go_at_call 21; refine (Nominal_ok _ _ r0 r1).mono ?_; rintro e w3 ⟨rfl, hb3⟩; obtain ⟨hc3, hf3, hz3⟩ := bcell hb3; (try simp at hz3)) | (((go_at_call 45; refine (RNominal_ok _ _ r0 r1).mono ?_; rintro e w3 ⟨rfl, hb3⟩; obtain ⟨hc3, hf3, hz3⟩ := bcell hb3; (try simp at hz3))); have k : ∀ o : Nat, w3.cell? { block := w.heap.size, off := o } = _ := fun o => (hc3 w.heap.size o (by omega)).trans ((hc2 w.heap.size o (by omega)).trans (hc1 w.heap.size o (by simp))); have q : ∀ o : Nat, w3.frozen? { block := w.heap.size, off := o } = _ := fun o => (hf3 w.heap.size o (by omega)).trans ((hf2 w.heap.size o (by omega)).trans (hf1 w.heap.size o (by simp)))) | (go_at_call 39; refine (dropped_ok _ _ _ r0 r1).mono ?_; rintro e w' ⟨rfl, rfl⟩) | (go_at_call 46; refine (Dropped_ok _ _ r0 r1).mono ?_; rintro e w' ⟨rfl, rfl⟩) | go_in)
    refine bodyPost_ret (v := labV (split4 30 false (f + f / 18000 * 9 * 0 + (((f + f / 18000 * 9 * 0) % 18000 - 1800) / 1800 * 0 + 0)))) (by simp [results, Try.results23, go_sem, ret3, ret2b, labV, split4, k]) rfl ⟨rfl, ?_⟩
    (repeat (first | (with_reducible exact Below.refl _ _) | (with_reducible assumption) | refine Below.setCell ?_ (by first | exact Nat.le_refl _ | omega | (simp; done) | (simp; omega)) _ | refine Ba.below_step (by assumption) (by first | exact Nat.le_refl _ | omega | (simp; done) | (simp; omega)) ?_ | apply Below.drew | apply Ba.below_drewN | refine Below.alloc ?_ (by first | exact Nat.le_refl _ | omega | (simp; done) | (simp; omega)) _ | refine Below.setCell ?_ (by first | exact Nat.le_refl _ | omega | (simp; done) | (simp; omega)) _))
  · have e1 : num 30 0 f = f + f / 18000 * 9 * 0 := by unfold num; rw [if_neg (by omega)]; omega
    rw [e1]
    clear e1
    have t40 : decide (1800 ≤ (f + f / 18000 * 9 * 0) % 18000) = false := decide_eq_false (by omega)
    go_enter Try.func23, Try.ntmps23
    go_wp2_with (first | (go_at_call 38; refine (rateError_ok _ _ _ r0 r1).mono ?_; rintro e w1 ⟨rfl, hb1⟩; obtain ⟨hc1, hf1, hz1⟩ := bcell hb1; (try simp at hz1)) | (go_at_call 44; refine (kind_ok _ _ _ r0 r1).mono ?_; rintro e w1 ⟨rfl, hb1⟩; obtain ⟨hc1, hf1, hz1⟩ := bcell hb1; (try simp at hz1)) | (go_at_call 14; refine (Day_any _ _ _ r0 r1).mono ?_; rintro e w2 ⟨rfl, hb2⟩; obtain ⟨hc2, hf2, hz2⟩ := bcell hb2; (try simp at hz2)) | (go_at_call 24; refine (RDay_any _ _ _ r0 r1).mono ?_; rintro e w2 ⟨rfl, hb2⟩; obtain ⟨hc2, hf2, hz2⟩ := bcell hb2; (try simp at hz2)) | (go_at_call 21; refine (Nominal_ok _ _ r0 r1).mono ?_; rintro e w3 ⟨rfl, hb3⟩; obtain ⟨hc3, hf3, hz3⟩ := bcell hb3; (try simp at hz3)) | (((go_at_call 45; refine (RNominal_ok _ _ r0 r1).mono ?_; rintro e w3 ⟨rfl, hb3⟩; obtain ⟨hc3, hf3, hz3⟩ := bcell hb3; (try simp at hz3))); have k : ∀ o : Nat, w3.cell? { block := w.heap.size, off := o } = _ := fun o => (hc3 w.heap.size o (by omega)).trans ((hc2 w.heap.size o (by omega)).trans (hc1 w.heap.size o (by simp))); have q : ∀ o : Nat, w3.frozen? { block := w.heap.size, off := o } = _ := fun o => (hf3 w.heap.size o (by omega)).trans ((hf2 w.heap.size o (by omega)).trans (hf1 w.heap.size o (by simp)))) | (go_at_call 39; refine (dropped_ok _ _ _ r0 r1).mono ?_; rintro e w' ⟨rfl, rfl⟩) | (go_at_call 46; refine (Dropped_ok _ _ r0 r1).mono ?_; rintro e w' ⟨rfl, rfl⟩) | go_in)
    refine bodyPost_ret (v := labV (split4 30 false (f + f / 18000 * 9 * 0))) (by simp [results, Try.results23, go_sem, ret3, ret2b, labV, split4, k]) rfl ⟨rfl, ?_⟩
    (repeat (first | (with_reducible exact Below.refl _ _) | (with_reducible assumption) | refine Below.setCell ?_ (by first | exact Nat.le_refl _ | omega | (simp; done) | (simp; omega)) _ | refine Ba.below_step (by assumption) (by first | exact Nat.le_refl _ | omega | (simp; done) | (simp; omega)) ?_ | apply Below.drew | apply Ba.below_drewN | refine Below.alloc ?_ (by first | exact Nat.le_refl _ | omega | (simp; done) | (simp; omega)) _ | refine Below.setCell ?_ (by first | exact Nat.le_refl _ | omega | (simp; done) | (simp; omega)) _))

theorem RLabel_50_0 (r : Int) (f : Int) (w : World) (r0 : 0 ≤ r) (r1 : r ≤ 255) (he : rerr r false = 0) (hn : nm r = 50) (hd : dp r false = 0) (f0 : 0 ≤ f) (f1 : f < 4320000) (hday : day r false = 4320000) :
    Calls Try.prog 23 #[.int .u8 r, .bool false, .int .i64 f] w fun e w' => e = .returned (labV (split4 50 false (num 50 0 f))) ∧ Below w.heap.size w w' := by
  have t41 : decide (f < 0) = false := decide_eq_false (by omega)
  have t42 : decide (4320000 ≤ f) = false := decide_eq_false (by omega)
  by_cases hc : 3000 ≤ f % 30000
  · have e1 : num 50 0 f = f + f / 30000 * 9 * 0 + (((f + f / 30000 * 9 * 0) % 30000 - 3000) / 3000 * 0 + 0) := by unfold num; rw [if_pos (by omega)]; omega
    rw [e1]
    clear e1
    have t43 : decide (3000 ≤ (f + f / 30000 * 9 * 0) % 30000) = true := decide_eq_true (by omega)
    go_enter Try.func23, Try.ntmps23
    go_wp2_with (first | (go_at_call 38; refine (rateError_ok _ _ _ r0 r1).mono ?_; rintro e w1 ⟨rfl, hb1⟩; obtain ⟨hc1, hf1, hz1⟩ := bcell hb1; (try simp at hz1)) | (go_at_call 44; refine (kind_ok _ _ _ r0 r1).mono ?_; rintro e w1 ⟨rfl, hb1⟩; obtain ⟨hc1, hf1, hz1⟩ := bcell hb1; (try simp at hz1)) | (go_at_call 14; refine (Day_any _ _ _ r0 r1).mono ?_; rintro e w2 ⟨rfl, hb2⟩; obtain ⟨hc2, hf2, hz2⟩ := bcell hb2; (try simp at hz2)) | (go_at_call 24; refine (RDay_any _ _ _ r0 r1).mono ?_; rintro e w2 ⟨rfl, hb2⟩; obtain ⟨hc2, hf2, hz2⟩ := bcell hb2; (try simp at hz2)) | (go_at_call 21; refine (Nominal_ok _ _ r0 r1).mono ?_; rintro e w3 ⟨rfl, hb3⟩; obtain ⟨hc3, hf3, hz3⟩ := bcell hb3; (try simp at hz3)) | (((go_at_call 45; refine (RNominal_ok _ _ r0 r1).mono ?_; rintro e w3 ⟨rfl, hb3⟩; obtain ⟨hc3, hf3, hz3⟩ := bcell hb3; (try simp at hz3))); have k : ∀ o : Nat, w3.cell? { block := w.heap.size, off := o } = _ := fun o => (hc3 w.heap.size o (by omega)).trans ((hc2 w.heap.size o (by omega)).trans (hc1 w.heap.size o (by simp))); have q : ∀ o : Nat, w3.frozen? { block := w.heap.size, off := o } = _ := fun o => (hf3 w.heap.size o (by omega)).trans ((hf2 w.heap.size o (by omega)).trans (hf1 w.heap.size o (by simp)))) | (go_at_call 39; refine (dropped_ok _ _ _ r0 r1).mono ?_; rintro e w' ⟨rfl, rfl⟩) | (go_at_call 46; refine (Dropped_ok _ _ r0 r1).mono ?_; rintro e w' ⟨rfl, rfl⟩) | go_in)
    refine bodyPost_ret (v := labV (split4 50 false (f + f / 30000 * 9 * 0 + (((f + f / 30000 * 9 * 0) % 30000 - 3000) / 3000 * 0 + 0)))) (by simp [results, Try.results23, go_sem, ret3, ret2b, labV, split4, k]) rfl ⟨rfl, ?_⟩
    (repeat (first | (with_reducible exact Below.refl _ _) | (with_reducible assumption) | refine Below.setCell ?_ (by first | exact Nat.le_refl _ | omega | (simp; done) | (simp; omega)) _ | refine Ba.below_step (by assumption) (by first | exact Nat.le_refl _ | omega | (simp; done) | (simp; omega)) ?_ | apply Below.drew | apply Ba.below_drewN | refine Below.alloc ?_ (by first | exact Nat.le_refl _ | omega | (simp; done) | (simp; omega)) _ | refine Below.setCell ?_ (by first | exact Nat.le_refl _ | omega | (simp; done) | (simp; omega)) _))
  · have e1 : num 50 0 f = f + f / 30000 * 9 * 0 := by unfold num; rw [if_neg (by omega)]; omega
    rw [e1]
    clear e1
    have t44 : decide (3000 ≤ (f + f / 30000 * 9 * 0) % 30000) = false := decide_eq_false (by omega)
    go_enter Try.func23, Try.ntmps23
    go_wp2_with (first | (go_at_call 38; refine (rateError_ok _ _ _ r0 r1).mono ?_; rintro e w1 ⟨rfl, hb1⟩; obtain ⟨hc1, hf1, hz1⟩ := bcell hb1; (try simp at hz1)) | (go_at_call 44; refine (kind_ok _ _ _ r0 r1).mono ?_; rintro e w1 ⟨rfl, hb1⟩; obtain ⟨hc1, hf1, hz1⟩ := bcell hb1; (try simp at hz1)) | (go_at_call 14; refine (Day_any _ _ _ r0 r1).mono ?_; rintro e w2 ⟨rfl, hb2⟩; obtain ⟨hc2, hf2, hz2⟩ := bcell hb2; (try simp at hz2)) | (go_at_call 24; refine (RDay_any _ _ _ r0 r1).mono ?_; rintro e w2 ⟨rfl, hb2⟩; obtain ⟨hc2, hf2, hz2⟩ := bcell hb2; (try simp at hz2)) | (go_at_call 21; refine (Nominal_ok _ _ r0 r1).mono ?_; rintro e w3 ⟨rfl, hb3⟩; obtain ⟨hc3, hf3, hz3⟩ := bcell hb3; (try simp at hz3)) | (((go_at_call 45; refine (RNominal_ok _ _ r0 r1).mono ?_; rintro e w3 ⟨rfl, hb3⟩; obtain ⟨hc3, hf3, hz3⟩ := bcell hb3; (try simp at hz3))); have k : ∀ o : Nat, w3.cell? { block := w.heap.size, off := o } = _ := fun o => (hc3 w.heap.size o (by omega)).trans ((hc2 w.heap.size o (by omega)).trans (hc1 w.heap.size o (by simp))); have q : ∀ o : Nat, w3.frozen? { block := w.heap.size, off := o } = _ := fun o => (hf3 w.heap.size o (by omega)).trans ((hf2 w.heap.size o (by omega)).trans (hf1 w.heap.size o (by simp)))) | (go_at_call 39; refine (dropped_ok _ _ _ r0 r1).mono ?_; rintro e w' ⟨rfl, rfl⟩) | (go_at_call 46; refine (Dropped_ok _ _ r0 r1).mono ?_; rintro e w' ⟨rfl, rfl⟩) | go_in)
    refine bodyPost_ret (v := labV (split4 50 false (f + f / 30000 * 9 * 0))) (by simp [results, Try.results23, go_sem, ret3, ret2b, labV, split4, k]) rfl ⟨rfl, ?_⟩
    (repeat (first | (with_reducible exact Below.refl _ _) | (with_reducible assumption) | refine Below.setCell ?_ (by first | exact Nat.le_refl _ | omega | (simp; done) | (simp; omega)) _ | refine Ba.below_step (by assumption) (by first | exact Nat.le_refl _ | omega | (simp; done) | (simp; omega)) ?_ | apply Below.drew | apply Ba.below_drewN | refine Below.alloc ?_ (by first | exact Nat.le_refl _ | omega | (simp; done) | (simp; omega)) _ | refine Below.setCell ?_ (by first | exact Nat.le_refl _ | omega | (simp; done) | (simp; omega)) _))

theorem RLabel_60_0 (r : Int) (f : Int) (w : World) (r0 : 0 ≤ r) (r1 : r ≤ 255) (he : rerr r false = 0) (hn : nm r = 60) (hd : dp r false = 0) (f0 : 0 ≤ f) (f1 : f < 5184000) (hday : day r false = 5184000) :
    Calls Try.prog 23 #[.int .u8 r, .bool false, .int .i64 f] w fun e w' => e = .returned (labV (split4 60 false (num 60 0 f))) ∧ Below w.heap.size w w' := by
  have t45 : decide (f < 0) = false := decide_eq_false (by omega)
  have t46 : decide (5184000 ≤ f) = false := decide_eq_false (by omega)
  by_cases hc : 3600 ≤ f % 36000
  · have e1 : num 60 0 f = f + f / 36000 * 9 * 0 + (((f + f / 36000 * 9 * 0) % 36000 - 3600) / 3600 * 0 + 0) := by unfold num; rw [if_pos (by omega)]; omega
    rw [e1]
    clear e1
    have t47 : decide (3600 ≤ (f + f / 36000 * 9 * 0) % 36000) = true := decide_eq_true (by omega)
    go_enter Try.func23, Try.ntmps23
    go_wp2_with (first | (go_at_call 38; refine (rateError_ok _ _ _ r0 r1).mono ?_; rintro e w1 ⟨rfl, hb1⟩; obtain ⟨hc1, hf1, hz1⟩ := bcell hb1; (try simp at hz1)) | (go_at_call 44; refine (kind_ok _ _ _ r0 r1).mono ?_; rintro e w1 ⟨rfl, hb1⟩; obtain ⟨hc1, hf1, hz1⟩ := bcell hb1; (try simp at hz1)) | (go_at_call 14; refine (Day_any _ _ _ r0 r1).mono ?_; rintro e w2 ⟨rfl, hb2⟩; obtain ⟨hc2, hf2, hz2⟩ := bcell hb2; (try simp at hz2)) | (go_at_call 24; refine (RDay_any _ _ _ r0 r1).mono ?_; rintro e w2 ⟨rfl, hb2⟩; obtain ⟨hc2, hf2, hz2⟩ := bcell hb2; (try simp at hz2)) | (go_at_call 21; refine (Nominal_ok _ _ r0 r1).mono ?_; rintro e w3 ⟨rfl, hb3⟩; obtain ⟨hc3, hf3, hz3⟩ := bcell hb3; (try simp at hz3)) | (((go_at_call 45; refine (RNominal_ok _ _ r0 r1).mono ?_; rintro e w3 ⟨rfl, hb3⟩; obtain ⟨hc3, hf3, hz3⟩ := bcell hb3; (try simp at hz3))); have k : ∀ o : Nat, w3.cell? { block := w.heap.size, off := o } = _ := fun o => (hc3 w.heap.size o (by omega)).trans ((hc2 w.heap.size o (by omega)).trans (hc1 w.heap.size o (by simp))); have q : ∀ o : Nat, w3.frozen? { block := w.heap.size, off := o } = _ := fun o => (hf3 w.heap.size o (by omega)).trans ((hf2 w.heap.size o (by omega)).trans (hf1 w.heap.size o (by simp)))) | (go_at_call 39; refine (dropped_ok _ _ _ r0 r1).mono ?_; rintro e w' ⟨rfl, rfl⟩) | (go_at_call 46; refine (Dropped_ok _ _ r0 r1).mono ?_; rintro e w' ⟨rfl, rfl⟩) | go_in)
    refine bodyPost_ret (v := labV (split4 60 false (f + f / 36000 * 9 * 0 + (((f + f / 36000 * 9 * 0) % 36000 - 3600) / 3600 * 0 + 0)))) (by simp [results, Try.results23, go_sem, ret3, ret2b, labV, split4, k]) rfl ⟨rfl, ?_⟩
    (repeat (first | (with_reducible exact Below.refl _ _) | (with_reducible assumption) | refine Below.setCell ?_ (by first | exact Nat.le_refl _ | omega | (simp; done) | (simp; omega)) _ | refine Ba.below_step (by assumption) (by first | exact Nat.le_refl _ | omega | (simp; done) | (simp; omega)) ?_ | apply Below.drew | apply Ba.below_drewN | refine Below.alloc ?_ (by first | exact Nat.le_refl _ | omega | (simp; done) | (simp; omega)) _ | refine Below.setCell ?_ (by first | exact Nat.le_refl _ | omega | (simp; done) | (simp; omega)) _))
  · have e1 : num 60 0 f = f + f / 36000 * 9 * 0 := by unfold num; rw [if_neg (by omega)]; omega
    rw [e1]
    clear e1
    have t48 : decide (3600 ≤ (f + f / 36000 * 9 * 0) % 36000) = false := decide_eq_false (by omega)
    go_enter Try.func23, Try.ntmps23
    go_wp2_with (first | (go_at_call 38; refine (rateError_ok _ _ _ r0 r1).mono ?_; rintro e w1 ⟨rfl, hb1⟩; obtain ⟨hc1, hf1, hz1⟩ := bcell hb1; (try simp at hz1)) | (go_at_call 44; refine (kind_ok _ _ _ r0 r1).mono ?_; rintro e w1 ⟨rfl, hb1⟩; obtain ⟨hc1, hf1, hz1⟩ := bcell hb1; (try simp at hz1)) | (go_at_call 14; refine (Day_any _ _ _ r0 r1).mono ?_; rintro e w2 ⟨rfl, hb2⟩; obtain ⟨hc2, hf2, hz2⟩ := bcell hb2; (try simp at hz2)) | (go_at_call 24; refine (RDay_any _ _ _ r0 r1).mono ?_; rintro e w2 ⟨rfl, hb2⟩; obtain ⟨hc2, hf2, hz2⟩ := bcell hb2; (try simp at hz2)) | (go_at_call 21; refine (Nominal_ok _ _ r0 r1).mono ?_; rintro e w3 ⟨rfl, hb3⟩; obtain ⟨hc3, hf3, hz3⟩ := bcell hb3; (try simp at hz3)) | (((go_at_call 45; refine (RNominal_ok _ _ r0 r1).mono ?_; rintro e w3 ⟨rfl, hb3⟩; obtain ⟨hc3, hf3, hz3⟩ := bcell hb3; (try simp at hz3))); have k : ∀ o : Nat, w3.cell? { block := w.heap.size, off := o } = _ := fun o => (hc3 w.heap.size o (by omega)).trans ((hc2 w.heap.size o (by omega)).trans (hc1 w.heap.size o (by simp))); have q : ∀ o : Nat, w3.frozen? { block := w.heap.size, off := o } = _ := fun o => (hf3 w.heap.size o (by omega)).trans ((hf2 w.heap.size o (by omega)).trans (hf1 w.heap.size o (by simp)))) | (go_at_call 39; refine (dropped_ok _ _ _ r0 r1).mono ?_; rintro e w' ⟨rfl, rfl⟩) | (go_at_call 46; refine (Dropped_ok _ _ r0 r1).mono ?_; rintro e w' ⟨rfl, rfl⟩) | go_in)
    refine bodyPost_ret (v := labV (split4 60 false (f + f / 36000 * 9 * 0))) (by simp [results, Try.results23, go_sem, ret3, ret2b, labV, split4, k]) rfl ⟨rfl, ?_⟩
    (repeat (first | (with_reducible exact Below.refl _ _) | (with_reducible assumption) | refine Below.setCell ?_ (by first | exact Nat.le_refl _ | omega | (simp; done) | (simp; omega)) _ | refine Ba.below_step (by assumption) (by first | exact Nat.le_refl _ | omega | (simp; done) | (simp; omega)) ?_ | apply Below.drew | apply Ba.below_drewN | refine Below.alloc ?_ (by first | exact Nat.le_refl _ | omega | (simp; done) | (simp; omega)) _ | refine Below.setCell ?_ (by first | exact Nat.le_refl _ | omega | (simp; done) | (simp; omega)) _))

theorem RLabel_30_2 (r : Int) (f : Int) (w : World) (r0 : 0 ≤ r) (r1 : r ≤ 255) (he : rerr r true = 0) (hn : nm r = 30) (hd : dp r true = 2) (f0 : 0 ≤ f) (f1 : f < 2589408) (hday : day r true = 2589408) :
    Calls Try.prog 23 #[.int .u8 r, .bool true, .int .i64 f] w fun e w' => e = .returned (labV (split4 30 true (num 30 2 f))) ∧ Below w.heap.size w w' := by
  have t49 : decide (f < 0) = false := decide_eq_false (by omega)
  have t50 : decide (2589408 ≤ f) = false := decide_eq_false (by omega)
  by_cases hc : 1800 ≤ f % 17982
  · have e1 : num 30 2 f = f + f / 17982 * 9 * 2 + (((f + f / 17982 * 9 * 2) % 18000 - 1800) / 1798 * 2 + 2) := by unfold num; rw [if_pos (by omega)]; omega
    rw [e1]
    clear e1
    have t51 : decide (1800 ≤ (f + f / 17982 * 9 * 2) % 18000) = true := decide_eq_true (by omega)
    go_enter Try.func23, Try.ntmps23
    go_wp2_with (first | (go_at_call 38; refine (rateError_ok _ _ _ r0 r1).mono ?_; rintro e w1 ⟨rfl, hb1⟩; obtain ⟨hc1, hf1, hz1⟩ := bcell hb1; (try simp at hz1)) | (go_at_call 44; refine (kind_ok _ _ _ r0 r1).mono ?_; rintro e w1 ⟨rfl, hb1⟩; obtain ⟨hc1, hf1, hz1⟩ := bcell hb1; (try simp at hz1)) | (go_at_call 14; refine (Day_any _ _ _ r0 r1).mono ?_; rintro e w2 ⟨rfl, hb2⟩; obtain ⟨hc2, hf2, hz2⟩ := bcell hb2; (try simp at hz2)) | (go_at_call 24; refine (RDay_any _ _ _ r0 r1).mono ?_; rintro e w2 ⟨rfl, hb2⟩; obtain ⟨hc2, hf2, hz2⟩ := bcell hb2; (try simp at hz2)) | (go_at_call 21; refine (Nominal_ok _ _ r0 r1).mono ?_; rintro e w3 ⟨rfl, hb3⟩; obtain ⟨hc3, hf3, hz3⟩ := bcell hb3; (try simp at hz3)) | (((go_at_call 45; refine (RNominal_ok _ _ r0 r1).mono ?_; rintro e w3 ⟨rfl, hb3⟩; obtain ⟨hc3, hf3, hz3⟩ := bcell hb3; (try simp at hz3))); have k : ∀ o : Nat, w3.cell? { block := w.heap.size, off := o } = _ := fun o => (hc3 w.heap.size o (by omega)).trans ((hc2 w.heap.size o (by omega)).trans (hc1 w.heap.size o (by simp))); have q : ∀ o : Nat, w3.frozen? { block := w.heap.size, off := o } = _ := fun o => (hf3 w.heap.size o (by omega)).trans ((hf2 w.heap.size o (by omega)).trans (hf1 w.heap.size o (by simp)))) | (go_at_call 39; refine (dropped_ok _ _ _ r0 r1).mono ?_; rintro e w' ⟨rfl, rfl⟩) | (go_at_call 46; refine (Dropped_ok _ _ r0 r1).mono ?_; rintro e w' ⟨rfl, rfl⟩) | go_in)
    refine bodyPost_ret (v := labV (split4 30 true (f + f / 17982 * 9 * 2 + (((f + f / 17982 * 9 * 2) % 18000 - 1800) / 1798 * 2 + 2)))) (by simp [results, Try.results23, go_sem, ret3, ret2b, labV, split4, k]) rfl ⟨rfl, ?_⟩
    (repeat (first | (with_reducible exact Below.refl _ _) | (with_reducible assumption) | refine Below.setCell ?_ (by first | exact Nat.le_refl _ | omega | (simp; done) | (simp; omega)) _ | refine Ba.below_step (by assumption) (by first | exact Nat.le_refl _ | omega | (simp; done) | (simp; omega)) ?_ | apply Below.drew | apply Ba.below_drewN | refine Below.alloc ?_ (by first | exact Nat.le_refl _ | omega | (simp; done) | (simp; omega)) _ | refine Below.setCell ?_ (by first | exact Nat.le_refl _ | omega | (simp; done) | (simp; omega)) _))
  · have e1 : num 30 2 f = f + f / 17982 * 9 * 2 := by unfold num; rw [if_neg (by omega)]; omega
    rw [e1]
    clear e1
    have t52 : decide (1800 ≤ (f + f / 17982 * 9 * 2) % 18000) = false := decide_eq_false (by omega)
    go_enter Try.func23, Try.ntmps23
    go_wp2_with (first | (go_at_call 38; refine (rateError_ok _ _ _ r0 r1).mono ?_; rintro e w1 ⟨rfl, hb1⟩; obtain ⟨hc1, hf1, hz1⟩ := bcell hb1; (try simp at hz1)) | (go_at_call 44; refine (kind_ok _ _ _ r0 r1).mono ?_; rintro e w1 ⟨rfl, hb1⟩; obtain ⟨hc1, hf1, hz1⟩ := bcell hb1; (try simp at hz1)) | (go_at_call 14; refine (Day_any _ _ _ r0 r1).mono ?_; rintro e w2 ⟨rfl, hb2⟩; obtain ⟨hc2, hf2, hz2⟩ := bcell hb2; (try simp at hz2)) | (go_at_call 24; refine (RDay_any _ _ _ r0 r1).mono ?_; rintro e w2 ⟨rfl, hb2⟩; obtain ⟨hc2, hf2, hz2⟩ := bcell hb2; (try simp at hz2)) | (go_at_call 21; refine (Nominal_ok _ _ r0 r1).mono ?_; rintro e w3 ⟨rfl, hb3⟩; obtain ⟨hc3, hf3, hz3⟩ := bcell hb3; (try simp at hz3)) | (((go_at_call 45; refine (RNominal_ok _ _ r0 r1).mono ?_; rintro e w3 ⟨rfl, hb3⟩; obtain ⟨hc3, hf3, hz3⟩ := bcell hb3; (try simp at hz3))); have k : ∀ o : Nat, w3.cell? { block := w.heap.size, off := o } = _ := fun o => (hc3 w.heap.size o (by omega)).trans ((hc2 w.heap.size o (by omega)).trans (hc1 w.heap.size o (by simp))); have q : ∀ o : Nat, w3.frozen? { block := w.heap.size, off := o } = _ := fun o => (hf3 w.heap.size o (by omega)).trans ((hf2 w.heap.size o (by omega)).trans (hf1 w.heap.size o (by simp)))) | (go_at_call 39; refine (dropped_ok _ _ _ r0 r1).mono ?_; rintro e w' ⟨rfl, rfl⟩) | (go_at_call 46; refine (Dropped_ok _ _ r0 r1).mono ?_; rintro e w' ⟨rfl, rfl⟩) | go_in)
    refine bodyPost_ret (v := labV (split4 30 true (f + f / 17982 * 9 * 2))) (by simp [results, Try.results23, go_sem, ret3, ret2b, labV, split4, k]) rfl ⟨rfl, ?_⟩
    (repeat (first | (with_reducible exact Below.refl _ _) | (with_reducible assumption) | refine Below.setCell ?_ (by first | exact Nat.le_refl _ | omega | (simp; done) | (simp; omega)) _ | refine Ba.below_step (by assumption) (by first | exact Nat.le_refl _ | omega | (simp; done) | (simp; omega)) ?_ | apply Below.drew | apply Ba.below_drewN | refine Below.alloc ?_ (by first | exact Nat.le_refl _ | omega | (simp; done) | (simp; omega)) _ | refine Below.setCell ?_ (by first | exact Nat.le_refl _ | omega | (simp; done) | (simp; omega)) _))

theorem RLabel_60_4 (r : Int) (f : Int) (w : World) (r0 : 0 ≤ r) (r1 : r ≤ 255) (he : rerr r true = 0) (hn : nm r = 60) (hd : dp r true = 4) (f0 : 0 ≤ f) (f1 : f < 5178816) (hday : day r true = 5178816) :
    Calls Try.prog 23 #[.int .u8 r, .bool true, .int .i64 f] w fun e w' => e = .returned (labV (split4 60 true (num 60 4 f))) ∧ Below w.heap.size w w' := by
  have t53 : decide (f < 0) = false := decide_eq_false (by omega)
  have t54 : decide (5178816 ≤ f) = false := decide_eq_false (by omega)
  by_cases hc : 3600 ≤ f % 35964
  · have e1 : num 60 4 f = f + f / 35964 * 9 * 4 + (((f + f / 35964 * 9 * 4) % 36000 - 3600) / 3596 * 4 + 4) := by unfold num; rw [if_pos (by omega)]; omega
    rw [e1]
    clear e1
    have t55 : decide (3600 ≤ (f + f / 35964 * 9 * 4) % 36000) = true := decide_eq_true (by omega)
    go_enter Try.func23, Try.ntmps23
    go_wp2_with (first | (go_at_call 38; refine (rateError_ok _ _ _ r0 r1).mono ?_; rintro e w1 ⟨rfl, hb1⟩; obtain ⟨hc1, hf1, hz1⟩ := bcell hb1; (try simp at hz1)) | (go_at_call 44; refine (kind_ok _ _ _ r0 r1).mono ?_; rintro e w1 ⟨rfl, hb1⟩; obtain ⟨hc1, hf1, hz1⟩ := bcell hb1; (try simp at hz1)) | (go_at_call 14; refine (Day_any _ _ _ r0 r1).mono ?_; rintro e w2 ⟨rfl, hb2⟩; obtain ⟨hc2, hf2, hz2⟩ := bcell hb2; (try simp at hz2)) | (go_at_call 24; refine (RDay_any _ _ _ r0 r1).mono ?_; rintro e w2 ⟨rfl, hb2⟩; obtain ⟨hc2, hf2, hz2⟩ := bcell hb2; (try simp at hz2)) | (go_at_call 21; refine (Nominal_ok _ _ r0 r1).mono ?_; rintro e w3 ⟨rfl, hb3⟩; obtain ⟨hc3, hf3, hz3⟩ := bcell hb3; (try simp at hz3)) | (((go_at_call 45; refine (RNominal_ok _ _ r0 r1).mono ?_; rintro e w3 ⟨rfl, hb3⟩; obtain ⟨hc3, hf3, hz3⟩ := bcell hb3; (try simp at hz3))); have k : ∀ o : Nat, w3.cell? { block := w.heap.size, off := o } = _ := fun o => (hc3 w.heap.size o (by omega)).trans ((hc2 w.heap.size o (by omega)).trans (hc1 w.heap.size o (by simp))); have q : ∀ o : Nat, w3.frozen? { block := w.heap.size, off := o } = _ := fun o => (hf3 w.heap.size o (by omega)).trans ((hf2 w.heap.size o (by omega)).trans (hf1 w.heap.size o (by simp)))) | (go_at_call 39; refine (dropped_ok _ _ _ r0 r1).mono ?_; rintro e w' ⟨rfl, rfl⟩) | (go_at_call 46; refine (Dropped_ok _ _ r0 r1).mono ?_; rintro e w' ⟨rfl, rfl⟩) | go_in)
    refine bodyPost_ret (v := labV (split4 60 true (f + f / 35964 * 9 * 4 + (((f + f / 35964 * 9 * 4) % 36000 - 3600) / 3596 * 4 + 4)))) (by simp [results, Try.results23, go_sem, ret3, ret2b, labV, split4, k]) rfl ⟨rfl, ?_⟩
    (repeat (first | (with_reducible exact Below.refl _ _) | (with_reducible assumption) | refine Below.setCell ?_ (by first | exact Nat.le_refl _ | omega | (simp; done) | (simp; omega)) _ | refine Ba.below_step (by assumption) (by first | exact Nat.le_refl _ | omega | (simp; done) | (simp; omega)) ?_ | apply Below.drew | apply Ba.below_drewN | refine Below.alloc ?_ (by first | exact Nat.le_refl _ | omega | (simp; done) | (simp; omega)) _ | refine Below.setCell ?_ (by first | exact Nat.le_refl _ | omega | (simp; done) | (simp; omega)) _))
  · have e1 : num 60 4 f = f + f / 35964 * 9 * 4 := by unfold num; rw [if_neg (by omega)]; omega
    rw [e1]
    clear e1
    have t56 : decide (3600 ≤ (f + f / 35964 * 9 * 4) % 36000) = false := decide_eq_false (by omega)
    go_enter Try.func23, Try.ntmps23
    go_wp2_with (first | (go_at_call 38; refine (rateError_ok _ _ _ r0 r1).mono ?_; rintro e w1 ⟨rfl, hb1⟩; obtain ⟨hc1, hf1, hz1⟩ := bcell hb1; (try simp at hz1)) | (go_at_call 44; refine (kind_ok _ _ _ r0 r1).mono ?_; rintro e w1 ⟨rfl, hb1⟩; obtain ⟨hc1, hf1, hz1⟩ := bcell hb1; (try simp at hz1)) | (go_at_call 14; refine (Day_any _ _ _ r0 r1).mono ?_; rintro e w2 ⟨rfl, hb2⟩; obtain ⟨hc2, hf2, hz2⟩ := bcell hb2; (try simp at hz2)) | (go_at_call 24; refine (RDay_any _ _ _ r0 r1).mono ?_; rintro e w2 ⟨rfl, hb2⟩; obtain ⟨hc2, hf2, hz2⟩ := bcell hb2; (try simp at hz2)) | (go_at_call 21; refine (Nominal_ok _ _ r0 r1).mono ?_; rintro e w3 ⟨rfl, hb3⟩; obtain ⟨hc3, hf3, hz3⟩ := bcell hb3; (try simp at hz3)) | (((go_at_call 45; refine (RNominal_ok _ _ r0 r1).mono ?_; rintro e w3 ⟨rfl, hb3⟩; obtain ⟨hc3, hf3, hz3⟩ := bcell hb3; (try simp at hz3))); have k : ∀ o : Nat, w3.cell? { block := w.heap.size, off := o } = _ := fun o => (hc3 w.heap.size o (by omega)).trans ((hc2 w.heap.size o (by omega)).trans (hc1 w.heap.size o (by simp))); have q : ∀ o : Nat, w3.frozen? { block := w.heap.size, off := o } = _ := fun o => (hf3 w.heap.size o (by omega)).trans ((hf2 w.heap.size o (by omega)).trans (hf1 w.heap.size o (by simp)))) | (go_at_call 39; refine (dropped_ok _ _ _ r0 r1).mono ?_; rintro e w' ⟨rfl, rfl⟩) | (go_at_call 46; refine (Dropped_ok _ _ r0 r1).mono ?_; rintro e w' ⟨rfl, rfl⟩) | go_in)
    refine bodyPost_ret (v := labV (split4 60 true (f + f / 35964 * 9 * 4))) (by simp [results, Try.results23, go_sem, ret3, ret2b, labV, split4, k]) rfl ⟨rfl, ?_⟩
    (repeat (first | (with_reducible exact Below.refl _ _) | (with_reducible assumption) | refine Below.setCell ?_ (by first | exact Nat.le_refl _ | omega | (simp; done) | (simp; omega)) _ | refine Ba.below_step (by assumption) (by first | exact Nat.le_refl _ | omega | (simp; done) | (simp; omega)) ?_ | apply Below.drew | apply Ba.below_drewN | refine Below.alloc ?_ (by first | exact Nat.le_refl _ | omega | (simp; done) | (simp; omega)) _ | refine Below.setCell ?_ (by first | exact Nat.le_refl _ | omega | (simp; done) | (simp; omega)) _))

theorem Label_e1 (r : Int) (d : Bool) (f : Int) (w : World) (r0 : 0 ≤ r) (r1 : r ≤ 255) (he : ¬ rerr r d = 0) :
    Calls Try.prog 15 #[.int .u8 r, .bool d, .int .i64 f] w fun e w' => e = .returned (labV (0, 0, 0, 0, false, rerr r d)) ∧ Below w.heap.size w w' := by
  have h1 : (rerr r d != 0) = true := by simpa using he
  go_enter Try.func15, Try.ntmps15
  go_wp2_with (first | (((go_at_call 38; refine (rateError_ok _ _ _ r0 r1).mono ?_; rintro e w1 ⟨rfl, hb1⟩; obtain ⟨hc1, hf1, hz1⟩ := bcell hb1; (try simp at hz1))); have k : ∀ o : Nat, w1.cell? { block := w.heap.size, off := o } = _ := fun o => (hc1 w.heap.size o (by simp)); have q : ∀ o : Nat, w1.frozen? { block := w.heap.size, off := o } = _ := fun o => (hf1 w.heap.size o (by simp))) | (((go_at_call 44; refine (kind_ok _ _ _ r0 r1).mono ?_; rintro e w1 ⟨rfl, hb1⟩; obtain ⟨hc1, hf1, hz1⟩ := bcell hb1; (try simp at hz1))); have k : ∀ o : Nat, w1.cell? { block := w.heap.size, off := o } = _ := fun o => (hc1 w.heap.size o (by simp)); have q : ∀ o : Nat, w1.frozen? { block := w.heap.size, off := o } = _ := fun o => (hf1 w.heap.size o (by simp))) | go_in)
  refine bodyPost_ret (v := labV (0, 0, 0, 0, false, rerr r d)) (by simp [results, Try.results15, go_sem, ret3, ret2b, labV, k]) rfl ⟨rfl, ?_⟩
  (repeat (first | (with_reducible exact Below.refl _ _) | (with_reducible assumption) | refine Below.setCell ?_ (by first | exact Nat.le_refl _ | omega | (simp; done) | (simp; omega)) _ | refine Ba.below_step (by assumption) (by first | exact Nat.le_refl _ | omega | (simp; done) | (simp; omega)) ?_ | apply Below.drew | apply Ba.below_drewN | refine Below.alloc ?_ (by first | exact Nat.le_refl _ | omega | (simp; done) | (simp; omega)) _ | refine Below.setCell ?_ (by first | exact Nat.le_refl _ | omega | (simp; done) | (simp; omega)) _))
theorem Label_e2 (r : Int) (d : Bool) (f : Int) (w : World) (r0 : 0 ≤ r) (r1 : r ≤ 255) (he : rerr r d = 0) (hf : f < 0) :
    Calls Try.prog 15 #[.int .u8 r, .bool d, .int .i64 f] w fun e w' => e = .returned (labV (0, 0, 0, 0, false, 2)) ∧ Below w.heap.size w w' := by
  have t57 : decide (f < 0) = true := decide_eq_true (by omega)
  go_enter Try.func15, Try.ntmps15
  go_wp2_with (first | (((go_at_call 38; refine (rateError_ok _ _ _ r0 r1).mono ?_; rintro e w1 ⟨rfl, hb1⟩; obtain ⟨hc1, hf1, hz1⟩ := bcell hb1; (try simp at hz1))); have k : ∀ o : Nat, w1.cell? { block := w.heap.size, off := o } = _ := fun o => (hc1 w.heap.size o (by simp)); have q : ∀ o : Nat, w1.frozen? { block := w.heap.size, off := o } = _ := fun o => (hf1 w.heap.size o (by simp))) | (((go_at_call 44; refine (kind_ok _ _ _ r0 r1).mono ?_; rintro e w1 ⟨rfl, hb1⟩; obtain ⟨hc1, hf1, hz1⟩ := bcell hb1; (try simp at hz1))); have k : ∀ o : Nat, w1.cell? { block := w.heap.size, off := o } = _ := fun o => (hc1 w.heap.size o (by simp)); have q : ∀ o : Nat, w1.frozen? { block := w.heap.size, off := o } = _ := fun o => (hf1 w.heap.size o (by simp))) | go_in)
  refine bodyPost_ret (v := labV (0, 0, 0, 0, false, 2)) (by simp [results, Try.results15, go_sem, ret3, ret2b, labV, k]) rfl ⟨rfl, ?_⟩
  (repeat (first | (with_reducible exact Below.refl _ _) | (with_reducible assumption) | refine Below.setCell ?_ (by first | exact Nat.le_refl _ | omega | (simp; done) | (simp; omega)) _ | refine Ba.below_step (by assumption) (by first | exact Nat.le_refl _ | omega | (simp; done) | (simp; omega)) ?_ | apply Below.drew | apply Ba.below_drewN | refine Below.alloc ?_ (by first | exact Nat.le_refl _ | omega | (simp; done) | (simp; omega)) _ | refine Below.setCell ?_ (by first | exact Nat.le_refl _ | omega | (simp; done) | (simp; omega)) _))
theorem Label_e3 (r : Int) (d : Bool) (f : Int) (w : World) (r0 : 0 ≤ r) (r1 : r ≤ 255) (he : rerr r d = 0) (hf : ¬ f < 0) (hfd : day r d ≤ f) :
    Calls Try.prog 15 #[.int .u8 r, .bool d, .int .i64 f] w fun e w' => e = .returned (labV (0, 0, 0, 0, false, 2)) ∧ Below w.heap.size w w' := by
  have t58 : decide (f < 0) = false := decide_eq_false (by omega)
  have t59 : decide (day r d ≤ f) = true := decide_eq_true (by omega)
  go_enter Try.func15, Try.ntmps15
  go_wp2_with (first | ((go_at_call 38; refine (rateError_ok _ _ _ r0 r1).mono ?_; rintro e w1 ⟨rfl, hb1⟩; obtain ⟨hc1, hf1, hz1⟩ := bcell hb1; (try simp at hz1))) | ((go_at_call 44; refine (kind_ok _ _ _ r0 r1).mono ?_; rintro e w1 ⟨rfl, hb1⟩; obtain ⟨hc1, hf1, hz1⟩ := bcell hb1; (try simp at hz1))) | (((go_at_call 14; refine (Day_any _ _ _ r0 r1).mono ?_; rintro e w2 ⟨rfl, hb2⟩; obtain ⟨hc2, hf2, hz2⟩ := bcell hb2; (try simp at hz2))); have k : ∀ o : Nat, w2.cell? { block := w.heap.size, off := o } = _ := fun o => ((hc2 w.heap.size o (by omega)).trans (hc1 w.heap.size o (by simp))); have q : ∀ o : Nat, w2.frozen? { block := w.heap.size, off := o } = _ := fun o => ((hf2 w.heap.size o (by omega)).trans (hf1 w.heap.size o (by simp)))) | (((go_at_call 24; refine (RDay_any _ _ _ r0 r1).mono ?_; rintro e w2 ⟨rfl, hb2⟩; obtain ⟨hc2, hf2, hz2⟩ := bcell hb2; (try simp at hz2))); have k : ∀ o : Nat, w2.cell? { block := w.heap.size, off := o } = _ := fun o => ((hc2 w.heap.size o (by omega)).trans (hc1 w.heap.size o (by simp))); have q : ∀ o : Nat, w2.frozen? { block := w.heap.size, off := o } = _ := fun o => ((hf2 w.heap.size o (by omega)).trans (hf1 w.heap.size o (by simp)))) | go_in)
  refine bodyPost_ret (v := labV (0, 0, 0, 0, false, 2)) (by simp [results, Try.results15, go_sem, ret3, ret2b, labV, k]) rfl ⟨rfl, ?_⟩
  (repeat (first | (with_reducible exact Below.refl _ _) | (with_reducible assumption) | refine Below.setCell ?_ (by first | exact Nat.le_refl _ | omega | (simp; done) | (simp; omega)) _ | refine Ba.below_step (by assumption) (by first | exact Nat.le_refl _ | omega | (simp; done) | (simp; omega)) ?_ | apply Below.drew | apply Ba.below_drewN | refine Below.alloc ?_ (by first | exact Nat.le_refl _ | omega | (simp; done) | (simp; omega)) _ | refine Below.setCell ?_ (by first | exact Nat.le_refl _ | omega | (simp; done) | (simp; omega)) _))
theorem Label_any (r : Int) (d : Bool) (f : Int) (w : World) (r0 : 0 ≤ r) (r1 : r ≤ 255) :
    Calls Try.prog 15 #[.int .u8 r, .bool d, .int .i64 f] w fun e w' => e = .returned (labV (labR r d f)) ∧ Below w.heap.size w w' := by
  unfold labR
  split
  · rename_i he; exact Label_e1 r d f w r0 r1 he
  · rename_i he
    have he : rerr r d = 0 := by omega
    split
    · rename_i hf
      by_cases h : f < 0
      · exact Label_e2 r d f w r0 r1 he h
      · exact Label_e3 r d f w r0 r1 he h (by omega)
    · rename_i hf
      obtain ⟨hv, hdr⟩ := rerr_ok r d he
      have hday : day r d = 86400 * nm r - 1296 * dp r d := by unfold day; rw [if_pos he]
      have f0 : 0 ≤ f := by omega
      have f1 : f < 86400 * nm r - 1296 * dp r d := by omega
      have hc := va_yes r hv
      cases d
      · have hd : dp r false = 0 := rfl
        rw [hd] at hday f1 ⊢
        rcases hc with h | h | h | h | h | h | h <;> subst h
        · exact Label_24_0 1 f w r0 r1 he rfl hd f0 (by simpa [nm] using f1) (by simpa [nm] using hday)
        · exact Label_24_0 2 f w r0 r1 he rfl hd f0 (by simpa [nm] using f1) (by simpa [nm] using hday)
        · exact Label_25_0 3 f w r0 r1 he rfl hd f0 (by simpa [nm] using f1) (by simpa [nm] using hday)
        · exact Label_30_0 4 f w r0 r1 he rfl hd f0 (by simpa [nm] using f1) (by simpa [nm] using hday)
        · exact Label_30_0 5 f w r0 r1 he rfl hd f0 (by simpa [nm] using f1) (by simpa [nm] using hday)
        · exact Label_50_0 6 f w r0 r1 he rfl hd f0 (by simpa [nm] using f1) (by simpa [nm] using hday)
        · exact Label_60_0 7 f w r0 r1 he rfl hd f0 (by simpa [nm] using f1) (by simpa [nm] using hday)
      · have hdr' : dr r = true := by simpa using hdr
        have hc : r = 4 ∨ r = 7 := by unfold dr at hdr'; split at hdr'; (omega); split at hdr'; (omega); simp at hdr'
        rcases hc with h | h <;> subst h
        · exact Label_30_2 4 f w r0 r1 he rfl rfl f0 (by simpa [nm, dp] using f1) (by simpa [nm, dp] using hday)
        · exact Label_60_4 7 f w r0 r1 he rfl rfl f0 (by simpa [nm, dp] using f1) (by simpa [nm, dp] using hday)

theorem RLabel_e1 (r : Int) (d : Bool) (f : Int) (w : World) (r0 : 0 ≤ r) (r1 : r ≤ 255) (he : ¬ rerr r d = 0) :
    Calls Try.prog 23 #[.int .u8 r, .bool d, .int .i64 f] w fun e w' => e = .returned (labV (0, 0, 0, 0, false, rerr r d)) ∧ Below w.heap.size w w' := by
  have h1 : (rerr r d != 0) = true := by simpa using he
  go_enter Try.func23, Try.ntmps23
  go_wp2_with (first | (((go_at_call 38; refine (rateError_ok _ _ _ r0 r1).mono ?_; rintro e w1 ⟨rfl, hb1⟩; obtain ⟨hc1, hf1, hz1⟩ := bcell hb1; (try simp at hz1))); have k : ∀ o : Nat, w1.cell? { block := w.heap.size, off := o } = _ := fun o => (hc1 w.heap.size o (by simp)); have q : ∀ o : Nat, w1.frozen? { block := w.heap.size, off := o } = _ := fun o => (hf1 w.heap.size o (by simp))) | (((go_at_call 44; refine (kind_ok _ _ _ r0 r1).mono ?_; rintro e w1 ⟨rfl, hb1⟩; obtain ⟨hc1, hf1, hz1⟩ := bcell hb1; (try simp at hz1))); have k : ∀ o : Nat, w1.cell? { block := w.heap.size, off := o } = _ := fun o => (hc1 w.heap.size o (by simp)); have q : ∀ o : Nat, w1.frozen? { block := w.heap.size, off := o } = _ := fun o => (hf1 w.heap.size o (by simp))) | go_in)
  refine bodyPost_ret (v := labV (0, 0, 0, 0, false, rerr r d)) (by simp [results, Try.results23, go_sem, ret3, ret2b, labV, k]) rfl ⟨rfl, ?_⟩
  (repeat (first | (with_reducible exact Below.refl _ _) | (with_reducible assumption) | refine Below.setCell ?_ (by first | exact Nat.le_refl _ | omega | (simp; done) | (simp; omega)) _ | refine Ba.below_step (by assumption) (by first | exact Nat.le_refl _ | omega | (simp; done) | (simp; omega)) ?_ | apply Below.drew | apply Ba.below_drewN | refine Below.alloc ?_ (by first | exact Nat.le_refl _ | omega | (simp; done) | (simp; omega)) _ | refine Below.setCell ?_ (by first | exact Nat.le_refl _ | omega | (simp; done) | (simp; omega)) _))
theorem RLabel_e2 (r : Int) (d : Bool) (f : Int) (w : World) (r0 : 0 ≤ r) (r1 : r ≤ 255) (he : rerr r d = 0) (hf : f < 0) :
    Calls Try.prog 23 #[.int .u8 r, .bool d, .int .i64 f] w fun e w' => e = .returned (labV (0, 0, 0, 0, false, 2)) ∧ Below w.heap.size w w' := by
  have t60 : decide (f < 0) = true := decide_eq_true (by omega)
  go_enter Try.func23, Try.ntmps23
  go_wp2_with (first | (((go_at_call 38; refine (rateError_ok _ _ _ r0 r1).mono ?_; rintro e w1 ⟨rfl, hb1⟩; obtain ⟨hc1, hf1, hz1⟩ := bcell hb1; (try simp at hz1))); have k : ∀ o : Nat, w1.cell? { block := w.heap.size, off := o } = _ := fun o => (hc1 w.heap.size o (by simp)); have q : ∀ o : Nat, w1.frozen? { block := w.heap.size, off := o } = _ := fun o => (hf1 w.heap.size o (by simp))) | (((go_at_call 44; refine (kind_ok _ _ _ r0 r1).mono ?_; rintro e w1 ⟨rfl, hb1⟩; obtain ⟨hc1, hf1, hz1⟩ := bcell hb1; (try simp at hz1))); have k : ∀ o : Nat, w1.cell? { block := w.heap.size, off := o } = _ := fun o => (hc1 w.heap.size o (by simp)); have q : ∀ o : Nat, w1.frozen? { block := w.heap.size, off := o } = _ := fun o => (hf1 w.heap.size o (by simp))) | go_in)
  refine bodyPost_ret (v := labV (0, 0, 0, 0, false, 2)) (by simp [results, Try.results23, go_sem, ret3, ret2b, labV, k]) rfl ⟨rfl, ?_⟩
  (repeat (first | (with_reducible exact Below.refl _ _) | (with_reducible assumption) | refine Below.setCell ?_ (by first | exact Nat.le_refl _ | omega | (simp; done) | (simp; omega)) _ | refine Ba.below_step (by assumption) (by first | exact Nat.le_refl _ | omega | (simp; done) | (simp; omega)) ?_ | apply Below.drew | apply Ba.below_drewN | refine Below.alloc ?_ (by first | exact Nat.le_refl _ | omega | (simp; done) | (simp; omega)) _ | refine Below.setCell ?_ (by first | exact Nat.le_refl _ | omega | (simp; done) | (simp; omega)) _))
theorem RLabel_e3 (r : Int) (d : Bool) (f : Int) (w : World) (r0 : 0 ≤ r) (r1 : r ≤ 255) (he : rerr r d = 0) (hf : ¬ f < 0) (hfd : day r d ≤ f) :
    Calls Try.prog 23 #[.int .u8 r, .bool d, .int .i64 f] w fun e w' => e = .returned (labV (0, 0, 0, 0, false, 2)) ∧ Below w.heap.size w w' := by
  have t61 : decide (f < 0) = false := decide_eq_false (by omega)
  have t62 : decide (day r d ≤ f) = true := decide_eq_true (by omega)
  go_enter Try.func23, Try.ntmps23
  go_wp2_with (first | ((go_at_call 38; refine (rateError_ok _ _ _ r0 r1).mono ?_; rintro e w1 ⟨rfl, hb1⟩; obtain ⟨hc1, hf1, hz1⟩ := bcell hb1; (try simp at hz1))) | ((go_at_call 44; refine (kind_ok _ _ _ r0 r1).mono ?_; rintro e w1 ⟨rfl, hb1⟩; obtain ⟨hc1, hf1, hz1⟩ := bcell hb1; (try simp at hz1))) | (((go_at_call 14; refine (Day_any _ _ _ r0 r1).mono ?_; rintro e w2 ⟨rfl, hb2⟩; obtain ⟨hc2, hf2, hz2⟩ := bcell hb2; (try simp at hz2))); have k : ∀ o : Nat, w2.cell? { block := w.heap.size, off := o } = _ := fun o => ((hc2 w.heap.size o (by omega)).trans (hc1 w.heap.size o (by simp))); have q : ∀ o : Nat, w2.frozen? { block := w.heap.size, off := o } = _ := fun o => ((hf2 w.heap.size o (by omega)).trans (hf1 w.heap.size o (by simp)))) | (((go_at_call 24; refine (RDay_any _ _ _ r0 r1).mono ?_; rintro e w2 ⟨rfl, hb2⟩; obtain ⟨hc2, hf2, hz2⟩ := bcell hb2; (try simp at hz2))); have k : ∀ o : Nat, w2.cell? { block := w.heap.size, off := o } = _ := fun o => ((hc2 w.heap.size o (by omega)).trans (hc1 w.heap.size o (by simp))); have q : ∀ o : Nat, w2.frozen? { block := w.heap.size, off := o } = _ := fun o => ((hf2 w.heap.size o (by omega)).trans (hf1 w.heap.size o (by simp)))) | go_in)
  refine bodyPost_ret (v := labV (0, 0, 0, 0, false, 2)) (by simp [results, Try.results23, go_sem, ret3, ret2b, labV, k]) rfl ⟨rfl, ?_⟩
  (repeat (first | (with_reducible exact Below.refl _ _) | (with_reducible assumption) | refine Below.setCell ?_ (by first | exact Nat.le_refl _ | omega | (simp; done) | (simp; omega)) _ | refine Ba.below_step (by assumption) (by first | exact Nat.le_refl _ | omega | (simp; done) | (simp; omega)) ?_ | apply Below.drew | apply Ba.below_drewN | refine Below.alloc ?_ (by first | exact Nat.le_refl _ | omega | (simp; done) | (simp; omega)) _ | refine Below.setCell ?_ (by first | exact Nat.le_refl _ | omega | (simp; done) | (simp; omega)) _))
theorem RLabel_any (r : Int) (d : Bool) (f : Int) (w : World) (r0 : 0 ≤ r) (r1 : r ≤ 255) :
    Calls Try.prog 23 #[.int .u8 r, .bool d, .int .i64 f] w fun e w' => e = .returned (labV (labR r d f)) ∧ Below w.heap.size w w' := by
  unfold labR
  split
  · rename_i he; exact RLabel_e1 r d f w r0 r1 he
  · rename_i he
    have he : rerr r d = 0 := by omega
    split
    · rename_i hf
      by_cases h : f < 0
      · exact RLabel_e2 r d f w r0 r1 he h
      · exact RLabel_e3 r d f w r0 r1 he h (by omega)
    · rename_i hf
      obtain ⟨hv, hdr⟩ := rerr_ok r d he
      have hday : day r d = 86400 * nm r - 1296 * dp r d := by unfold day; rw [if_pos he]
      have f0 : 0 ≤ f := by omega
      have f1 : f < 86400 * nm r - 1296 * dp r d := by omega
      have hc := va_yes r hv
      cases d
      · have hd : dp r false = 0 := rfl
        rw [hd] at hday f1 ⊢
        rcases hc with h | h | h | h | h | h | h <;> subst h
        · exact RLabel_24_0 1 f w r0 r1 he rfl hd f0 (by simpa [nm] using f1) (by simpa [nm] using hday)
        · exact RLabel_24_0 2 f w r0 r1 he rfl hd f0 (by simpa [nm] using f1) (by simpa [nm] using hday)
        · exact RLabel_25_0 3 f w r0 r1 he rfl hd f0 (by simpa [nm] using f1) (by simpa [nm] using hday)
        · exact RLabel_30_0 4 f w r0 r1 he rfl hd f0 (by simpa [nm] using f1) (by simpa [nm] using hday)
        · exact RLabel_30_0 5 f w r0 r1 he rfl hd f0 (by simpa [nm] using f1) (by simpa [nm] using hday)
        · exact RLabel_50_0 6 f w r0 r1 he rfl hd f0 (by simpa [nm] using f1) (by simpa [nm] using hday)
        · exact RLabel_60_0 7 f w r0 r1 he rfl hd f0 (by simpa [nm] using f1) (by simpa [nm] using hday)
      · have hdr' : dr r = true := by simpa using hdr
        have hc : r = 4 ∨ r = 7 := by unfold dr at hdr'; split at hdr'; (omega); split at hdr'; (omega); simp at hdr'
        rcases hc with h | h <;> subst h
        · exact RLabel_30_2 4 f w r0 r1 he rfl rfl f0 (by simpa [nm, dp] using f1) (by simpa [nm, dp] using hday)
        · exact RLabel_60_4 7 f w r0 r1 he rfl rfl f0 (by simpa [nm, dp] using f1) (by simpa [nm, dp] using hday)

end Go.Proofs.Ytgllekaanaikhaa.Tb
