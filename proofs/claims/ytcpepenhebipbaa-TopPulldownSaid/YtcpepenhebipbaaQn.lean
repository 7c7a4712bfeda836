/- span.merge and span.Norm at spans that follow one another: one span. -/
import Derived.Test.YtcpepenhebipbaaChecked
import Derived.Test.YtcpepenhebipbaaBase
import Derived.Test.YtcpepenhebipbaaQt
import Derived.Handy
import Derived.LoopTactic
import Derived.Deep.RegionHeld3
import Derived.Laws.OwnMore
namespace Go.Proofs.Ytcpepenhebipbaa.Qi
open Go.RowKit Ba
set_option linter.unusedVariables false
set_option linter.unusedSimpArgs false

theorem Values_ok (a : Option Addr) (len cap : Nat) (w : World) :
    Calls Try.prog 17 #[.slice a len cap] w fun e w' => e = .returned (.func (.func 22) #[] #[.pointer (some ⟨w.heap.size, 0, none⟩)]) ∧ w.alloc (.cells #[.slice a len cap] 27) = w' :=
  (callsIn_wide.1 (values_in Fence.wide 1 trivial rfl a len cap w)).mono fun _ _ ⟨a, b⟩ => ⟨a, b.symm⟩

/-- The state of merge's loop after k rounds. -/
def Mrg (w : World) (g len B : Nat) (f : Nat → Int × Int) (out i : Value) (wr : World) : Prop :=
  ∃ k : Nat, k ≤ len ∧ i = .int .i64 k ∧ Below w.heap.size w wr ∧ B ≤ wr.heap.size ∧ At wr g len f ∧
    ((k = 0 ∧ out = .slice none 0 0) ∨ (0 < k ∧ ∃ o c, out = .slice (some ⟨o, 0, none⟩) 1 c ∧ B ≤ o ∧ o < wr.heap.size ∧ wr.cell? ⟨o, 0, none⟩ = some (.int .i64 (f 0).1) ∧ wr.cell? ⟨o, 1, none⟩ = some (.int .i64 (f (k - 1)).2) ∧ wr.frozen? ⟨o, 1, none⟩ = false))
def MergePost (w : World) (x y : Int) (e : Ending) (w' : World) : Prop :=
  ∃ o c, e = .returned (.slice (some ⟨o, 0, none⟩) 1 c) ∧ w.heap.size ≤ o ∧ o < w'.heap.size ∧ w'.cell? ⟨o, 0, none⟩ = some (.int .i64 x) ∧ w'.cell? ⟨o, 1, none⟩ = some (.int .i64 y) ∧ Below w.heap.size w w'
/-- Spans that follow one another. -/
structure Tiles (f : Nat → Int × Int) : Prop where
  lt : ∀ i, (f i).1 < (f i).2
  next : ∀ i, (f (i + 1)).1 = (f i).2
  up : ∀ i j, i < j → (f i).1 < (f j).1
set_option maxHeartbeats 2000000 in
theorem merge_ok (b len cap : Nat) (f : Nat → Int × Int) (hlen1 : 1 ≤ len) (hlen : len ≤ 400) (hT : Tiles f) (w : World) (hb : b < w.heap.size) (hI : At w b len f) :
    Calls Try.prog 13 #[.slice (some ⟨b, 0, none⟩) len cap] w (MergePost w (f 0).1 (f (len - 1)).2) := by
  obtain ⟨i0, hi, hz0, hz1, hz2⟩ := info_parts info_sp
  go_enter Try.func13, Try.ntmps13
  go_wp2_with (first | (go_at_call 17; refine (Values_ok _ _ _ _).mono ?_; rintro e w' ⟨rfl, rfl⟩) | (go_at_call 16; refine (Sorted_ok w.heap.size b len cap f hlen1 hlen hT.up _ (by simp) (by simp; omega) (by simp) (hI.below ((Below.refl _ _).alloc (Nat.le_refl _) _) hb)).mono ?_; rintro e w1 ⟨g, cap1, rfl, hg0, hg1, hI1, hb1⟩) | fail)
  have hB1 : Below w.heap.size w w1 := ((Below.refl w.heap.size w).alloc (Nat.le_refl _) _).trans (hb1.mono (by simp))
  go_loopw [3, 13] (fun out i wr => Mrg w g len w1.heap.size f out i wr) (fun _ i _ => len - (intOf i).toNat)
  case atStart => exact ⟨0, by omega, rfl, hB1, Nat.le_refl _, hI1, .inl ⟨rfl, rfl⟩⟩
  case round =>
    obtain ⟨k, hk, rfl, hbr, hsz, hAt, hout⟩ := hrel
    have hws := hbr.size
    have hw1 := hB1.size
    by_cases hlt : k < len
    · obtain ⟨c1, c2⟩ := hAt k hlt
      have hxy := hT.lt k
      rcases hout with ⟨rfl, rfl⟩ | ⟨hk0, o, c, rfl, ho1, ho2, d0, d1, df⟩
      · have h0 : (f 0).1 = (f 0).1 := rfl
        have t1 : decide ((f 0).2 ≤ (f 0).1) = false := decide_eq_false (by omega)
        clear h0
        go_wp2
        go_quiet (fail)
        go_wp2_with (at_builtin; refine wpList_append_own _ rfl _ _ 27 rfl w1.heap.size 23 i0 (.agg #[.int .i64 0, .int .i64 0]) 2 16 Try.underlying27 hi hz0 hz1 hz2 rfl (by decide) (.slice none 0 0) 0 [] rfl (World.ownsRow_nil _ _ _ _) ⟨wr.heap.size + 1, 0, none⟩ 1 1 [.int .i64 (f 0).1, .int .i64 (f 0).2] rfl rfl ?d1 ?d2 ?d3 ?d4 ?d5 ?_)
        case d1 =>
          have h := news_two ((wr.alloc (.cells #[.int .i64 (f 0).1, .int .i64 (f 0).2] 23)).drewN nq) (f 0) 23
          simp only [World.heap_drewN, World.size_alloc] at h
          exact h
        case d2 => simp [Value.oneCell']
        case d3 => unfold maxLen; omega
        case d4 => omega
        case d5 => simp; omega
        intro v' w2 hown' hgrow _
        obtain ⟨o, c, rfl⟩ := ownsRow_succ hown'
        have e0 := hown'.cellAt 0 (by omega)
        have e1 := hown'.cellAt 1 (by omega)
        have ef := hown'.frozenAt 1
        obtain ⟨ob, olt⟩ := hown'.lt o rfl
        simp at e0 e1
        have hg2 := hgrow.size
        simp at hg2
        have hBw : Below (g + 1) wr w2 := Below.grown (by (repeat (first | (with_reducible exact Below.refl _ _) | (with_reducible assumption) | refine Below.setCell ?_ (by first | exact Nat.le_refl _ | omega | (simp; done) | (simp; omega)) _ | refine Ba.below_step (by assumption) (by first | exact Nat.le_refl _ | omega | (simp; done) | (simp; omega)) ?_ | apply Below.drew | apply Ba.below_drewN | refine Below.alloc ?_ (by first | exact Nat.le_refl _ | omega | (simp; done) | (simp; omega)) _ | refine Below.setCell ?_ (by first | exact Nat.le_refl _ | omega | (simp; done) | (simp; omega)) _))) hgrow (by simp; omega) (fun j hj => by simp [Value.ownBlock] at hj)
        have hBw' : Below w.heap.size w w2 := Below.grown (by (repeat (first | (with_reducible exact Below.refl _ _) | (with_reducible assumption) | refine Below.setCell ?_ (by first | exact Nat.le_refl _ | omega | (simp; done) | (simp; omega)) _ | refine Ba.below_step (by assumption) (by first | exact Nat.le_refl _ | omega | (simp; done) | (simp; omega)) ?_ | apply Below.drew | apply Ba.below_drewN | refine Below.alloc ?_ (by first | exact Nat.le_refl _ | omega | (simp; done) | (simp; omega)) _ | refine Below.setCell ?_ (by first | exact Nat.le_refl _ | omega | (simp; done) | (simp; omega)) _))) hgrow (by have := hbr.size; simp; omega) (fun j hj => by simp [Value.ownBlock] at hj)
        have hA2 := hAt.below hBw (by omega)
        clear hAt hgrow hown' hbr hBw c1 c2
        go_wp2
        go_roundw
        case rel => exact ⟨1, by omega, by go_num, hBw', by omega, hA2, .inr ⟨by omega, o, c, rfl, ob, olt, e0, e1, ef⟩⟩
        case measure => simp [intOf]; omega
      · have hn : (f k).1 = (f (k - 1)).2 := by have := hT.next (k - 1); rwa [show k - 1 + 1 = k from by omega] at this
        rw [hn] at c1 hxy
        clear hn
        generalize hy : (f k).2 = y at *
        generalize hp : (f (k - 1)).2 = p at *
        have hgo : g ≠ o := by omega
        have hm : max p y = y := by omega
        have t2 : decide (y ≤ p) = false := decide_eq_false (by omega)
        have t3 : decide (p ≤ y) = true := decide_eq_true (by omega)
        have t4 : decide (p < y) = true := decide_eq_true (by omega)
        have t5 : decide (y < p) = false := decide_eq_false (by omega)
        go_wp2
        go_quiet (fail)
        go_wp2
        refine region_tail 12 (by kernel_rfl) (by kernel_rfl) ?_
        simp only [List.take_succ_cons, List.take_zero, List.drop_succ_cons, List.drop_zero]
        repeat still_step
        refine wpStill_nil ?_
        go_wp2
        go_roundw
        case rel =>
          have hs : Below (g + 1) wr (((wr.alloc (.cells #[.int .i64 p, .int .i64 y] 23)).drewN (nq + 1)).setCell ⟨o, 1, none⟩ (.int .i64 y)) := by (repeat (first | (with_reducible exact Below.refl _ _) | (with_reducible assumption) | refine Below.setCell ?_ (by first | exact Nat.le_refl _ | omega | (simp; done) | (simp; omega)) _ | refine Ba.below_step (by assumption) (by first | exact Nat.le_refl _ | omega | (simp; done) | (simp; omega)) ?_ | apply Below.drew | apply Ba.below_drewN | refine Below.alloc ?_ (by first | exact Nat.le_refl _ | omega | (simp; done) | (simp; omega)) _ | refine Below.setCell ?_ (by first | exact Nat.le_refl _ | omega | (simp; done) | (simp; omega)) _))
          refine ⟨k + 1, by omega, by go_num, by (repeat (first | (with_reducible exact Below.refl _ _) | (with_reducible assumption) | refine Below.setCell ?_ (by first | exact Nat.le_refl _ | omega | (simp; done) | (simp; omega)) _ | refine Ba.below_step (by assumption) (by first | exact Nat.le_refl _ | omega | (simp; done) | (simp; omega)) ?_ | apply Below.drew | apply Ba.below_drewN | refine Below.alloc ?_ (by first | exact Nat.le_refl _ | omega | (simp; done) | (simp; omega)) _ | refine Below.setCell ?_ (by first | exact Nat.le_refl _ | omega | (simp; done) | (simp; omega)) _)), by simp; omega, hAt.below hs (by omega), .inr ⟨by omega, o, c, rfl, ho1, by simp; omega, ?_, ?_, ?_⟩⟩
          · go_cell
          · rw [show k + 1 - 1 = k from by omega, hy]; go_cell
          · go_cell
        case measure => simp [intOf]; omega
    · obtain rfl : k = len := by omega
      rcases hout with ⟨rfl, rfl⟩ | ⟨hk0, o, c, rfl, ho1, ho2, d0, d1, df⟩
      · omega
      · go_wp2
        go_ret
        exact ⟨o, c, rfl, by have := hB1.size; omega, ho2, d0, d1, hbr⟩
def NormPost (w : World) (x y : Int) (e : Ending) (w' : World) : Prop :=
  ∃ o c, e = .returned (.tuple #[.slice (some ⟨o, 0, none⟩) 1 c, .int .i64 0]) ∧ w.heap.size ≤ o ∧ o < w'.heap.size ∧ w'.cell? ⟨o, 0, none⟩ = some (.int .i64 x) ∧ w'.cell? ⟨o, 1, none⟩ = some (.int .i64 y) ∧ Below w.heap.size w w'
def Nrm (w : World) (len : Nat) (i : Value) (wr : World) : Prop := ∃ k : Nat, k ≤ len ∧ i = .int .i64 k ∧ Below w.heap.size w wr
set_option maxHeartbeats 1000000 in
theorem Norm_ok (b len cap : Nat) (f : Nat → Int × Int) (hlen1 : 1 ≤ len) (hlen : len ≤ 400) (hT : Tiles f) (hr : ∀ j, j < len → 0 ≤ (f j).1 ∧ (f j).2 ≤ 10378368000) (w : World) (hb : b < w.heap.size) (hI : At w b len f) :
    Calls Try.prog 6 #[.slice (some ⟨b, 0, none⟩) len cap] w (NormPost w (f 0).1 (f (len - 1)).2) := by
  have hl : decide ((400 : Int) < (len : Int)) = false := decide_eq_false (by omega)
  go_enter Try.func6, Try.ntmps6
  go_wp2
  go_loopw [11] (fun i wr => Nrm w len i wr) (fun i _ => len - (intOf i).toNat)
  case atStart => exact ⟨0, by omega, rfl, Below.refl _ _⟩
  case round =>
    obtain ⟨k, hk, rfl, hbr⟩ := hrel
    have hAt := hI.below hbr hb
    have hws := hbr.size
    by_cases hlt : k < len
    · obtain ⟨c1, c2⟩ := hAt k hlt
      have hxy := hT.lt k
      obtain ⟨r1, r2⟩ := hr k hlt
      generalize hx : (f k).1 = x at *
      generalize hy : (f k).2 = y at *
      have t6 : decide (x < y) = true := decide_eq_true (by omega)
      have t7 : decide (x < 0) = false := decide_eq_false (by omega)
      have t8 : decide (10378368000 < y) = false := decide_eq_false (by omega)
      go_wp2
      go_roundw
      case rel => exact ⟨k + 1, by omega, by go_num, by (repeat (first | (with_reducible exact Below.refl _ _) | (with_reducible assumption) | refine Below.setCell ?_ (by first | exact Nat.le_refl _ | omega | (simp; done) | (simp; omega)) _ | refine Ba.below_step (by assumption) (by first | exact Nat.le_refl _ | omega | (simp; done) | (simp; omega)) ?_ | apply Below.drew | apply Ba.below_drewN | refine Below.alloc ?_ (by first | exact Nat.le_refl _ | omega | (simp; done) | (simp; omega)) _ | refine Below.setCell ?_ (by first | exact Nat.le_refl _ | omega | (simp; done) | (simp; omega)) _))⟩
      case measure => simp [intOf]; omega
    · obtain rfl : k = len := by omega
      go_wp2_with (go_at_call 13; refine (merge_ok b k cap f hlen1 hlen hT _ (by omega) hAt).mono ?_; rintro e w1 ⟨o, c, rfl, ho, ho1, d0, d1, hb1⟩)
      go_ret2
      exact ⟨o, c, rfl, by omega, ho1, d0, d1, hbr.trans (hb1.mono hws)⟩
end Go.Proofs.Ytcpepenhebipbaa.Qi
