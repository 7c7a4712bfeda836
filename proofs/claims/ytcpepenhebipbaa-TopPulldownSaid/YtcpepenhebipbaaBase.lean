/- Small words that all contracts of this claim use: results as values, a region whose last operation stores, wraps that hold. Plain theorems over any program. -/
import Derived.WalkKit
import Derived.ProofKit
import Derived.Below
import Derived.Lib.Hide
import Derived.Outline
import Derived.StillTailTactics
import Derived.Deep.QuietTactic
import Derived.BigQuiet
import Derived.WalkSpells
namespace Go.Proofs.Ytcpepenhebipbaa.Ba
open Go.RowKit

@[go_sem] def ret2 (x : Int × Int) : Value := .tuple #[.int .i64 x.1, .int .i64 x.2]
@[go_sem] def ret2b (x : Int × Bool × Int) : Value := .tuple #[.int .i64 x.1, .bool x.2.1, .int .i64 x.2.2]
@[go_sem] def ret3 (x : Int × Int × Int) : Value := .tuple #[.agg #[.int .i64 x.1, .int .i64 x.2.1], .int .i64 x.2.2]

theorem sm {P : Program} {f : FuncId} {args : Array Value} {w : World} {v : Value} (h : Calls P f args w fun e w' => e = .returned v ∧ w = w') : Calls P f args w fun e w' => e = .returned v ∧ w' = w :=
  h.mono fun _ _ ⟨a, b⟩ => ⟨a, b.symm⟩

theorem region_tail {P : Program} {id : Nat} {Q : Exit → Act → World → Prop} {a : Act} {w : World} {l : List Oper} (n : Nat) (hm : P.follows .mixedOrders = true) (hB : Region.lexTailB .any l.toArray n = true)
    (h : wpStill P l.toArray w.drew (fun a' => wpList P l.toArray Q (l.drop n) a' w.drew) (l.take n) a) : (Code.region id l.toArray true).wp P Q a w :=
  wp_region_still_tail n hm hB h

theorem below_drewN {B : Nat} {a w : World} {n : Nat} (h : Below B a w) : Below B a (w.drewN n) := ⟨h.os, h.tape, h.output, h.size, h.block⟩

theorem bcell {W w1 : World} (hb : Below W.heap.size W w1) : (∀ b o, b < W.heap.size → w1.cell? ⟨b, o, none⟩ = W.cell? ⟨b, o, none⟩) ∧ (∀ b o, b < W.heap.size → w1.frozen? ⟨b, o, none⟩ = W.frozen? ⟨b, o, none⟩) ∧ W.heap.size ≤ w1.heap.size :=
  ⟨fun b o h => hb.cell (p := ⟨b, o, none⟩) h, fun b o h => hb.frozen (p := ⟨b, o, none⟩) h, hb.size⟩
theorem below_step {B B2 : Nat} {a b c : World} (k : Below B2 b c) (hB : B ≤ B2) (h : Below B a b) : Below B a c := h.trans (k.mono hB)

theorem in64 (n : Int) (h : -9223372036854775808 ≤ n ∧ n ≤ 9223372036854775807) : wrap64 n = n := IntWalk.wrap64_in n h
theorem half64 (n : Int) (h0 : 0 ≤ n) (h1 : n ≤ 9223372036854775807) : wrap64 (n.tdiv 2) = n / 2 := by
  rw [Int.tdiv_eq_ediv_of_nonneg h0]; exact in64 _ (by omega)
end Go.Proofs.Ytcpepenhebipbaa.Ba
