/- A region that draws its order and whose callees make memory: one walk of the text's order, in the class of worlds in which nothing old has turned. Plain theorems over any program. -/
import Derived.Test.YtgllekaanaikhaaBase
namespace Go.Proofs.Ytgllekaanaikhaa.Ba
open Go.RowKit

/-- The worlds in which nothing below block B has turned since W. -/
def Ext (B : Nat) (W : World) : Type := {x : World // Below B W x}
theorem Ext.ne (B : Nat) (W : World) : Nonempty (Ext B W) := ⟨⟨W, Below.refl _ _⟩⟩
/-- A region that draws its order, whose operations only read what lies below B and whose callees may make memory: one walk of the text's order. -/
theorem region_ext {P : Program} {id : Nat} {Q : Exit → Act → World → Prop} {a : Act} {w : World} {l : List Oper} (B : Nat) (hm : P.follows .mixedOrders = true) (hB : Region.lexB .any l.toArray = true)
    (h : wpQuiet P l.toArray (fun w' => ∃ n : Ext B w, w' = n.val) (fun a' => ∀ w', (∃ n : Ext B w, w' = n.val) → Q .normal a' w') l a) : (Code.region id l.toArray true).wp P Q a w :=
  wp_region_quiet (C := fun w' => ∃ n : Ext B w, w' = n.val) hm hB ⟨⟨_, (Below.refl _ _).drew⟩, rfl⟩ (by simpa using h)
/-- A call in such a region. -/
theorem ext_call {P : Program} {f : FuncId} {args : Array Value} {B : Nat} {W : World} {n : Ext B W} {v : Value} (hB : B ≤ W.heap.size) (h : Calls P f args n.val fun e w' => e = .returned v ∧ Below n.val.heap.size n.val w') :
    Calls P f args n.val fun e w'' => e = .returned v ∧ ∃ m : Ext B W, w'' = m.val :=
  h.mono fun _ w' ⟨he, hb⟩ => ⟨he, ⟨w', n.property.trans (hb.mono (Nat.le_trans hB n.property.size))⟩, rfl⟩
theorem ext_same {P : Program} {f : FuncId} {args : Array Value} {B : Nat} {W : World} {n : Ext B W} {v : Value} (h : Calls P f args n.val fun e w' => e = .returned v ∧ n.val = w') :
    Calls P f args n.val fun e w'' => e = .returned v ∧ ∃ m : Ext B W, w'' = m.val :=
  h.mono fun _ _ ⟨he, hb⟩ => ⟨he, n, hb.symm⟩
theorem Ext.cell {B : Nat} {W : World} (b o : Nat) (v : Value) (hb : b < B) (h : W.cell? ⟨b, o, none⟩ = some v) (n : Ext B W) : n.val.cell? ⟨b, o, none⟩ = some v :=
  (n.property.cell (p := ⟨b, o, none⟩) hb).trans h
/-- The region's end: whatever world of the class is met. -/
theorem ext_nil {P : Program} {ops : Array Oper} {C : World → Prop} {Q : Exit → Act → World → Prop} {a : Act} {B : Nat} {w : World} (h : ∀ w', Below B w w' → Q .normal a w') :
    wpQuiet P ops C (fun a' => ∀ w', (∃ n : Ext B w, w' = n.val) → Q .normal a' w') [] a :=
  wpQuiet_nil fun _ ⟨n, hn⟩ => hn ▸ h n.val n.property
end Go.Proofs.Ytgllekaanaikhaa.Ba
