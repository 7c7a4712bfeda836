/-
  No cell of these rows narrows 'for every input' (looked for: loops, veiled, ifaces, maps, wideKeys, modest, calm, conditions, laid).
  DERIVED. THE GIVEN ROWS OF THIS SEAT. 9 by the template 'for every input the law returns true; each argument reads behind the call as it read before'; 0 by the template 'total and deterministic' (their statements: YthmolfgjligaoaaTotals.lean).
  GIVEN WITH THE SEED: the statements are not yours to turn. If you find one false, say at which input.
  Laid BY PROGRAM, IN A SANDBOX (cutbox-rows.mjs): the forced cells as the released guide's own fill.sh prints them over the translation cd813d928adcf95a… (all of the seat's roots in one cut). By AI agents, Wed Nov 11 2026. No macro, syntax, notation, axiom, sorry.
-/
import Derived.Test.YthmolfgjligaoaaChecked
import GoSem.Claim
import GoSem.ClaimJoined
import GoSem.ClaimMapViews
import Derived.JoinedTies
import Derived.KernelRfl
namespace Go.Proofs.Ythmolfgjligaoaa
/- THE CELL 'sum', in the pinned program and in every row, IS THE sha256 OF THE DUMP (.gsa) THAT YthmolfgjligaoaaProg.lean LOADS. Nothing in Lean hashes anything: it is a label: what it is worth is what the hold of that sum in a sandbox is worth. -/
noncomputable def Try.pinned : Pinned := { name := "ythmolfgjligaoaa", sum := "cd813d928adcf95a5baa0e6f5101a12ba70c948370ee6873e9ded5e89afe92e7", checked := Try.checked }
namespace Rows
def none {H : Type} : Left H := { results := [], args := [] }

/-- 'captionertop.TopRound': WHATEVER THE INPUT: true; the input reads as it did. -/
def topRoundSpec : ChangeSpec := { name := "topRound", fn := fun _ => fun
  | [d1, d2, d3] => { results := [.lit (.bool true)], args := [d1, d2, d3] }
  | _ => none }
def topRoundRow : OpenClaim := { program := "ythmolfgjligaoaa", sum := "cd813d928adcf95a5baa0e6f5101a12ba70c948370ee6873e9ded5e89afe92e7", func := "captioner/captionertop.TopRound", spec := "topRound", apart := false }
def TopRoundSaid : Prop := topRoundRow.holds Try.pinned (OpenSpec.ofChange topRoundSpec)

/-- ITS FALSE NEIGHBOUR: 'it returns false'. Refute it at one input. -/
def topRoundWrong : ChangeSpec := { name := "topRound", fn := fun _ => fun
  | [d1, d2, d3] => { results := [.lit (.bool false)], args := [d1, d2, d3] }
  | _ => none }
def TopRoundWrongFalsely : Prop := topRoundRow.holds Try.pinned (OpenSpec.ofChange topRoundWrong)

/-- 'captionerlaw02.TimebaseFrames': WHATEVER THE INPUT: true; the input reads as it did. -/
def timebaseFramesSpec : ChangeSpec := { name := "timebaseFrames", fn := fun _ => fun
  | [d1, d2, d3] => { results := [.lit (.bool true)], args := [d1, d2, d3] }
  | _ => none }
def timebaseFramesRow : OpenClaim := { program := "ythmolfgjligaoaa", sum := "cd813d928adcf95a5baa0e6f5101a12ba70c948370ee6873e9ded5e89afe92e7", func := "captioner/captionerlaw02.TimebaseFrames", spec := "timebaseFrames", apart := false }
def TimebaseFramesSaid : Prop := timebaseFramesRow.holds Try.pinned (OpenSpec.ofChange timebaseFramesSpec)

/-- ITS FALSE NEIGHBOUR: 'it returns false'. Refute it at one input. -/
def timebaseFramesWrong : ChangeSpec := { name := "timebaseFrames", fn := fun _ => fun
  | [d1, d2, d3] => { results := [.lit (.bool false)], args := [d1, d2, d3] }
  | _ => none }
def TimebaseFramesWrongFalsely : Prop := timebaseFramesRow.holds Try.pinned (OpenSpec.ofChange timebaseFramesWrong)

/-- 'captionerlaw02.TimebaseTables': WHATEVER THE INPUT: true; the input reads as it did. -/
def timebaseTablesSpec : ChangeSpec := { name := "timebaseTables", fn := fun _ => fun
  | [d] => { results := [.lit (.bool true)], args := [d] }
  | _ => none }
def timebaseTablesRow : OpenClaim := { program := "ythmolfgjligaoaa", sum := "cd813d928adcf95a5baa0e6f5101a12ba70c948370ee6873e9ded5e89afe92e7", func := "captioner/captionerlaw02.TimebaseTables", spec := "timebaseTables", apart := false }
def TimebaseTablesSaid : Prop := timebaseTablesRow.holds Try.pinned (OpenSpec.ofChange timebaseTablesSpec)

/-- ITS FALSE NEIGHBOUR: 'it returns false'. Refute it at one input. -/
def timebaseTablesWrong : ChangeSpec := { name := "timebaseTables", fn := fun _ => fun
  | [d] => { results := [.lit (.bool false)], args := [d] }
  | _ => none }
def TimebaseTablesWrongFalsely : Prop := timebaseTablesRow.holds Try.pinned (OpenSpec.ofChange timebaseTablesWrong)

/-- 'captionerlaw02.TimebaseTimes': WHATEVER THE INPUT: true; the input reads as it did. -/
def timebaseTimesSpec : ChangeSpec := { name := "timebaseTimes", fn := fun _ => fun
  | [d1, d2] => { results := [.lit (.bool true)], args := [d1, d2] }
  | _ => none }
def timebaseTimesRow : OpenClaim := { program := "ythmolfgjligaoaa", sum := "cd813d928adcf95a5baa0e6f5101a12ba70c948370ee6873e9ded5e89afe92e7", func := "captioner/captionerlaw02.TimebaseTimes", spec := "timebaseTimes", apart := false }
def TimebaseTimesSaid : Prop := timebaseTimesRow.holds Try.pinned (OpenSpec.ofChange timebaseTimesSpec)

/-- ITS FALSE NEIGHBOUR: 'it returns false'. Refute it at one input. -/
def timebaseTimesWrong : ChangeSpec := { name := "timebaseTimes", fn := fun _ => fun
  | [d1, d2] => { results := [.lit (.bool false)], args := [d1, d2] }
  | _ => none }
def TimebaseTimesWrongFalsely : Prop := timebaseTimesRow.holds Try.pinned (OpenSpec.ofChange timebaseTimesWrong)

/-- 'captionerlaw02.TimebaseMillis': WHATEVER THE INPUT: true; the input reads as it did. -/
def timebaseMillisSpec : ChangeSpec := { name := "timebaseMillis", fn := fun _ => fun
  | [d1, d2] => { results := [.lit (.bool true)], args := [d1, d2] }
  | _ => none }
def timebaseMillisRow : OpenClaim := { program := "ythmolfgjligaoaa", sum := "cd813d928adcf95a5baa0e6f5101a12ba70c948370ee6873e9ded5e89afe92e7", func := "captioner/captionerlaw02.TimebaseMillis", spec := "timebaseMillis", apart := false }
def TimebaseMillisSaid : Prop := timebaseMillisRow.holds Try.pinned (OpenSpec.ofChange timebaseMillisSpec)

/-- ITS FALSE NEIGHBOUR: 'it returns false'. Refute it at one input. -/
def timebaseMillisWrong : ChangeSpec := { name := "timebaseMillis", fn := fun _ => fun
  | [d1, d2] => { results := [.lit (.bool false)], args := [d1, d2] }
  | _ => none }
def TimebaseMillisWrongFalsely : Prop := timebaseMillisRow.holds Try.pinned (OpenSpec.ofChange timebaseMillisWrong)

/-- 'captionerlaw02.TimebaseConverts': WHATEVER THE INPUT: true; the input reads as it did. -/
def timebaseConvertsSpec : ChangeSpec := { name := "timebaseConverts", fn := fun _ => fun
  | [d1, d2, d3] => { results := [.lit (.bool true)], args := [d1, d2, d3] }
  | _ => none }
def timebaseConvertsRow : OpenClaim := { program := "ythmolfgjligaoaa", sum := "cd813d928adcf95a5baa0e6f5101a12ba70c948370ee6873e9ded5e89afe92e7", func := "captioner/captionerlaw02.TimebaseConverts", spec := "timebaseConverts", apart := false }
def TimebaseConvertsSaid : Prop := timebaseConvertsRow.holds Try.pinned (OpenSpec.ofChange timebaseConvertsSpec)

/-- ITS FALSE NEIGHBOUR: 'it returns false'. Refute it at one input. -/
def timebaseConvertsWrong : ChangeSpec := { name := "timebaseConverts", fn := fun _ => fun
  | [d1, d2, d3] => { results := [.lit (.bool false)], args := [d1, d2, d3] }
  | _ => none }
def TimebaseConvertsWrongFalsely : Prop := timebaseConvertsRow.holds Try.pinned (OpenSpec.ofChange timebaseConvertsWrong)

/-- 'captionerlaw02.TimebaseOrder': WHATEVER THE INPUT: true; the input reads as it did. -/
def timebaseOrderSpec : ChangeSpec := { name := "timebaseOrder", fn := fun _ => fun
  | [d1, d2, d3] => { results := [.lit (.bool true)], args := [d1, d2, d3] }
  | _ => none }
def timebaseOrderRow : OpenClaim := { program := "ythmolfgjligaoaa", sum := "cd813d928adcf95a5baa0e6f5101a12ba70c948370ee6873e9ded5e89afe92e7", func := "captioner/captionerlaw02.TimebaseOrder", spec := "timebaseOrder", apart := false }
def TimebaseOrderSaid : Prop := timebaseOrderRow.holds Try.pinned (OpenSpec.ofChange timebaseOrderSpec)

/-- ITS FALSE NEIGHBOUR: 'it returns false'. Refute it at one input. -/
def timebaseOrderWrong : ChangeSpec := { name := "timebaseOrder", fn := fun _ => fun
  | [d1, d2, d3] => { results := [.lit (.bool false)], args := [d1, d2, d3] }
  | _ => none }
def TimebaseOrderWrongFalsely : Prop := timebaseOrderRow.holds Try.pinned (OpenSpec.ofChange timebaseOrderWrong)

/-- 'captionerlaw02.TimebaseNames': WHATEVER THE INPUT: true; the input reads as it did. -/
def timebaseNamesSpec : ChangeSpec := { name := "timebaseNames", fn := fun _ => fun
  | [d1, d2] => { results := [.lit (.bool true)], args := [d1, d2] }
  | _ => none }
def timebaseNamesRow : OpenClaim := { program := "ythmolfgjligaoaa", sum := "cd813d928adcf95a5baa0e6f5101a12ba70c948370ee6873e9ded5e89afe92e7", func := "captioner/captionerlaw02.TimebaseNames", spec := "timebaseNames", apart := false }
def TimebaseNamesSaid : Prop := timebaseNamesRow.holds Try.pinned (OpenSpec.ofChange timebaseNamesSpec)

/-- ITS FALSE NEIGHBOUR: 'it returns false'. Refute it at one input. -/
def timebaseNamesWrong : ChangeSpec := { name := "timebaseNames", fn := fun _ => fun
  | [d1, d2] => { results := [.lit (.bool false)], args := [d1, d2] }
  | _ => none }
def TimebaseNamesWrongFalsely : Prop := timebaseNamesRow.holds Try.pinned (OpenSpec.ofChange timebaseNamesWrong)

/-- 'captionerlaw02.TimebaseBack': WHATEVER THE INPUT: true; the input reads as it did. -/
def timebaseBackSpec : ChangeSpec := { name := "timebaseBack", fn := fun _ => fun
  | [d1, d2] => { results := [.lit (.bool true)], args := [d1, d2] }
  | _ => none }
def timebaseBackRow : OpenClaim := { program := "ythmolfgjligaoaa", sum := "cd813d928adcf95a5baa0e6f5101a12ba70c948370ee6873e9ded5e89afe92e7", func := "captioner/captionerlaw02.TimebaseBack", spec := "timebaseBack", apart := false }
def TimebaseBackSaid : Prop := timebaseBackRow.holds Try.pinned (OpenSpec.ofChange timebaseBackSpec)

/-- ITS FALSE NEIGHBOUR: 'it returns false'. Refute it at one input. -/
def timebaseBackWrong : ChangeSpec := { name := "timebaseBack", fn := fun _ => fun
  | [d1, d2] => { results := [.lit (.bool false)], args := [d1, d2] }
  | _ => none }
def TimebaseBackWrongFalsely : Prop := timebaseBackRow.holds Try.pinned (OpenSpec.ofChange timebaseBackWrong)

/- THE SECOND FORM. 'bulk': how many values and letters a reading holds, each counted each time it is reached (what is shared counts as often as it is met; a slice's spare places count too). A statement '..UptoSaid' is the law's where the arguments, and the package variables that the reading takes, are together of bulk at most 1048576: NARROWER than '..Said'. Prove '..Said' where nothing that the law and all that it calls make is longer than what came in: it says more and counts as full. Else prove '..UptoSaid'. A law counts once. -/
mutual
def uptoBulk {H : Type} : DataW H → Nat
  | .lit (.string bytes) => bytes.length + 1
  | .lit _ => 1
  | .nil => 1
  | .ptr d => uptoBulk d + 1
  | .slice elems spare => uptoBulkAll elems + uptoBulkAll spare + 1
  | .agg parts => uptoBulkAll parts + 1
  | .iface _ d => uptoBulk d + 1
  | .map entries => uptoBulkEntries entries + 1
  | .held _ => 1
def uptoBulkAll {H : Type} : List (DataW H) → Nat
  | [] => 0
  | d :: r => uptoBulk d + uptoBulkAll r
def uptoBulkEntries {H : Type} : List (Lit × DataW H) → Nat
  | [] => 0
  | x :: r => uptoBulkEntry x + uptoBulkEntries r
def uptoBulkEntry {H : Type} : Lit × DataW H → Nat
  | (.string bytes, d) => bytes.length + uptoBulk d + 1
  | (_, d) => uptoBulk d + 1
 end
def uptoSmall : (H : Type) → List (DataW H) → Bool := fun _ ds => decide (uptoBulkAll ds ≤ 1048576)
def OpenSpec.upto (s : _root_.Go.ChangeSpec) : _root_.Go.OpenSpec := { _root_.Go.OpenSpec.ofChange s with cond := some uptoSmall }

/-- 'captionertop.TopRound', WHERE WHAT IT READS IS OF BULK AT MOST 1048576: true; the input reads as it did. -/
def topRoundUptoRow : OpenClaim := { program := "ythmolfgjligaoaa", sum := "cd813d928adcf95a5baa0e6f5101a12ba70c948370ee6873e9ded5e89afe92e7", func := "captioner/captionertop.TopRound", spec := "topRound", apart := false, narrowed := true }
def TopRoundUptoSaid : Prop := topRoundUptoRow.holds Try.pinned (OpenSpec.upto topRoundSpec)

/-- 'captionerlaw02.TimebaseFrames', WHERE WHAT IT READS IS OF BULK AT MOST 1048576: true; the input reads as it did. -/
def timebaseFramesUptoRow : OpenClaim := { program := "ythmolfgjligaoaa", sum := "cd813d928adcf95a5baa0e6f5101a12ba70c948370ee6873e9ded5e89afe92e7", func := "captioner/captionerlaw02.TimebaseFrames", spec := "timebaseFrames", apart := false, narrowed := true }
def TimebaseFramesUptoSaid : Prop := timebaseFramesUptoRow.holds Try.pinned (OpenSpec.upto timebaseFramesSpec)

/-- 'captionerlaw02.TimebaseTables', WHERE WHAT IT READS IS OF BULK AT MOST 1048576: true; the input reads as it did. -/
def timebaseTablesUptoRow : OpenClaim := { program := "ythmolfgjligaoaa", sum := "cd813d928adcf95a5baa0e6f5101a12ba70c948370ee6873e9ded5e89afe92e7", func := "captioner/captionerlaw02.TimebaseTables", spec := "timebaseTables", apart := false, narrowed := true }
def TimebaseTablesUptoSaid : Prop := timebaseTablesUptoRow.holds Try.pinned (OpenSpec.upto timebaseTablesSpec)

/-- 'captionerlaw02.TimebaseTimes', WHERE WHAT IT READS IS OF BULK AT MOST 1048576: true; the input reads as it did. -/
def timebaseTimesUptoRow : OpenClaim := { program := "ythmolfgjligaoaa", sum := "cd813d928adcf95a5baa0e6f5101a12ba70c948370ee6873e9ded5e89afe92e7", func := "captioner/captionerlaw02.TimebaseTimes", spec := "timebaseTimes", apart := false, narrowed := true }
def TimebaseTimesUptoSaid : Prop := timebaseTimesUptoRow.holds Try.pinned (OpenSpec.upto timebaseTimesSpec)

/-- 'captionerlaw02.TimebaseMillis', WHERE WHAT IT READS IS OF BULK AT MOST 1048576: true; the input reads as it did. -/
def timebaseMillisUptoRow : OpenClaim := { program := "ythmolfgjligaoaa", sum := "cd813d928adcf95a5baa0e6f5101a12ba70c948370ee6873e9ded5e89afe92e7", func := "captioner/captionerlaw02.TimebaseMillis", spec := "timebaseMillis", apart := false, narrowed := true }
def TimebaseMillisUptoSaid : Prop := timebaseMillisUptoRow.holds Try.pinned (OpenSpec.upto timebaseMillisSpec)

/-- 'captionerlaw02.TimebaseConverts', WHERE WHAT IT READS IS OF BULK AT MOST 1048576: true; the input reads as it did. -/
def timebaseConvertsUptoRow : OpenClaim := { program := "ythmolfgjligaoaa", sum := "cd813d928adcf95a5baa0e6f5101a12ba70c948370ee6873e9ded5e89afe92e7", func := "captioner/captionerlaw02.TimebaseConverts", spec := "timebaseConverts", apart := false, narrowed := true }
def TimebaseConvertsUptoSaid : Prop := timebaseConvertsUptoRow.holds Try.pinned (OpenSpec.upto timebaseConvertsSpec)

/-- 'captionerlaw02.TimebaseOrder', WHERE WHAT IT READS IS OF BULK AT MOST 1048576: true; the input reads as it did. -/
def timebaseOrderUptoRow : OpenClaim := { program := "ythmolfgjligaoaa", sum := "cd813d928adcf95a5baa0e6f5101a12ba70c948370ee6873e9ded5e89afe92e7", func := "captioner/captionerlaw02.TimebaseOrder", spec := "timebaseOrder", apart := false, narrowed := true }
def TimebaseOrderUptoSaid : Prop := timebaseOrderUptoRow.holds Try.pinned (OpenSpec.upto timebaseOrderSpec)

/-- 'captionerlaw02.TimebaseNames', WHERE WHAT IT READS IS OF BULK AT MOST 1048576: true; the input reads as it did. -/
def timebaseNamesUptoRow : OpenClaim := { program := "ythmolfgjligaoaa", sum := "cd813d928adcf95a5baa0e6f5101a12ba70c948370ee6873e9ded5e89afe92e7", func := "captioner/captionerlaw02.TimebaseNames", spec := "timebaseNames", apart := false, narrowed := true }
def TimebaseNamesUptoSaid : Prop := timebaseNamesUptoRow.holds Try.pinned (OpenSpec.upto timebaseNamesSpec)

/-- 'captionerlaw02.TimebaseBack', WHERE WHAT IT READS IS OF BULK AT MOST 1048576: true; the input reads as it did. -/
def timebaseBackUptoRow : OpenClaim := { program := "ythmolfgjligaoaa", sum := "cd813d928adcf95a5baa0e6f5101a12ba70c948370ee6873e9ded5e89afe92e7", func := "captioner/captionerlaw02.TimebaseBack", spec := "timebaseBack", apart := false, narrowed := true }
def TimebaseBackUptoSaid : Prop := timebaseBackUptoRow.holds Try.pinned (OpenSpec.upto timebaseBackSpec)

end Rows
end Go.Proofs.Ythmolfgjligaoaa
