/-
  No cell of these rows narrows 'for every input' (looked for: loops, veiled, ifaces, maps, wideKeys, modest, calm, conditions, laid).
  DERIVED. THE GIVEN ROWS OF THIS SEAT. 11 by the template 'for every input the law returns true; each argument reads behind the call as it read before'; 0 by the template 'total and deterministic' (their statements: YtgllekaanaikhaaTotals.lean).
  GIVEN WITH THE SEED: the statements are not yours to turn. If you find one false, say at which input.
  Laid BY PROGRAM, IN A SANDBOX (cutbox-rows.mjs): the forced cells as the released guide's own fill.sh prints them over the translation 701abcf06a25e9a0… (all of the seat's roots in one cut). By AI agents, Wed Nov 11 2026. No macro, syntax, notation, axiom, sorry.
-/
import Derived.Test.YtgllekaanaikhaaChecked
import GoSem.Claim
import GoSem.ClaimJoined
import GoSem.ClaimMapViews
import Derived.JoinedTies
import Derived.KernelRfl
namespace Go.Proofs.Ytgllekaanaikhaa
/- THE CELL 'sum', in the pinned program and in every row, IS THE sha256 OF THE DUMP (.gsa) THAT YtgllekaanaikhaaProg.lean LOADS. Nothing in Lean hashes anything: it is a label: what it is worth is what the hold of that sum in a sandbox is worth. -/
noncomputable def Try.pinned : Pinned := { name := "ytgllekaanaikhaa", sum := "701abcf06a25e9a0e9be05c085e61d61c8076e701b2e9ca22af82c249abd262a", checked := Try.checked }
namespace Rows
def none {H : Type} : Left H := { results := [], args := [] }

/-- 'captionertop.TopLabels': WHATEVER THE INPUT: true; the input reads as it did. -/
def topLabelsSpec : ChangeSpec := { name := "topLabels", fn := fun _ => fun
  | [d1, d2, d3] => { results := [.lit (.bool true)], args := [d1, d2, d3] }
  | _ => none }
def topLabelsRow : OpenClaim := { program := "ytgllekaanaikhaa", sum := "701abcf06a25e9a0e9be05c085e61d61c8076e701b2e9ca22af82c249abd262a", func := "captioner/captionertop.TopLabels", spec := "topLabels", apart := false }
def TopLabelsSaid : Prop := topLabelsRow.holds Try.pinned (OpenSpec.ofChange topLabelsSpec)

/-- ITS FALSE NEIGHBOUR: 'it returns false'. Refute it at one input. -/
def topLabelsWrong : ChangeSpec := { name := "topLabels", fn := fun _ => fun
  | [d1, d2, d3] => { results := [.lit (.bool false)], args := [d1, d2, d3] }
  | _ => none }
def TopLabelsWrongFalsely : Prop := topLabelsRow.holds Try.pinned (OpenSpec.ofChange topLabelsWrong)

/-- 'captionerlaw03.TimecodeLabels': WHATEVER THE INPUT: true; the input reads as it did. -/
def timecodeLabelsSpec : ChangeSpec := { name := "timecodeLabels", fn := fun _ => fun
  | [d1, d2, d3] => { results := [.lit (.bool true)], args := [d1, d2, d3] }
  | _ => none }
def timecodeLabelsRow : OpenClaim := { program := "ytgllekaanaikhaa", sum := "701abcf06a25e9a0e9be05c085e61d61c8076e701b2e9ca22af82c249abd262a", func := "captioner/captionerlaw03.TimecodeLabels", spec := "timecodeLabels", apart := false }
def TimecodeLabelsSaid : Prop := timecodeLabelsRow.holds Try.pinned (OpenSpec.ofChange timecodeLabelsSpec)

/-- ITS FALSE NEIGHBOUR: 'it returns false'. Refute it at one input. -/
def timecodeLabelsWrong : ChangeSpec := { name := "timecodeLabels", fn := fun _ => fun
  | [d1, d2, d3] => { results := [.lit (.bool false)], args := [d1, d2, d3] }
  | _ => none }
def TimecodeLabelsWrongFalsely : Prop := timecodeLabelsRow.holds Try.pinned (OpenSpec.ofChange timecodeLabelsWrong)

/-- 'captionerlaw03.TimecodeLags': WHATEVER THE INPUT: true; the input reads as it did. -/
def timecodeLagsSpec : ChangeSpec := { name := "timecodeLags", fn := fun _ => fun
  | [d1, d2, d3] => { results := [.lit (.bool true)], args := [d1, d2, d3] }
  | _ => none }
def timecodeLagsRow : OpenClaim := { program := "ytgllekaanaikhaa", sum := "701abcf06a25e9a0e9be05c085e61d61c8076e701b2e9ca22af82c249abd262a", func := "captioner/captionerlaw03.TimecodeLags", spec := "timecodeLags", apart := false }
def TimecodeLagsSaid : Prop := timecodeLagsRow.holds Try.pinned (OpenSpec.ofChange timecodeLagsSpec)

/-- ITS FALSE NEIGHBOUR: 'it returns false'. Refute it at one input. -/
def timecodeLagsWrong : ChangeSpec := { name := "timecodeLags", fn := fun _ => fun
  | [d1, d2, d3] => { results := [.lit (.bool false)], args := [d1, d2, d3] }
  | _ => none }
def TimecodeLagsWrongFalsely : Prop := timecodeLagsRow.holds Try.pinned (OpenSpec.ofChange timecodeLagsWrong)

/-- 'captionerlaw03.TimecodeReal': WHATEVER THE INPUT: true; the input reads as it did. -/
def timecodeRealSpec : ChangeSpec := { name := "timecodeReal", fn := fun _ => fun
  | [d1, d2] => { results := [.lit (.bool true)], args := [d1, d2] }
  | _ => none }
def timecodeRealRow : OpenClaim := { program := "ytgllekaanaikhaa", sum := "701abcf06a25e9a0e9be05c085e61d61c8076e701b2e9ca22af82c249abd262a", func := "captioner/captionerlaw03.TimecodeReal", spec := "timecodeReal", apart := false }
def TimecodeRealSaid : Prop := timecodeRealRow.holds Try.pinned (OpenSpec.ofChange timecodeRealSpec)

/-- ITS FALSE NEIGHBOUR: 'it returns false'. Refute it at one input. -/
def timecodeRealWrong : ChangeSpec := { name := "timecodeReal", fn := fun _ => fun
  | [d1, d2] => { results := [.lit (.bool false)], args := [d1, d2] }
  | _ => none }
def TimecodeRealWrongFalsely : Prop := timecodeRealRow.holds Try.pinned (OpenSpec.ofChange timecodeRealWrong)

/-- 'captionerlaw03.TimecodeParses': WHATEVER THE INPUT: true; the input reads as it did. -/
def timecodeParsesSpec : ChangeSpec := { name := "timecodeParses", fn := fun _ => fun
  | [d1, d2] => { results := [.lit (.bool true)], args := [d1, d2] }
  | _ => none }
def timecodeParsesRow : OpenClaim := { program := "ytgllekaanaikhaa", sum := "701abcf06a25e9a0e9be05c085e61d61c8076e701b2e9ca22af82c249abd262a", func := "captioner/captionerlaw03.TimecodeParses", spec := "timecodeParses", apart := false }
def TimecodeParsesSaid : Prop := timecodeParsesRow.holds Try.pinned (OpenSpec.ofChange timecodeParsesSpec)

/-- ITS FALSE NEIGHBOUR: 'it returns false'. Refute it at one input. -/
def timecodeParsesWrong : ChangeSpec := { name := "timecodeParses", fn := fun _ => fun
  | [d1, d2] => { results := [.lit (.bool false)], args := [d1, d2] }
  | _ => none }
def TimecodeParsesWrongFalsely : Prop := timecodeParsesRow.holds Try.pinned (OpenSpec.ofChange timecodeParsesWrong)

/-- 'captionerlaw03.TimecodeChecks': WHATEVER THE INPUT: true; the input reads as it did. -/
def timecodeChecksSpec : ChangeSpec := { name := "timecodeChecks", fn := fun _ => fun
  | [d1, d2] => { results := [.lit (.bool true)], args := [d1, d2] }
  | _ => none }
def timecodeChecksRow : OpenClaim := { program := "ytgllekaanaikhaa", sum := "701abcf06a25e9a0e9be05c085e61d61c8076e701b2e9ca22af82c249abd262a", func := "captioner/captionerlaw03.TimecodeChecks", spec := "timecodeChecks", apart := false }
def TimecodeChecksSaid : Prop := timecodeChecksRow.holds Try.pinned (OpenSpec.ofChange timecodeChecksSpec)

/-- ITS FALSE NEIGHBOUR: 'it returns false'. Refute it at one input. -/
def timecodeChecksWrong : ChangeSpec := { name := "timecodeChecks", fn := fun _ => fun
  | [d1, d2] => { results := [.lit (.bool false)], args := [d1, d2] }
  | _ => none }
def TimecodeChecksWrongFalsely : Prop := timecodeChecksRow.holds Try.pinned (OpenSpec.ofChange timecodeChecksWrong)

/-- 'captionerlaw03.TimecodeBack': WHATEVER THE INPUT: true; the input reads as it did. -/
def timecodeBackSpec : ChangeSpec := { name := "timecodeBack", fn := fun _ => fun
  | [d1, d2, d3] => { results := [.lit (.bool true)], args := [d1, d2, d3] }
  | _ => none }
def timecodeBackRow : OpenClaim := { program := "ytgllekaanaikhaa", sum := "701abcf06a25e9a0e9be05c085e61d61c8076e701b2e9ca22af82c249abd262a", func := "captioner/captionerlaw03.TimecodeBack", spec := "timecodeBack", apart := false }
def TimecodeBackSaid : Prop := timecodeBackRow.holds Try.pinned (OpenSpec.ofChange timecodeBackSpec)

/-- ITS FALSE NEIGHBOUR: 'it returns false'. Refute it at one input. -/
def timecodeBackWrong : ChangeSpec := { name := "timecodeBack", fn := fun _ => fun
  | [d1, d2, d3] => { results := [.lit (.bool false)], args := [d1, d2, d3] }
  | _ => none }
def TimecodeBackWrongFalsely : Prop := timecodeBackRow.holds Try.pinned (OpenSpec.ofChange timecodeBackWrong)

/-- 'captionerlaw03.TimecodeTexts': WHATEVER THE INPUT: true; the input reads as it did. -/
def timecodeTextsSpec : ChangeSpec := { name := "timecodeTexts", fn := fun _ => fun
  | [d1, d2] => { results := [.lit (.bool true)], args := [d1, d2] }
  | _ => none }
def timecodeTextsRow : OpenClaim := { program := "ytgllekaanaikhaa", sum := "701abcf06a25e9a0e9be05c085e61d61c8076e701b2e9ca22af82c249abd262a", func := "captioner/captionerlaw03.TimecodeTexts", spec := "timecodeTexts", apart := false }
def TimecodeTextsSaid : Prop := timecodeTextsRow.holds Try.pinned (OpenSpec.ofChange timecodeTextsSpec)

/-- ITS FALSE NEIGHBOUR: 'it returns false'. Refute it at one input. -/
def timecodeTextsWrong : ChangeSpec := { name := "timecodeTexts", fn := fun _ => fun
  | [d1, d2] => { results := [.lit (.bool false)], args := [d1, d2] }
  | _ => none }
def TimecodeTextsWrongFalsely : Prop := timecodeTextsRow.holds Try.pinned (OpenSpec.ofChange timecodeTextsWrong)

/-- 'captionerlaw03.TimecodeOrder': WHATEVER THE INPUT: true; the input reads as it did. -/
def timecodeOrderSpec : ChangeSpec := { name := "timecodeOrder", fn := fun _ => fun
  | [d1, d2] => { results := [.lit (.bool true)], args := [d1, d2] }
  | _ => none }
def timecodeOrderRow : OpenClaim := { program := "ytgllekaanaikhaa", sum := "701abcf06a25e9a0e9be05c085e61d61c8076e701b2e9ca22af82c249abd262a", func := "captioner/captionerlaw03.TimecodeOrder", spec := "timecodeOrder", apart := false }
def TimecodeOrderSaid : Prop := timecodeOrderRow.holds Try.pinned (OpenSpec.ofChange timecodeOrderSpec)

/-- ITS FALSE NEIGHBOUR: 'it returns false'. Refute it at one input. -/
def timecodeOrderWrong : ChangeSpec := { name := "timecodeOrder", fn := fun _ => fun
  | [d1, d2] => { results := [.lit (.bool false)], args := [d1, d2] }
  | _ => none }
def TimecodeOrderWrongFalsely : Prop := timecodeOrderRow.holds Try.pinned (OpenSpec.ofChange timecodeOrderWrong)

/-- 'captionerlaw03.TimecodeRound': WHATEVER THE INPUT: true; the input reads as it did. -/
def timecodeRoundSpec : ChangeSpec := { name := "timecodeRound", fn := fun _ => fun
  | [d1, d2, d3] => { results := [.lit (.bool true)], args := [d1, d2, d3] }
  | _ => none }
def timecodeRoundRow : OpenClaim := { program := "ytgllekaanaikhaa", sum := "701abcf06a25e9a0e9be05c085e61d61c8076e701b2e9ca22af82c249abd262a", func := "captioner/captionerlaw03.TimecodeRound", spec := "timecodeRound", apart := false }
def TimecodeRoundSaid : Prop := timecodeRoundRow.holds Try.pinned (OpenSpec.ofChange timecodeRoundSpec)

/-- ITS FALSE NEIGHBOUR: 'it returns false'. Refute it at one input. -/
def timecodeRoundWrong : ChangeSpec := { name := "timecodeRound", fn := fun _ => fun
  | [d1, d2, d3] => { results := [.lit (.bool false)], args := [d1, d2, d3] }
  | _ => none }
def TimecodeRoundWrongFalsely : Prop := timecodeRoundRow.holds Try.pinned (OpenSpec.ofChange timecodeRoundWrong)

/-- 'captionerlaw03.TimecodeShifts': WHATEVER THE INPUT: true; the input reads as it did. -/
def timecodeShiftsSpec : ChangeSpec := { name := "timecodeShifts", fn := fun _ => fun
  | [d1, d2, d3] => { results := [.lit (.bool true)], args := [d1, d2, d3] }
  | _ => none }
def timecodeShiftsRow : OpenClaim := { program := "ytgllekaanaikhaa", sum := "701abcf06a25e9a0e9be05c085e61d61c8076e701b2e9ca22af82c249abd262a", func := "captioner/captionerlaw03.TimecodeShifts", spec := "timecodeShifts", apart := false }
def TimecodeShiftsSaid : Prop := timecodeShiftsRow.holds Try.pinned (OpenSpec.ofChange timecodeShiftsSpec)

/-- ITS FALSE NEIGHBOUR: 'it returns false'. Refute it at one input. -/
def timecodeShiftsWrong : ChangeSpec := { name := "timecodeShifts", fn := fun _ => fun
  | [d1, d2, d3] => { results := [.lit (.bool false)], args := [d1, d2, d3] }
  | _ => none }
def TimecodeShiftsWrongFalsely : Prop := timecodeShiftsRow.holds Try.pinned (OpenSpec.ofChange timecodeShiftsWrong)

/- THE SECOND FORM. 'bulk': how many values and letters a reading holds, each counted each time it is reached (what is shared counts as often as it is met; a slice's spare places count too). A statement '..UptoSaid' is the law's where the arguments, and the package variables that the reading takes, are together of bulk at most 1048576: NARROWER than '..Said'. Prove '..Said' where nothing that the law and all that it calls make is longer than what came in: it says more and counts as full. Else prove '..UptoSaid'. A law counts once. -/
mutual
def uptoBulk {H : Type} : DataW H → Nat
  | .lit (.string bytes) => bytes.length + 1
  | .lit _ => 1
  | .nil => 1
  | .ptr d => uptoBulk d + 1
  | .slice elems spare => uptoBulkAll elems + uptoBulkAll spare + 1
  | .agg parts => uptoBulkAll parts + 1
  | .iface _ d => uptoBulk d + 1
  | .map entries => uptoBulkEntries entries + 1
  | .held _ => 1
def uptoBulkAll {H : Type} : List (DataW H) → Nat
  | [] => 0
  | d :: r => uptoBulk d + uptoBulkAll r
def uptoBulkEntries {H : Type} : List (Lit × DataW H) → Nat
  | [] => 0
  | x :: r => uptoBulkEntry x + uptoBulkEntries r
def uptoBulkEntry {H : Type} : Lit × DataW H → Nat
  | (.string bytes, d) => bytes.length + uptoBulk d + 1
  | (_, d) => uptoBulk d + 1
 end
def uptoSmall : (H : Type) → List (DataW H) → Bool := fun _ ds => decide (uptoBulkAll ds ≤ 1048576)
def OpenSpec.upto (s : _root_.Go.ChangeSpec) : _root_.Go.OpenSpec := { _root_.Go.OpenSpec.ofChange s with cond := some uptoSmall }

/-- 'captionertop.TopLabels', WHERE WHAT IT READS IS OF BULK AT MOST 1048576: true; the input reads as it did. -/
def topLabelsUptoRow : OpenClaim := { program := "ytgllekaanaikhaa", sum := "701abcf06a25e9a0e9be05c085e61d61c8076e701b2e9ca22af82c249abd262a", func := "captioner/captionertop.TopLabels", spec := "topLabels", apart := false, narrowed := true }
def TopLabelsUptoSaid : Prop := topLabelsUptoRow.holds Try.pinned (OpenSpec.upto topLabelsSpec)

/-- 'captionerlaw03.TimecodeLabels', WHERE WHAT IT READS IS OF BULK AT MOST 1048576: true; the input reads as it did. -/
def timecodeLabelsUptoRow : OpenClaim := { program := "ytgllekaanaikhaa", sum := "701abcf06a25e9a0e9be05c085e61d61c8076e701b2e9ca22af82c249abd262a", func := "captioner/captionerlaw03.TimecodeLabels", spec := "timecodeLabels", apart := false, narrowed := true }
def TimecodeLabelsUptoSaid : Prop := timecodeLabelsUptoRow.holds Try.pinned (OpenSpec.upto timecodeLabelsSpec)

/-- 'captionerlaw03.TimecodeLags', WHERE WHAT IT READS IS OF BULK AT MOST 1048576: true; the input reads as it did. -/
def timecodeLagsUptoRow : OpenClaim := { program := "ytgllekaanaikhaa", sum := "701abcf06a25e9a0e9be05c085e61d61c8076e701b2e9ca22af82c249abd262a", func := "captioner/captionerlaw03.TimecodeLags", spec := "timecodeLags", apart := false, narrowed := true }
def TimecodeLagsUptoSaid : Prop := timecodeLagsUptoRow.holds Try.pinned (OpenSpec.upto timecodeLagsSpec)

/-- 'captionerlaw03.TimecodeReal', WHERE WHAT IT READS IS OF BULK AT MOST 1048576: true; the input reads as it did. -/
def timecodeRealUptoRow : OpenClaim := { program := "ytgllekaanaikhaa", sum := "701abcf06a25e9a0e9be05c085e61d61c8076e701b2e9ca22af82c249abd262a", func := "captioner/captionerlaw03.TimecodeReal", spec := "timecodeReal", apart := false, narrowed := true }
def TimecodeRealUptoSaid : Prop := timecodeRealUptoRow.holds Try.pinned (OpenSpec.upto timecodeRealSpec)

/-- 'captionerlaw03.TimecodeParses', WHERE WHAT IT READS IS OF BULK AT MOST 1048576: true; the input reads as it did. -/
def timecodeParsesUptoRow : OpenClaim := { program := "ytgllekaanaikhaa", sum := "701abcf06a25e9a0e9be05c085e61d61c8076e701b2e9ca22af82c249abd262a", func := "captioner/captionerlaw03.TimecodeParses", spec := "timecodeParses", apart := false, narrowed := true }
def TimecodeParsesUptoSaid : Prop := timecodeParsesUptoRow.holds Try.pinned (OpenSpec.upto timecodeParsesSpec)

/-- 'captionerlaw03.TimecodeChecks', WHERE WHAT IT READS IS OF BULK AT MOST 1048576: true; the input reads as it did. -/
def timecodeChecksUptoRow : OpenClaim := { program := "ytgllekaanaikhaa", sum := "701abcf06a25e9a0e9be05c085e61d61c8076e701b2e9ca22af82c249abd262a", func := "captioner/captionerlaw03.TimecodeChecks", spec := "timecodeChecks", apart := false, narrowed := true }
def TimecodeChecksUptoSaid : Prop := timecodeChecksUptoRow.holds Try.pinned (OpenSpec.upto timecodeChecksSpec)

/-- 'captionerlaw03.TimecodeBack', WHERE WHAT IT READS IS OF BULK AT MOST 1048576: true; the input reads as it did. -/
def timecodeBackUptoRow : OpenClaim := { program := "ytgllekaanaikhaa", sum := "701abcf06a25e9a0e9be05c085e61d61c8076e701b2e9ca22af82c249abd262a", func := "captioner/captionerlaw03.TimecodeBack", spec := "timecodeBack", apart := false, narrowed := true }
def TimecodeBackUptoSaid : Prop := timecodeBackUptoRow.holds Try.pinned (OpenSpec.upto timecodeBackSpec)

/-- 'captionerlaw03.TimecodeTexts', WHERE WHAT IT READS IS OF BULK AT MOST 1048576: true; the input reads as it did. -/
def timecodeTextsUptoRow : OpenClaim := { program := "ytgllekaanaikhaa", sum := "701abcf06a25e9a0e9be05c085e61d61c8076e701b2e9ca22af82c249abd262a", func := "captioner/captionerlaw03.TimecodeTexts", spec := "timecodeTexts", apart := false, narrowed := true }
def TimecodeTextsUptoSaid : Prop := timecodeTextsUptoRow.holds Try.pinned (OpenSpec.upto timecodeTextsSpec)

/-- 'captionerlaw03.TimecodeOrder', WHERE WHAT IT READS IS OF BULK AT MOST 1048576: true; the input reads as it did. -/
def timecodeOrderUptoRow : OpenClaim := { program := "ytgllekaanaikhaa", sum := "701abcf06a25e9a0e9be05c085e61d61c8076e701b2e9ca22af82c249abd262a", func := "captioner/captionerlaw03.TimecodeOrder", spec := "timecodeOrder", apart := false, narrowed := true }
def TimecodeOrderUptoSaid : Prop := timecodeOrderUptoRow.holds Try.pinned (OpenSpec.upto timecodeOrderSpec)

/-- 'captionerlaw03.TimecodeRound', WHERE WHAT IT READS IS OF BULK AT MOST 1048576: true; the input reads as it did. -/
def timecodeRoundUptoRow : OpenClaim := { program := "ytgllekaanaikhaa", sum := "701abcf06a25e9a0e9be05c085e61d61c8076e701b2e9ca22af82c249abd262a", func := "captioner/captionerlaw03.TimecodeRound", spec := "timecodeRound", apart := false, narrowed := true }
def TimecodeRoundUptoSaid : Prop := timecodeRoundUptoRow.holds Try.pinned (OpenSpec.upto timecodeRoundSpec)

/-- 'captionerlaw03.TimecodeShifts', WHERE WHAT IT READS IS OF BULK AT MOST 1048576: true; the input reads as it did. -/
def timecodeShiftsUptoRow : OpenClaim := { program := "ytgllekaanaikhaa", sum := "701abcf06a25e9a0e9be05c085e61d61c8076e701b2e9ca22af82c249abd262a", func := "captioner/captionerlaw03.TimecodeShifts", spec := "timecodeShifts", apart := false, narrowed := true }
def TimecodeShiftsUptoSaid : Prop := timecodeShiftsUptoRow.holds Try.pinned (OpenSpec.upto timecodeShiftsSpec)

end Rows
end Go.Proofs.Ytgllekaanaikhaa
