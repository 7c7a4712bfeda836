/-
  No cell of these rows narrows 'for every input' (looked for: loops, veiled, ifaces, maps, wideKeys, modest, calm, conditions, laid).
  DERIVED. THE GIVEN ROWS OF THIS SEAT. 8 by the template 'for every input the law returns true; each argument reads behind the call as it read before'; 0 by the template 'total and deterministic' (their statements: YtbdbohjpicpbcaaTotals.lean).
  GIVEN WITH THE SEED: the statements are not yours to turn. If you find one false, say at which input.
  Laid BY PROGRAM, IN A SANDBOX (cutbox-rows.mjs): the forced cells as the released guide's own fill.sh prints them over the translation 010e1d8a2b2707a2… (all of the seat's roots in one cut). By AI agents, Wed Nov 11 2026. No macro, syntax, notation, axiom, sorry.
-/
import Derived.Test.YtbdbohjpicpbcaaChecked
import GoSem.Claim
import GoSem.ClaimJoined
import GoSem.ClaimMapViews
import Derived.JoinedTies
import Derived.KernelRfl
namespace Go.Proofs.Ytbdbohjpicpbcaa
/- THE CELL 'sum', in the pinned program and in every row, IS THE sha256 OF THE DUMP (.gsa) THAT YtbdbohjpicpbcaaProg.lean LOADS. Nothing in Lean hashes anything: it is a label: what it is worth is what the hold of that sum in a sandbox is worth. -/
noncomputable def Try.pinned : Pinned := { name := "ytbdbohjpicpbcaa", sum := "010e1d8a2b2707a29d1fc312fbbd428d79c979e831e92abdfde19920dc1ddf30", checked := Try.checked }
namespace Rows
def none {H : Type} : Left H := { results := [], args := [] }

/-- 'captionerlaw04.PulldownSpans': WHATEVER THE INPUT: true; the input reads as it did. -/
def pulldownSpansSpec : ChangeSpec := { name := "pulldownSpans", fn := fun _ => fun
  | [d1, d2] => { results := [.lit (.bool true)], args := [d1, d2] }
  | _ => none }
def pulldownSpansRow : OpenClaim := { program := "ytbdbohjpicpbcaa", sum := "010e1d8a2b2707a29d1fc312fbbd428d79c979e831e92abdfde19920dc1ddf30", func := "captioner/captionerlaw04.PulldownSpans", spec := "pulldownSpans", apart := false }
def PulldownSpansSaid : Prop := pulldownSpansRow.holds Try.pinned (OpenSpec.ofChange pulldownSpansSpec)

/-- ITS FALSE NEIGHBOUR: 'it returns false'. Refute it at one input. -/
def pulldownSpansWrong : ChangeSpec := { name := "pulldownSpans", fn := fun _ => fun
  | [d1, d2] => { results := [.lit (.bool false)], args := [d1, d2] }
  | _ => none }
def PulldownSpansWrongFalsely : Prop := pulldownSpansRow.holds Try.pinned (OpenSpec.ofChange pulldownSpansWrong)

/-- 'captionerlaw04.PulldownShows': WHATEVER THE INPUT: true; the input reads as it did. -/
def pulldownShowsSpec : ChangeSpec := { name := "pulldownShows", fn := fun _ => fun
  | [d1, d2, d3] => { results := [.lit (.bool true)], args := [d1, d2, d3] }
  | _ => none }
def pulldownShowsRow : OpenClaim := { program := "ytbdbohjpicpbcaa", sum := "010e1d8a2b2707a29d1fc312fbbd428d79c979e831e92abdfde19920dc1ddf30", func := "captioner/captionerlaw04.PulldownShows", spec := "pulldownShows", apart := false }
def PulldownShowsSaid : Prop := pulldownShowsRow.holds Try.pinned (OpenSpec.ofChange pulldownShowsSpec)

/-- ITS FALSE NEIGHBOUR: 'it returns false'. Refute it at one input. -/
def pulldownShowsWrong : ChangeSpec := { name := "pulldownShows", fn := fun _ => fun
  | [d1, d2, d3] => { results := [.lit (.bool false)], args := [d1, d2, d3] }
  | _ => none }
def PulldownShowsWrongFalsely : Prop := pulldownShowsRow.holds Try.pinned (OpenSpec.ofChange pulldownShowsWrong)

/-- 'captionerlaw04.PulldownFields': WHATEVER THE INPUT: true; the input reads as it did. -/
def pulldownFieldsSpec : ChangeSpec := { name := "pulldownFields", fn := fun _ => fun
  | [d1, d2] => { results := [.lit (.bool true)], args := [d1, d2] }
  | _ => none }
def pulldownFieldsRow : OpenClaim := { program := "ytbdbohjpicpbcaa", sum := "010e1d8a2b2707a29d1fc312fbbd428d79c979e831e92abdfde19920dc1ddf30", func := "captioner/captionerlaw04.PulldownFields", spec := "pulldownFields", apart := false }
def PulldownFieldsSaid : Prop := pulldownFieldsRow.holds Try.pinned (OpenSpec.ofChange pulldownFieldsSpec)

/-- ITS FALSE NEIGHBOUR: 'it returns false'. Refute it at one input. -/
def pulldownFieldsWrong : ChangeSpec := { name := "pulldownFields", fn := fun _ => fun
  | [d1, d2] => { results := [.lit (.bool false)], args := [d1, d2] }
  | _ => none }
def PulldownFieldsWrongFalsely : Prop := pulldownFieldsRow.holds Try.pinned (OpenSpec.ofChange pulldownFieldsWrong)

/-- 'captionerlaw04.PulldownFilms': WHATEVER THE INPUT: true; the input reads as it did. -/
def pulldownFilmsSpec : ChangeSpec := { name := "pulldownFilms", fn := fun _ => fun
  | [d1, d2] => { results := [.lit (.bool true)], args := [d1, d2] }
  | _ => none }
def pulldownFilmsRow : OpenClaim := { program := "ytbdbohjpicpbcaa", sum := "010e1d8a2b2707a29d1fc312fbbd428d79c979e831e92abdfde19920dc1ddf30", func := "captioner/captionerlaw04.PulldownFilms", spec := "pulldownFilms", apart := false }
def PulldownFilmsSaid : Prop := pulldownFilmsRow.holds Try.pinned (OpenSpec.ofChange pulldownFilmsSpec)

/-- ITS FALSE NEIGHBOUR: 'it returns false'. Refute it at one input. -/
def pulldownFilmsWrong : ChangeSpec := { name := "pulldownFilms", fn := fun _ => fun
  | [d1, d2] => { results := [.lit (.bool false)], args := [d1, d2] }
  | _ => none }
def PulldownFilmsWrongFalsely : Prop := pulldownFilmsRow.holds Try.pinned (OpenSpec.ofChange pulldownFilmsWrong)

/-- 'captionerlaw04.PulldownTiles': WHATEVER THE INPUT: true; the input reads as it did. -/
def pulldownTilesSpec : ChangeSpec := { name := "pulldownTiles", fn := fun _ => fun
  | [d1, d2] => { results := [.lit (.bool true)], args := [d1, d2] }
  | _ => none }
def pulldownTilesRow : OpenClaim := { program := "ytbdbohjpicpbcaa", sum := "010e1d8a2b2707a29d1fc312fbbd428d79c979e831e92abdfde19920dc1ddf30", func := "captioner/captionerlaw04.PulldownTiles", spec := "pulldownTiles", apart := false }
def PulldownTilesSaid : Prop := pulldownTilesRow.holds Try.pinned (OpenSpec.ofChange pulldownTilesSpec)

/-- ITS FALSE NEIGHBOUR: 'it returns false'. Refute it at one input. -/
def pulldownTilesWrong : ChangeSpec := { name := "pulldownTiles", fn := fun _ => fun
  | [d1, d2] => { results := [.lit (.bool false)], args := [d1, d2] }
  | _ => none }
def PulldownTilesWrongFalsely : Prop := pulldownTilesRow.holds Try.pinned (OpenSpec.ofChange pulldownTilesWrong)

/-- 'captionerlaw04.PulldownPhases': WHATEVER THE INPUT: true; the input reads as it did. -/
def pulldownPhasesSpec : ChangeSpec := { name := "pulldownPhases", fn := fun _ => fun
  | [d1, d2] => { results := [.lit (.bool true)], args := [d1, d2] }
  | _ => none }
def pulldownPhasesRow : OpenClaim := { program := "ytbdbohjpicpbcaa", sum := "010e1d8a2b2707a29d1fc312fbbd428d79c979e831e92abdfde19920dc1ddf30", func := "captioner/captionerlaw04.PulldownPhases", spec := "pulldownPhases", apart := false }
def PulldownPhasesSaid : Prop := pulldownPhasesRow.holds Try.pinned (OpenSpec.ofChange pulldownPhasesSpec)

/-- ITS FALSE NEIGHBOUR: 'it returns false'. Refute it at one input. -/
def pulldownPhasesWrong : ChangeSpec := { name := "pulldownPhases", fn := fun _ => fun
  | [d1, d2] => { results := [.lit (.bool false)], args := [d1, d2] }
  | _ => none }
def PulldownPhasesWrongFalsely : Prop := pulldownPhasesRow.holds Try.pinned (OpenSpec.ofChange pulldownPhasesWrong)

/-- 'captionerlaw04.PulldownFinds': WHATEVER THE INPUT: true; the input reads as it did. -/
def pulldownFindsSpec : ChangeSpec := { name := "pulldownFinds", fn := fun _ => fun
  | [d1, d2] => { results := [.lit (.bool true)], args := [d1, d2] }
  | _ => none }
def pulldownFindsRow : OpenClaim := { program := "ytbdbohjpicpbcaa", sum := "010e1d8a2b2707a29d1fc312fbbd428d79c979e831e92abdfde19920dc1ddf30", func := "captioner/captionerlaw04.PulldownFinds", spec := "pulldownFinds", apart := false }
def PulldownFindsSaid : Prop := pulldownFindsRow.holds Try.pinned (OpenSpec.ofChange pulldownFindsSpec)

/-- ITS FALSE NEIGHBOUR: 'it returns false'. Refute it at one input. -/
def pulldownFindsWrong : ChangeSpec := { name := "pulldownFinds", fn := fun _ => fun
  | [d1, d2] => { results := [.lit (.bool false)], args := [d1, d2] }
  | _ => none }
def PulldownFindsWrongFalsely : Prop := pulldownFindsRow.holds Try.pinned (OpenSpec.ofChange pulldownFindsWrong)

/-- 'captionerlaw04.PulldownVideos': WHATEVER THE INPUT: true; the input reads as it did. -/
def pulldownVideosSpec : ChangeSpec := { name := "pulldownVideos", fn := fun _ => fun
  | [d1, d2, d3] => { results := [.lit (.bool true)], args := [d1, d2, d3] }
  | _ => none }
def pulldownVideosRow : OpenClaim := { program := "ytbdbohjpicpbcaa", sum := "010e1d8a2b2707a29d1fc312fbbd428d79c979e831e92abdfde19920dc1ddf30", func := "captioner/captionerlaw04.PulldownVideos", spec := "pulldownVideos", apart := false }
def PulldownVideosSaid : Prop := pulldownVideosRow.holds Try.pinned (OpenSpec.ofChange pulldownVideosSpec)

/-- ITS FALSE NEIGHBOUR: 'it returns false'. Refute it at one input. -/
def pulldownVideosWrong : ChangeSpec := { name := "pulldownVideos", fn := fun _ => fun
  | [d1, d2, d3] => { results := [.lit (.bool false)], args := [d1, d2, d3] }
  | _ => none }
def PulldownVideosWrongFalsely : Prop := pulldownVideosRow.holds Try.pinned (OpenSpec.ofChange pulldownVideosWrong)

/- THE SECOND FORM. 'bulk': how many values and letters a reading holds, each counted each time it is reached (what is shared counts as often as it is met; a slice's spare places count too). A statement '..UptoSaid' is the law's where the arguments, and the package variables that the reading takes, are together of bulk at most 1048576: NARROWER than '..Said'. Prove '..Said' where nothing that the law and all that it calls make is longer than what came in: it says more and counts as full. Else prove '..UptoSaid'. A law counts once. -/
mutual
def uptoBulk {H : Type} : DataW H → Nat
  | .lit (.string bytes) => bytes.length + 1
  | .lit _ => 1
  | .nil => 1
  | .ptr d => uptoBulk d + 1
  | .slice elems spare => uptoBulkAll elems + uptoBulkAll spare + 1
  | .agg parts => uptoBulkAll parts + 1
  | .iface _ d => uptoBulk d + 1
  | .map entries => uptoBulkEntries entries + 1
  | .held _ => 1
def uptoBulkAll {H : Type} : List (DataW H) → Nat
  | [] => 0
  | d :: r => uptoBulk d + uptoBulkAll r
def uptoBulkEntries {H : Type} : List (Lit × DataW H) → Nat
  | [] => 0
  | x :: r => uptoBulkEntry x + uptoBulkEntries r
def uptoBulkEntry {H : Type} : Lit × DataW H → Nat
  | (.string bytes, d) => bytes.length + uptoBulk d + 1
  | (_, d) => uptoBulk d + 1
 end
def uptoSmall : (H : Type) → List (DataW H) → Bool := fun _ ds => decide (uptoBulkAll ds ≤ 1048576)
def OpenSpec.upto (s : _root_.Go.ChangeSpec) : _root_.Go.OpenSpec := { _root_.Go.OpenSpec.ofChange s with cond := some uptoSmall }

/-- 'captionerlaw04.PulldownSpans', WHERE WHAT IT READS IS OF BULK AT MOST 1048576: true; the input reads as it did. -/
def pulldownSpansUptoRow : OpenClaim := { program := "ytbdbohjpicpbcaa", sum := "010e1d8a2b2707a29d1fc312fbbd428d79c979e831e92abdfde19920dc1ddf30", func := "captioner/captionerlaw04.PulldownSpans", spec := "pulldownSpans", apart := false, narrowed := true }
def PulldownSpansUptoSaid : Prop := pulldownSpansUptoRow.holds Try.pinned (OpenSpec.upto pulldownSpansSpec)

/-- 'captionerlaw04.PulldownShows', WHERE WHAT IT READS IS OF BULK AT MOST 1048576: true; the input reads as it did. -/
def pulldownShowsUptoRow : OpenClaim := { program := "ytbdbohjpicpbcaa", sum := "010e1d8a2b2707a29d1fc312fbbd428d79c979e831e92abdfde19920dc1ddf30", func := "captioner/captionerlaw04.PulldownShows", spec := "pulldownShows", apart := false, narrowed := true }
def PulldownShowsUptoSaid : Prop := pulldownShowsUptoRow.holds Try.pinned (OpenSpec.upto pulldownShowsSpec)

/-- 'captionerlaw04.PulldownFields', WHERE WHAT IT READS IS OF BULK AT MOST 1048576: true; the input reads as it did. -/
def pulldownFieldsUptoRow : OpenClaim := { program := "ytbdbohjpicpbcaa", sum := "010e1d8a2b2707a29d1fc312fbbd428d79c979e831e92abdfde19920dc1ddf30", func := "captioner/captionerlaw04.PulldownFields", spec := "pulldownFields", apart := false, narrowed := true }
def PulldownFieldsUptoSaid : Prop := pulldownFieldsUptoRow.holds Try.pinned (OpenSpec.upto pulldownFieldsSpec)

/-- 'captionerlaw04.PulldownFilms', WHERE WHAT IT READS IS OF BULK AT MOST 1048576: true; the input reads as it did. -/
def pulldownFilmsUptoRow : OpenClaim := { program := "ytbdbohjpicpbcaa", sum := "010e1d8a2b2707a29d1fc312fbbd428d79c979e831e92abdfde19920dc1ddf30", func := "captioner/captionerlaw04.PulldownFilms", spec := "pulldownFilms", apart := false, narrowed := true }
def PulldownFilmsUptoSaid : Prop := pulldownFilmsUptoRow.holds Try.pinned (OpenSpec.upto pulldownFilmsSpec)

/-- 'captionerlaw04.PulldownTiles', WHERE WHAT IT READS IS OF BULK AT MOST 1048576: true; the input reads as it did. -/
def pulldownTilesUptoRow : OpenClaim := { program := "ytbdbohjpicpbcaa", sum := "010e1d8a2b2707a29d1fc312fbbd428d79c979e831e92abdfde19920dc1ddf30", func := "captioner/captionerlaw04.PulldownTiles", spec := "pulldownTiles", apart := false, narrowed := true }
def PulldownTilesUptoSaid : Prop := pulldownTilesUptoRow.holds Try.pinned (OpenSpec.upto pulldownTilesSpec)

/-- 'captionerlaw04.PulldownPhases', WHERE WHAT IT READS IS OF BULK AT MOST 1048576: true; the input reads as it did. -/
def pulldownPhasesUptoRow : OpenClaim := { program := "ytbdbohjpicpbcaa", sum := "010e1d8a2b2707a29d1fc312fbbd428d79c979e831e92abdfde19920dc1ddf30", func := "captioner/captionerlaw04.PulldownPhases", spec := "pulldownPhases", apart := false, narrowed := true }
def PulldownPhasesUptoSaid : Prop := pulldownPhasesUptoRow.holds Try.pinned (OpenSpec.upto pulldownPhasesSpec)

/-- 'captionerlaw04.PulldownFinds', WHERE WHAT IT READS IS OF BULK AT MOST 1048576: true; the input reads as it did. -/
def pulldownFindsUptoRow : OpenClaim := { program := "ytbdbohjpicpbcaa", sum := "010e1d8a2b2707a29d1fc312fbbd428d79c979e831e92abdfde19920dc1ddf30", func := "captioner/captionerlaw04.PulldownFinds", spec := "pulldownFinds", apart := false, narrowed := true }
def PulldownFindsUptoSaid : Prop := pulldownFindsUptoRow.holds Try.pinned (OpenSpec.upto pulldownFindsSpec)

/-- 'captionerlaw04.PulldownVideos', WHERE WHAT IT READS IS OF BULK AT MOST 1048576: true; the input reads as it did. -/
def pulldownVideosUptoRow : OpenClaim := { program := "ytbdbohjpicpbcaa", sum := "010e1d8a2b2707a29d1fc312fbbd428d79c979e831e92abdfde19920dc1ddf30", func := "captioner/captionerlaw04.PulldownVideos", spec := "pulldownVideos", apart := false, narrowed := true }
def PulldownVideosUptoSaid : Prop := pulldownVideosUptoRow.holds Try.pinned (OpenSpec.upto pulldownVideosSpec)

end Rows
end Go.Proofs.Ytbdbohjpicpbcaa
