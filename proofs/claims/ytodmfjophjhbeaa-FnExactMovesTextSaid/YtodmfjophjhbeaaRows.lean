/-
  No cell of these rows narrows 'for every input' (looked for: loops, veiled, ifaces, maps, wideKeys, modest, calm, conditions, laid).
  DERIVED. THE GIVEN ROWS OF THIS SEAT. 13 by the template 'for every input the law returns true; each argument reads behind the call as it read before'; 0 by the template 'total and deterministic' (their statements: YtodmfjophjhbeaaTotals.lean).
  GIVEN WITH THE SEED: the statements are not yours to turn. If you find one false, say at which input.
  Laid BY PROGRAM, IN A SANDBOX (cutbox-rows.mjs): the forced cells as the released guide's own fill.sh prints them over the translation 2ca01d284eb8532b… (all of the seat's roots in one cut). By AI agents, Wed Nov 11 2026. No macro, syntax, notation, axiom, sorry.
-/
import Derived.Test.YtodmfjophjhbeaaChecked
import GoSem.Claim
import GoSem.ClaimJoined
import GoSem.ClaimMapViews
import Derived.JoinedTies
import Derived.KernelRfl
namespace Go.Proofs.Ytodmfjophjhbeaa
/- THE CELL 'sum', in the pinned program and in every row, IS THE sha256 OF THE DUMP (.gsa) THAT YtodmfjophjhbeaaProg.lean LOADS. Nothing in Lean hashes anything: it is a label: what it is worth is what the hold of that sum in a sandbox is worth. -/
noncomputable def Try.pinned : Pinned := { name := "ytodmfjophjhbeaa", sum := "2ca01d284eb8532bfd6b0d6f1c857ba27f43fd80455aebd837d17137abe0bbcd", checked := Try.checked }
namespace Rows
def none {H : Type} : Left H := { results := [], args := [] }

/-- 'laws.FnExactLeastStepsTo': WHATEVER THE INPUT: true; the input reads as it did. -/
def fnExactLeastStepsToSpec : ChangeSpec := { name := "fnExactLeastStepsTo", fn := fun _ => fun
  | [d1, d2, d3] => { results := [.lit (.bool true)], args := [d1, d2, d3] }
  | _ => none }
def fnExactLeastStepsToRow : OpenClaim := { program := "ytodmfjophjhbeaa", sum := "2ca01d284eb8532bfd6b0d6f1c857ba27f43fd80455aebd837d17137abe0bbcd", func := "loop.example/g01281/laws.FnExactLeastStepsTo", spec := "fnExactLeastStepsTo", unfollowed := true, recurses := true, apart := false }
def FnExactLeastStepsToSaid : Prop := fnExactLeastStepsToRow.holds Try.pinned (OpenSpec.ofChange fnExactLeastStepsToSpec)

/-- ITS FALSE NEIGHBOUR: 'it returns false'. Refute it at one input. -/
def fnExactLeastStepsToWrong : ChangeSpec := { name := "fnExactLeastStepsTo", fn := fun _ => fun
  | [d1, d2, d3] => { results := [.lit (.bool false)], args := [d1, d2, d3] }
  | _ => none }
def FnExactLeastStepsToWrongFalsely : Prop := fnExactLeastStepsToRow.holds Try.pinned (OpenSpec.ofChange fnExactLeastStepsToWrong)

/-- 'laws.FnExactValidPuzzle': WHATEVER THE INPUT: true; the input reads as it did. -/
def fnExactValidPuzzleSpec : ChangeSpec := { name := "fnExactValidPuzzle", fn := fun _ => fun
  | [d] => { results := [.lit (.bool true)], args := [d] }
  | _ => none }
def fnExactValidPuzzleRow : OpenClaim := { program := "ytodmfjophjhbeaa", sum := "2ca01d284eb8532bfd6b0d6f1c857ba27f43fd80455aebd837d17137abe0bbcd", func := "loop.example/g01281/laws.FnExactValidPuzzle", spec := "fnExactValidPuzzle", unfollowed := true, recurses := true, apart := false }
def FnExactValidPuzzleSaid : Prop := fnExactValidPuzzleRow.holds Try.pinned (OpenSpec.ofChange fnExactValidPuzzleSpec)

/-- ITS FALSE NEIGHBOUR: 'it returns false'. Refute it at one input. -/
def fnExactValidPuzzleWrong : ChangeSpec := { name := "fnExactValidPuzzle", fn := fun _ => fun
  | [d] => { results := [.lit (.bool false)], args := [d] }
  | _ => none }
def FnExactValidPuzzleWrongFalsely : Prop := fnExactValidPuzzleRow.holds Try.pinned (OpenSpec.ofChange fnExactValidPuzzleWrong)

/-- 'laws.FnExactValidWater': WHATEVER THE INPUT: true; the input reads as it did. -/
def fnExactValidWaterSpec : ChangeSpec := { name := "fnExactValidWater", fn := fun _ => fun
  | [d1, d2] => { results := [.lit (.bool true)], args := [d1, d2] }
  | _ => none }
def fnExactValidWaterRow : OpenClaim := { program := "ytodmfjophjhbeaa", sum := "2ca01d284eb8532bfd6b0d6f1c857ba27f43fd80455aebd837d17137abe0bbcd", func := "loop.example/g01281/laws.FnExactValidWater", spec := "fnExactValidWater", unfollowed := true, recurses := true, apart := false }
def FnExactValidWaterSaid : Prop := fnExactValidWaterRow.holds Try.pinned (OpenSpec.ofChange fnExactValidWaterSpec)

/-- ITS FALSE NEIGHBOUR: 'it returns false'. Refute it at one input. -/
def fnExactValidWaterWrong : ChangeSpec := { name := "fnExactValidWater", fn := fun _ => fun
  | [d1, d2] => { results := [.lit (.bool false)], args := [d1, d2] }
  | _ => none }
def FnExactValidWaterWrongFalsely : Prop := fnExactValidWaterRow.holds Try.pinned (OpenSpec.ofChange fnExactValidWaterWrong)

/-- 'laws.FnExactStatesOf': WHATEVER THE INPUT: true; the input reads as it did. -/
def fnExactStatesOfSpec : ChangeSpec := { name := "fnExactStatesOf", fn := fun _ => fun
  | [d] => { results := [.lit (.bool true)], args := [d] }
  | _ => none }
def fnExactStatesOfRow : OpenClaim := { program := "ytodmfjophjhbeaa", sum := "2ca01d284eb8532bfd6b0d6f1c857ba27f43fd80455aebd837d17137abe0bbcd", func := "loop.example/g01281/laws.FnExactStatesOf", spec := "fnExactStatesOf", unfollowed := true, recurses := true, apart := false }
def FnExactStatesOfSaid : Prop := fnExactStatesOfRow.holds Try.pinned (OpenSpec.ofChange fnExactStatesOfSpec)

/-- ITS FALSE NEIGHBOUR: 'it returns false'. Refute it at one input. -/
def fnExactStatesOfWrong : ChangeSpec := { name := "fnExactStatesOf", fn := fun _ => fun
  | [d] => { results := [.lit (.bool false)], args := [d] }
  | _ => none }
def FnExactStatesOfWrongFalsely : Prop := fnExactStatesOfRow.holds Try.pinned (OpenSpec.ofChange fnExactStatesOfWrong)

/-- 'laws.FnExactStepOfJugs': WHATEVER THE INPUT: true; the input reads as it did. -/
def fnExactStepOfJugsSpec : ChangeSpec := { name := "fnExactStepOfJugs", fn := fun _ => fun
  | [d] => { results := [.lit (.bool true)], args := [d] }
  | _ => none }
def fnExactStepOfJugsRow : OpenClaim := { program := "ytodmfjophjhbeaa", sum := "2ca01d284eb8532bfd6b0d6f1c857ba27f43fd80455aebd837d17137abe0bbcd", func := "loop.example/g01281/laws.FnExactStepOfJugs", spec := "fnExactStepOfJugs", unfollowed := true, recurses := true, apart := false }
def FnExactStepOfJugsSaid : Prop := fnExactStepOfJugsRow.holds Try.pinned (OpenSpec.ofChange fnExactStepOfJugsSpec)

/-- ITS FALSE NEIGHBOUR: 'it returns false'. Refute it at one input. -/
def fnExactStepOfJugsWrong : ChangeSpec := { name := "fnExactStepOfJugs", fn := fun _ => fun
  | [d] => { results := [.lit (.bool false)], args := [d] }
  | _ => none }
def FnExactStepOfJugsWrongFalsely : Prop := fnExactStepOfJugsRow.holds Try.pinned (OpenSpec.ofChange fnExactStepOfJugsWrong)

/-- 'laws.FnExactWaterAt': WHATEVER THE INPUT: true; the input reads as it did. -/
def fnExactWaterAtSpec : ChangeSpec := { name := "fnExactWaterAt", fn := fun _ => fun
  | [d1, d2] => { results := [.lit (.bool true)], args := [d1, d2] }
  | _ => none }
def fnExactWaterAtRow : OpenClaim := { program := "ytodmfjophjhbeaa", sum := "2ca01d284eb8532bfd6b0d6f1c857ba27f43fd80455aebd837d17137abe0bbcd", func := "loop.example/g01281/laws.FnExactWaterAt", spec := "fnExactWaterAt", unfollowed := true, recurses := true, apart := false }
def FnExactWaterAtSaid : Prop := fnExactWaterAtRow.holds Try.pinned (OpenSpec.ofChange fnExactWaterAtSpec)

/-- ITS FALSE NEIGHBOUR: 'it returns false'. Refute it at one input. -/
def fnExactWaterAtWrong : ChangeSpec := { name := "fnExactWaterAt", fn := fun _ => fun
  | [d1, d2] => { results := [.lit (.bool false)], args := [d1, d2] }
  | _ => none }
def FnExactWaterAtWrongFalsely : Prop := fnExactWaterAtRow.holds Try.pinned (OpenSpec.ofChange fnExactWaterAtWrong)

/-- 'laws.FnExactStateIndex': WHATEVER THE INPUT: true; the input reads as it did. -/
def fnExactStateIndexSpec : ChangeSpec := { name := "fnExactStateIndex", fn := fun _ => fun
  | [d1, d2] => { results := [.lit (.bool true)], args := [d1, d2] }
  | _ => none }
def fnExactStateIndexRow : OpenClaim := { program := "ytodmfjophjhbeaa", sum := "2ca01d284eb8532bfd6b0d6f1c857ba27f43fd80455aebd837d17137abe0bbcd", func := "loop.example/g01281/laws.FnExactStateIndex", spec := "fnExactStateIndex", unfollowed := true, recurses := true, apart := false }
def FnExactStateIndexSaid : Prop := fnExactStateIndexRow.holds Try.pinned (OpenSpec.ofChange fnExactStateIndexSpec)

/-- ITS FALSE NEIGHBOUR: 'it returns false'. Refute it at one input. -/
def fnExactStateIndexWrong : ChangeSpec := { name := "fnExactStateIndex", fn := fun _ => fun
  | [d1, d2] => { results := [.lit (.bool false)], args := [d1, d2] }
  | _ => none }
def FnExactStateIndexWrongFalsely : Prop := fnExactStateIndexRow.holds Try.pinned (OpenSpec.ofChange fnExactStateIndexWrong)

/-- 'laws.FnExactMovesText': WHATEVER THE INPUT: true; the input reads as it did. -/
def fnExactMovesTextSpec : ChangeSpec := { name := "fnExactMovesText", fn := fun _ => fun
  | [d] => { results := [.lit (.bool true)], args := [d] }
  | _ => none }
def fnExactMovesTextRow : OpenClaim := { program := "ytodmfjophjhbeaa", sum := "2ca01d284eb8532bfd6b0d6f1c857ba27f43fd80455aebd837d17137abe0bbcd", func := "loop.example/g01281/laws.FnExactMovesText", spec := "fnExactMovesText", inPlace := ["internal/abi.NoEscape", "internal/bytealg.MakeNoZero"], unfollowed := true, recurses := true, apart := false }
def FnExactMovesTextSaid : Prop := fnExactMovesTextRow.holds Try.pinned (OpenSpec.ofChange fnExactMovesTextSpec)

/-- ITS FALSE NEIGHBOUR: 'it returns false'. Refute it at one input. -/
def fnExactMovesTextWrong : ChangeSpec := { name := "fnExactMovesText", fn := fun _ => fun
  | [d] => { results := [.lit (.bool false)], args := [d] }
  | _ => none }
def FnExactMovesTextWrongFalsely : Prop := fnExactMovesTextRow.holds Try.pinned (OpenSpec.ofChange fnExactMovesTextWrong)

/-- 'laws.FnExactDoMove': WHATEVER THE INPUT: true; the input reads as it did. -/
def fnExactDoMoveSpec : ChangeSpec := { name := "fnExactDoMove", fn := fun _ => fun
  | [d1, d2, d3] => { results := [.lit (.bool true)], args := [d1, d2, d3] }
  | _ => none }
def fnExactDoMoveRow : OpenClaim := { program := "ytodmfjophjhbeaa", sum := "2ca01d284eb8532bfd6b0d6f1c857ba27f43fd80455aebd837d17137abe0bbcd", func := "loop.example/g01281/laws.FnExactDoMove", spec := "fnExactDoMove", unfollowed := true, recurses := true, apart := false }
def FnExactDoMoveSaid : Prop := fnExactDoMoveRow.holds Try.pinned (OpenSpec.ofChange fnExactDoMoveSpec)

/-- ITS FALSE NEIGHBOUR: 'it returns false'. Refute it at one input. -/
def fnExactDoMoveWrong : ChangeSpec := { name := "fnExactDoMove", fn := fun _ => fun
  | [d1, d2, d3] => { results := [.lit (.bool false)], args := [d1, d2, d3] }
  | _ => none }
def FnExactDoMoveWrongFalsely : Prop := fnExactDoMoveRow.holds Try.pinned (OpenSpec.ofChange fnExactDoMoveWrong)

/-- 'laws.FnExactDoMoves': WHATEVER THE INPUT: true; the input reads as it did. -/
def fnExactDoMovesSpec : ChangeSpec := { name := "fnExactDoMoves", fn := fun _ => fun
  | [d1, d2, d3] => { results := [.lit (.bool true)], args := [d1, d2, d3] }
  | _ => none }
def fnExactDoMovesRow : OpenClaim := { program := "ytodmfjophjhbeaa", sum := "2ca01d284eb8532bfd6b0d6f1c857ba27f43fd80455aebd837d17137abe0bbcd", func := "loop.example/g01281/laws.FnExactDoMoves", spec := "fnExactDoMoves", unfollowed := true, recurses := true, apart := false }
def FnExactDoMovesSaid : Prop := fnExactDoMovesRow.holds Try.pinned (OpenSpec.ofChange fnExactDoMovesSpec)

/-- ITS FALSE NEIGHBOUR: 'it returns false'. Refute it at one input. -/
def fnExactDoMovesWrong : ChangeSpec := { name := "fnExactDoMoves", fn := fun _ => fun
  | [d1, d2, d3] => { results := [.lit (.bool false)], args := [d1, d2, d3] }
  | _ => none }
def FnExactDoMovesWrongFalsely : Prop := fnExactDoMovesRow.holds Try.pinned (OpenSpec.ofChange fnExactDoMovesWrong)

/-- 'laws.FnExactMovesFrom': WHATEVER THE INPUT: true; the input reads as it did. -/
def fnExactMovesFromSpec : ChangeSpec := { name := "fnExactMovesFrom", fn := fun _ => fun
  | [d1, d2] => { results := [.lit (.bool true)], args := [d1, d2] }
  | _ => none }
def fnExactMovesFromRow : OpenClaim := { program := "ytodmfjophjhbeaa", sum := "2ca01d284eb8532bfd6b0d6f1c857ba27f43fd80455aebd837d17137abe0bbcd", func := "loop.example/g01281/laws.FnExactMovesFrom", spec := "fnExactMovesFrom", unfollowed := true, recurses := true, apart := false }
def FnExactMovesFromSaid : Prop := fnExactMovesFromRow.holds Try.pinned (OpenSpec.ofChange fnExactMovesFromSpec)

/-- ITS FALSE NEIGHBOUR: 'it returns false'. Refute it at one input. -/
def fnExactMovesFromWrong : ChangeSpec := { name := "fnExactMovesFrom", fn := fun _ => fun
  | [d1, d2] => { results := [.lit (.bool false)], args := [d1, d2] }
  | _ => none }
def FnExactMovesFromWrongFalsely : Prop := fnExactMovesFromRow.holds Try.pinned (OpenSpec.ofChange fnExactMovesFromWrong)

/-- 'laws.FnExactCheckTable': WHATEVER THE INPUT: true; the input reads as it did. -/
def fnExactCheckTableSpec : ChangeSpec := { name := "fnExactCheckTable", fn := fun _ => fun
  | [d1, d2] => { results := [.lit (.bool true)], args := [d1, d2] }
  | _ => none }
def fnExactCheckTableRow : OpenClaim := { program := "ytodmfjophjhbeaa", sum := "2ca01d284eb8532bfd6b0d6f1c857ba27f43fd80455aebd837d17137abe0bbcd", func := "loop.example/g01281/laws.FnExactCheckTable", spec := "fnExactCheckTable", unfollowed := true, recurses := true, apart := false }
def FnExactCheckTableSaid : Prop := fnExactCheckTableRow.holds Try.pinned (OpenSpec.ofChange fnExactCheckTableSpec)

/-- ITS FALSE NEIGHBOUR: 'it returns false'. Refute it at one input. -/
def fnExactCheckTableWrong : ChangeSpec := { name := "fnExactCheckTable", fn := fun _ => fun
  | [d1, d2] => { results := [.lit (.bool false)], args := [d1, d2] }
  | _ => none }
def FnExactCheckTableWrongFalsely : Prop := fnExactCheckTableRow.holds Try.pinned (OpenSpec.ofChange fnExactCheckTableWrong)

/-- 'laws.FnExactFirstBroken': WHATEVER THE INPUT: true; the input reads as it did. -/
def fnExactFirstBrokenSpec : ChangeSpec := { name := "fnExactFirstBroken", fn := fun _ => fun
  | [d1, d2] => { results := [.lit (.bool true)], args := [d1, d2] }
  | _ => none }
def fnExactFirstBrokenRow : OpenClaim := { program := "ytodmfjophjhbeaa", sum := "2ca01d284eb8532bfd6b0d6f1c857ba27f43fd80455aebd837d17137abe0bbcd", func := "loop.example/g01281/laws.FnExactFirstBroken", spec := "fnExactFirstBroken", unfollowed := true, recurses := true, apart := false }
def FnExactFirstBrokenSaid : Prop := fnExactFirstBrokenRow.holds Try.pinned (OpenSpec.ofChange fnExactFirstBrokenSpec)

/-- ITS FALSE NEIGHBOUR: 'it returns false'. Refute it at one input. -/
def fnExactFirstBrokenWrong : ChangeSpec := { name := "fnExactFirstBroken", fn := fun _ => fun
  | [d1, d2] => { results := [.lit (.bool false)], args := [d1, d2] }
  | _ => none }
def FnExactFirstBrokenWrongFalsely : Prop := fnExactFirstBrokenRow.holds Try.pinned (OpenSpec.ofChange fnExactFirstBrokenWrong)

/- THE SECOND FORM. 'bulk': how many values and letters a reading holds, each counted each time it is reached (what is shared counts as often as it is met; a slice's spare places count too). A statement '..UptoSaid' is the law's where the arguments, and the package variables that the reading takes, are together of bulk at most 1048576: NARROWER than '..Said'. Prove '..Said' where nothing that the law and all that it calls make is longer than what came in: it says more and counts as full. Else prove '..UptoSaid'. A law counts once. -/
mutual
def uptoBulk {H : Type} : DataW H → Nat
  | .lit (.string bytes) => bytes.length + 1
  | .lit _ => 1
  | .nil => 1
  | .ptr d => uptoBulk d + 1
  | .slice elems spare => uptoBulkAll elems + uptoBulkAll spare + 1
  | .agg parts => uptoBulkAll parts + 1
  | .iface _ d => uptoBulk d + 1
  | .map entries => uptoBulkEntries entries + 1
  | .held _ => 1
def uptoBulkAll {H : Type} : List (DataW H) → Nat
  | [] => 0
  | d :: r => uptoBulk d + uptoBulkAll r
def uptoBulkEntries {H : Type} : List (Lit × DataW H) → Nat
  | [] => 0
  | x :: r => uptoBulkEntry x + uptoBulkEntries r
def uptoBulkEntry {H : Type} : Lit × DataW H → Nat
  | (.string bytes, d) => bytes.length + uptoBulk d + 1
  | (_, d) => uptoBulk d + 1
 end
def uptoSmall : (H : Type) → List (DataW H) → Bool := fun _ ds => decide (uptoBulkAll ds ≤ 1048576)
def OpenSpec.upto (s : _root_.Go.ChangeSpec) : _root_.Go.OpenSpec := { _root_.Go.OpenSpec.ofChange s with cond := some uptoSmall }

/-- 'laws.FnExactLeastStepsTo', WHERE WHAT IT READS IS OF BULK AT MOST 1048576: true; the input reads as it did. -/
def fnExactLeastStepsToUptoRow : OpenClaim := { program := "ytodmfjophjhbeaa", sum := "2ca01d284eb8532bfd6b0d6f1c857ba27f43fd80455aebd837d17137abe0bbcd", func := "loop.example/g01281/laws.FnExactLeastStepsTo", spec := "fnExactLeastStepsTo", unfollowed := true, recurses := true, apart := false, narrowed := true }
def FnExactLeastStepsToUptoSaid : Prop := fnExactLeastStepsToUptoRow.holds Try.pinned (OpenSpec.upto fnExactLeastStepsToSpec)

/-- 'laws.FnExactValidPuzzle', WHERE WHAT IT READS IS OF BULK AT MOST 1048576: true; the input reads as it did. -/
def fnExactValidPuzzleUptoRow : OpenClaim := { program := "ytodmfjophjhbeaa", sum := "2ca01d284eb8532bfd6b0d6f1c857ba27f43fd80455aebd837d17137abe0bbcd", func := "loop.example/g01281/laws.FnExactValidPuzzle", spec := "fnExactValidPuzzle", unfollowed := true, recurses := true, apart := false, narrowed := true }
def FnExactValidPuzzleUptoSaid : Prop := fnExactValidPuzzleUptoRow.holds Try.pinned (OpenSpec.upto fnExactValidPuzzleSpec)

/-- 'laws.FnExactValidWater', WHERE WHAT IT READS IS OF BULK AT MOST 1048576: true; the input reads as it did. -/
def fnExactValidWaterUptoRow : OpenClaim := { program := "ytodmfjophjhbeaa", sum := "2ca01d284eb8532bfd6b0d6f1c857ba27f43fd80455aebd837d17137abe0bbcd", func := "loop.example/g01281/laws.FnExactValidWater", spec := "fnExactValidWater", unfollowed := true, recurses := true, apart := false, narrowed := true }
def FnExactValidWaterUptoSaid : Prop := fnExactValidWaterUptoRow.holds Try.pinned (OpenSpec.upto fnExactValidWaterSpec)

/-- 'laws.FnExactStatesOf', WHERE WHAT IT READS IS OF BULK AT MOST 1048576: true; the input reads as it did. -/
def fnExactStatesOfUptoRow : OpenClaim := { program := "ytodmfjophjhbeaa", sum := "2ca01d284eb8532bfd6b0d6f1c857ba27f43fd80455aebd837d17137abe0bbcd", func := "loop.example/g01281/laws.FnExactStatesOf", spec := "fnExactStatesOf", unfollowed := true, recurses := true, apart := false, narrowed := true }
def FnExactStatesOfUptoSaid : Prop := fnExactStatesOfUptoRow.holds Try.pinned (OpenSpec.upto fnExactStatesOfSpec)

/-- 'laws.FnExactStepOfJugs', WHERE WHAT IT READS IS OF BULK AT MOST 1048576: true; the input reads as it did. -/
def fnExactStepOfJugsUptoRow : OpenClaim := { program := "ytodmfjophjhbeaa", sum := "2ca01d284eb8532bfd6b0d6f1c857ba27f43fd80455aebd837d17137abe0bbcd", func := "loop.example/g01281/laws.FnExactStepOfJugs", spec := "fnExactStepOfJugs", unfollowed := true, recurses := true, apart := false, narrowed := true }
def FnExactStepOfJugsUptoSaid : Prop := fnExactStepOfJugsUptoRow.holds Try.pinned (OpenSpec.upto fnExactStepOfJugsSpec)

/-- 'laws.FnExactWaterAt', WHERE WHAT IT READS IS OF BULK AT MOST 1048576: true; the input reads as it did. -/
def fnExactWaterAtUptoRow : OpenClaim := { program := "ytodmfjophjhbeaa", sum := "2ca01d284eb8532bfd6b0d6f1c857ba27f43fd80455aebd837d17137abe0bbcd", func := "loop.example/g01281/laws.FnExactWaterAt", spec := "fnExactWaterAt", unfollowed := true, recurses := true, apart := false, narrowed := true }
def FnExactWaterAtUptoSaid : Prop := fnExactWaterAtUptoRow.holds Try.pinned (OpenSpec.upto fnExactWaterAtSpec)

/-- 'laws.FnExactStateIndex', WHERE WHAT IT READS IS OF BULK AT MOST 1048576: true; the input reads as it did. -/
def fnExactStateIndexUptoRow : OpenClaim := { program := "ytodmfjophjhbeaa", sum := "2ca01d284eb8532bfd6b0d6f1c857ba27f43fd80455aebd837d17137abe0bbcd", func := "loop.example/g01281/laws.FnExactStateIndex", spec := "fnExactStateIndex", unfollowed := true, recurses := true, apart := false, narrowed := true }
def FnExactStateIndexUptoSaid : Prop := fnExactStateIndexUptoRow.holds Try.pinned (OpenSpec.upto fnExactStateIndexSpec)

/-- 'laws.FnExactMovesText', WHERE WHAT IT READS IS OF BULK AT MOST 1048576: true; the input reads as it did. -/
def fnExactMovesTextUptoRow : OpenClaim := { program := "ytodmfjophjhbeaa", sum := "2ca01d284eb8532bfd6b0d6f1c857ba27f43fd80455aebd837d17137abe0bbcd", func := "loop.example/g01281/laws.FnExactMovesText", spec := "fnExactMovesText", inPlace := ["internal/abi.NoEscape", "internal/bytealg.MakeNoZero"], unfollowed := true, recurses := true, apart := false, narrowed := true }
def FnExactMovesTextUptoSaid : Prop := fnExactMovesTextUptoRow.holds Try.pinned (OpenSpec.upto fnExactMovesTextSpec)

/-- 'laws.FnExactDoMove', WHERE WHAT IT READS IS OF BULK AT MOST 1048576: true; the input reads as it did. -/
def fnExactDoMoveUptoRow : OpenClaim := { program := "ytodmfjophjhbeaa", sum := "2ca01d284eb8532bfd6b0d6f1c857ba27f43fd80455aebd837d17137abe0bbcd", func := "loop.example/g01281/laws.FnExactDoMove", spec := "fnExactDoMove", unfollowed := true, recurses := true, apart := false, narrowed := true }
def FnExactDoMoveUptoSaid : Prop := fnExactDoMoveUptoRow.holds Try.pinned (OpenSpec.upto fnExactDoMoveSpec)

/-- 'laws.FnExactDoMoves', WHERE WHAT IT READS IS OF BULK AT MOST 1048576: true; the input reads as it did. -/
def fnExactDoMovesUptoRow : OpenClaim := { program := "ytodmfjophjhbeaa", sum := "2ca01d284eb8532bfd6b0d6f1c857ba27f43fd80455aebd837d17137abe0bbcd", func := "loop.example/g01281/laws.FnExactDoMoves", spec := "fnExactDoMoves", unfollowed := true, recurses := true, apart := false, narrowed := true }
def FnExactDoMovesUptoSaid : Prop := fnExactDoMovesUptoRow.holds Try.pinned (OpenSpec.upto fnExactDoMovesSpec)

/-- 'laws.FnExactMovesFrom', WHERE WHAT IT READS IS OF BULK AT MOST 1048576: true; the input reads as it did. -/
def fnExactMovesFromUptoRow : OpenClaim := { program := "ytodmfjophjhbeaa", sum := "2ca01d284eb8532bfd6b0d6f1c857ba27f43fd80455aebd837d17137abe0bbcd", func := "loop.example/g01281/laws.FnExactMovesFrom", spec := "fnExactMovesFrom", unfollowed := true, recurses := true, apart := false, narrowed := true }
def FnExactMovesFromUptoSaid : Prop := fnExactMovesFromUptoRow.holds Try.pinned (OpenSpec.upto fnExactMovesFromSpec)

/-- 'laws.FnExactCheckTable', WHERE WHAT IT READS IS OF BULK AT MOST 1048576: true; the input reads as it did. -/
def fnExactCheckTableUptoRow : OpenClaim := { program := "ytodmfjophjhbeaa", sum := "2ca01d284eb8532bfd6b0d6f1c857ba27f43fd80455aebd837d17137abe0bbcd", func := "loop.example/g01281/laws.FnExactCheckTable", spec := "fnExactCheckTable", unfollowed := true, recurses := true, apart := false, narrowed := true }
def FnExactCheckTableUptoSaid : Prop := fnExactCheckTableUptoRow.holds Try.pinned (OpenSpec.upto fnExactCheckTableSpec)

/-- 'laws.FnExactFirstBroken', WHERE WHAT IT READS IS OF BULK AT MOST 1048576: true; the input reads as it did. -/
def fnExactFirstBrokenUptoRow : OpenClaim := { program := "ytodmfjophjhbeaa", sum := "2ca01d284eb8532bfd6b0d6f1c857ba27f43fd80455aebd837d17137abe0bbcd", func := "loop.example/g01281/laws.FnExactFirstBroken", spec := "fnExactFirstBroken", unfollowed := true, recurses := true, apart := false, narrowed := true }
def FnExactFirstBrokenUptoSaid : Prop := fnExactFirstBrokenUptoRow.holds Try.pinned (OpenSpec.upto fnExactFirstBrokenSpec)

end Rows
end Go.Proofs.Ytodmfjophjhbeaa
