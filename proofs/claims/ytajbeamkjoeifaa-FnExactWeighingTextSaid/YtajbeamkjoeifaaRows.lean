/-
  No cell of these rows narrows 'for every input' (looked for: loops, veiled, ifaces, maps, wideKeys, modest, calm, conditions, laid).
  DERIVED. THE GIVEN ROWS OF THIS SEAT. 11 by the template 'for every input the law returns true; each argument reads behind the call as it read before'; 0 by the template 'total and deterministic' (their statements: YtajbeamkjoeifaaTotals.lean).
  GIVEN WITH THE SEED: the statements are not yours to turn. If you find one false, say at which input.
  Laid BY PROGRAM, IN A SANDBOX (cutbox-rows.mjs): the forced cells as the released guide's own fill.sh prints them over the translation 4266855cd6ae1831… (all of the seat's roots in one cut). By AI agents, Wed Nov 11 2026. No macro, syntax, notation, axiom, sorry.
-/
import Derived.Test.YtajbeamkjoeifaaChecked
import GoSem.Claim
import GoSem.ClaimJoined
import GoSem.ClaimMapViews
import Derived.JoinedTies
import Derived.KernelRfl
namespace Go.Proofs.Ytajbeamkjoeifaa
/- THE CELL 'sum', in the pinned program and in every row, IS THE sha256 OF THE DUMP (.gsa) THAT YtajbeamkjoeifaaProg.lean LOADS. Nothing in Lean hashes anything: it is a label: what it is worth is what the hold of that sum in a sandbox is worth. -/
noncomputable def Try.pinned : Pinned := { name := "ytajbeamkjoeifaa", sum := "4266855cd6ae1831594ba2303d06deb9dabb1f551a50a6b5cf8d78f73d3caf9c", checked := Try.checked }
namespace Rows
def none {H : Type} : Left H := { results := [], args := [] }

/-- 'laws.FnExactValidTask': WHATEVER THE INPUT: true; the input reads as it did. -/
def fnExactValidTaskSpec : ChangeSpec := { name := "fnExactValidTask", fn := fun _ => fun
  | [d] => { results := [.lit (.bool true)], args := [d] }
  | _ => none }
def fnExactValidTaskRow : OpenClaim := { program := "ytajbeamkjoeifaa", sum := "4266855cd6ae1831594ba2303d06deb9dabb1f551a50a6b5cf8d78f73d3caf9c", func := "loop.example/g01281/laws.FnExactValidTask", spec := "fnExactValidTask", apart := false }
def FnExactValidTaskSaid : Prop := fnExactValidTaskRow.holds Try.pinned (OpenSpec.ofChange fnExactValidTaskSpec)

/-- ITS FALSE NEIGHBOUR: 'it returns false'. Refute it at one input. -/
def fnExactValidTaskWrong : ChangeSpec := { name := "fnExactValidTask", fn := fun _ => fun
  | [d] => { results := [.lit (.bool false)], args := [d] }
  | _ => none }
def FnExactValidTaskWrongFalsely : Prop := fnExactValidTaskRow.holds Try.pinned (OpenSpec.ofChange fnExactValidTaskWrong)

/-- 'laws.FnExactValidWeighing': WHATEVER THE INPUT: true; the input reads as it did. -/
def fnExactValidWeighingSpec : ChangeSpec := { name := "fnExactValidWeighing", fn := fun _ => fun
  | [d1, d2] => { results := [.lit (.bool true)], args := [d1, d2] }
  | _ => none }
def fnExactValidWeighingRow : OpenClaim := { program := "ytajbeamkjoeifaa", sum := "4266855cd6ae1831594ba2303d06deb9dabb1f551a50a6b5cf8d78f73d3caf9c", func := "loop.example/g01281/laws.FnExactValidWeighing", spec := "fnExactValidWeighing", apart := false }
def FnExactValidWeighingSaid : Prop := fnExactValidWeighingRow.holds Try.pinned (OpenSpec.ofChange fnExactValidWeighingSpec)

/-- ITS FALSE NEIGHBOUR: 'it returns false'. Refute it at one input. -/
def fnExactValidWeighingWrong : ChangeSpec := { name := "fnExactValidWeighing", fn := fun _ => fun
  | [d1, d2] => { results := [.lit (.bool false)], args := [d1, d2] }
  | _ => none }
def FnExactValidWeighingWrongFalsely : Prop := fnExactValidWeighingRow.holds Try.pinned (OpenSpec.ofChange fnExactValidWeighingWrong)

/-- 'laws.FnExactBoundOf': WHATEVER THE INPUT: true; the input reads as it did. -/
def fnExactBoundOfSpec : ChangeSpec := { name := "fnExactBoundOf", fn := fun _ => fun
  | [d] => { results := [.lit (.bool true)], args := [d] }
  | _ => none }
def fnExactBoundOfRow : OpenClaim := { program := "ytajbeamkjoeifaa", sum := "4266855cd6ae1831594ba2303d06deb9dabb1f551a50a6b5cf8d78f73d3caf9c", func := "loop.example/g01281/laws.FnExactBoundOf", spec := "fnExactBoundOf", apart := false }
def FnExactBoundOfSaid : Prop := fnExactBoundOfRow.holds Try.pinned (OpenSpec.ofChange fnExactBoundOfSpec)

/-- ITS FALSE NEIGHBOUR: 'it returns false'. Refute it at one input. -/
def fnExactBoundOfWrong : ChangeSpec := { name := "fnExactBoundOf", fn := fun _ => fun
  | [d] => { results := [.lit (.bool false)], args := [d] }
  | _ => none }
def FnExactBoundOfWrongFalsely : Prop := fnExactBoundOfRow.holds Try.pinned (OpenSpec.ofChange fnExactBoundOfWrong)

/-- 'laws.FnExactWeighingText': WHATEVER THE INPUT: true; the input reads as it did. -/
def fnExactWeighingTextSpec : ChangeSpec := { name := "fnExactWeighingText", fn := fun _ => fun
  | [d1, d2] => { results := [.lit (.bool true)], args := [d1, d2] }
  | _ => none }
def fnExactWeighingTextRow : OpenClaim := { program := "ytajbeamkjoeifaa", sum := "4266855cd6ae1831594ba2303d06deb9dabb1f551a50a6b5cf8d78f73d3caf9c", func := "loop.example/g01281/laws.FnExactWeighingText", spec := "fnExactWeighingText", apart := false }
def FnExactWeighingTextSaid : Prop := fnExactWeighingTextRow.holds Try.pinned (OpenSpec.ofChange fnExactWeighingTextSpec)

/-- ITS FALSE NEIGHBOUR: 'it returns false'. Refute it at one input. -/
def fnExactWeighingTextWrong : ChangeSpec := { name := "fnExactWeighingText", fn := fun _ => fun
  | [d1, d2] => { results := [.lit (.bool false)], args := [d1, d2] }
  | _ => none }
def FnExactWeighingTextWrongFalsely : Prop := fnExactWeighingTextRow.holds Try.pinned (OpenSpec.ofChange fnExactWeighingTextWrong)

/-- 'laws.FnExactFindCase': WHATEVER THE INPUT: true; the input reads as it did. -/
def fnExactFindCaseSpec : ChangeSpec := { name := "fnExactFindCase", fn := fun _ => fun
  | [d1, d2] => { results := [.lit (.bool true)], args := [d1, d2] }
  | _ => none }
def fnExactFindCaseRow : OpenClaim := { program := "ytajbeamkjoeifaa", sum := "4266855cd6ae1831594ba2303d06deb9dabb1f551a50a6b5cf8d78f73d3caf9c", func := "loop.example/g01281/laws.FnExactFindCase", spec := "fnExactFindCase", apart := false }
def FnExactFindCaseSaid : Prop := fnExactFindCaseRow.holds Try.pinned (OpenSpec.ofChange fnExactFindCaseSpec)

/-- ITS FALSE NEIGHBOUR: 'it returns false'. Refute it at one input. -/
def fnExactFindCaseWrong : ChangeSpec := { name := "fnExactFindCase", fn := fun _ => fun
  | [d1, d2] => { results := [.lit (.bool false)], args := [d1, d2] }
  | _ => none }
def FnExactFindCaseWrongFalsely : Prop := fnExactFindCaseRow.holds Try.pinned (OpenSpec.ofChange fnExactFindCaseWrong)

/-- 'laws.FnExactCasesOf': WHATEVER THE INPUT: true; the input reads as it did. -/
def fnExactCasesOfSpec : ChangeSpec := { name := "fnExactCasesOf", fn := fun _ => fun
  | [d] => { results := [.lit (.bool true)], args := [d] }
  | _ => none }
def fnExactCasesOfRow : OpenClaim := { program := "ytajbeamkjoeifaa", sum := "4266855cd6ae1831594ba2303d06deb9dabb1f551a50a6b5cf8d78f73d3caf9c", func := "loop.example/g01281/laws.FnExactCasesOf", spec := "fnExactCasesOf", apart := false }
def FnExactCasesOfSaid : Prop := fnExactCasesOfRow.holds Try.pinned (OpenSpec.ofChange fnExactCasesOfSpec)

/-- ITS FALSE NEIGHBOUR: 'it returns false'. Refute it at one input. -/
def fnExactCasesOfWrong : ChangeSpec := { name := "fnExactCasesOf", fn := fun _ => fun
  | [d] => { results := [.lit (.bool false)], args := [d] }
  | _ => none }
def FnExactCasesOfWrongFalsely : Prop := fnExactCasesOfRow.holds Try.pinned (OpenSpec.ofChange fnExactCasesOfWrong)

/-- 'laws.FnExactReadWeighing': WHATEVER THE INPUT: true; the input reads as it did. -/
def fnExactReadWeighingSpec : ChangeSpec := { name := "fnExactReadWeighing", fn := fun _ => fun
  | [d1, d2] => { results := [.lit (.bool true)], args := [d1, d2] }
  | _ => none }
def fnExactReadWeighingRow : OpenClaim := { program := "ytajbeamkjoeifaa", sum := "4266855cd6ae1831594ba2303d06deb9dabb1f551a50a6b5cf8d78f73d3caf9c", func := "loop.example/g01281/laws.FnExactReadWeighing", spec := "fnExactReadWeighing", inPlace := ["internal/bytealg.IndexByteString"], apart := false }
def FnExactReadWeighingSaid : Prop := fnExactReadWeighingRow.holds Try.pinned (OpenSpec.ofChange fnExactReadWeighingSpec)

/-- ITS FALSE NEIGHBOUR: 'it returns false'. Refute it at one input. -/
def fnExactReadWeighingWrong : ChangeSpec := { name := "fnExactReadWeighing", fn := fun _ => fun
  | [d1, d2] => { results := [.lit (.bool false)], args := [d1, d2] }
  | _ => none }
def FnExactReadWeighingWrongFalsely : Prop := fnExactReadWeighingRow.holds Try.pinned (OpenSpec.ofChange fnExactReadWeighingWrong)

/-- 'laws.FnExactSamePlan': WHATEVER THE INPUT: true; the input reads as it did. -/
def fnExactSamePlanSpec : ChangeSpec := { name := "fnExactSamePlan", fn := fun _ => fun
  | [d1, d2] => { results := [.lit (.bool true)], args := [d1, d2] }
  | _ => none }
def fnExactSamePlanRow : OpenClaim := { program := "ytajbeamkjoeifaa", sum := "4266855cd6ae1831594ba2303d06deb9dabb1f551a50a6b5cf8d78f73d3caf9c", func := "loop.example/g01281/laws.FnExactSamePlan", spec := "fnExactSamePlan", apart := false }
def FnExactSamePlanSaid : Prop := fnExactSamePlanRow.holds Try.pinned (OpenSpec.ofChange fnExactSamePlanSpec)

/-- ITS FALSE NEIGHBOUR: 'it returns false'. Refute it at one input. -/
def fnExactSamePlanWrong : ChangeSpec := { name := "fnExactSamePlan", fn := fun _ => fun
  | [d1, d2] => { results := [.lit (.bool false)], args := [d1, d2] }
  | _ => none }
def FnExactSamePlanWrongFalsely : Prop := fnExactSamePlanRow.holds Try.pinned (OpenSpec.ofChange fnExactSamePlanWrong)

/-- 'laws.FnExactResultOf': WHATEVER THE INPUT: true; the input reads as it did. -/
def fnExactResultOfSpec : ChangeSpec := { name := "fnExactResultOf", fn := fun _ => fun
  | [d1, d2, d3] => { results := [.lit (.bool true)], args := [d1, d2, d3] }
  | _ => none }
def fnExactResultOfRow : OpenClaim := { program := "ytajbeamkjoeifaa", sum := "4266855cd6ae1831594ba2303d06deb9dabb1f551a50a6b5cf8d78f73d3caf9c", func := "loop.example/g01281/laws.FnExactResultOf", spec := "fnExactResultOf", apart := false }
def FnExactResultOfSaid : Prop := fnExactResultOfRow.holds Try.pinned (OpenSpec.ofChange fnExactResultOfSpec)

/-- ITS FALSE NEIGHBOUR: 'it returns false'. Refute it at one input. -/
def fnExactResultOfWrong : ChangeSpec := { name := "fnExactResultOf", fn := fun _ => fun
  | [d1, d2, d3] => { results := [.lit (.bool false)], args := [d1, d2, d3] }
  | _ => none }
def FnExactResultOfWrongFalsely : Prop := fnExactResultOfRow.holds Try.pinned (OpenSpec.ofChange fnExactResultOfWrong)

/-- 'laws.FnExactValidPlan': WHATEVER THE INPUT: true; the input reads as it did. -/
def fnExactValidPlanSpec : ChangeSpec := { name := "fnExactValidPlan", fn := fun _ => fun
  | [d1, d2] => { results := [.lit (.bool true)], args := [d1, d2] }
  | _ => none }
def fnExactValidPlanRow : OpenClaim := { program := "ytajbeamkjoeifaa", sum := "4266855cd6ae1831594ba2303d06deb9dabb1f551a50a6b5cf8d78f73d3caf9c", func := "loop.example/g01281/laws.FnExactValidPlan", spec := "fnExactValidPlan", apart := false }
def FnExactValidPlanSaid : Prop := fnExactValidPlanRow.holds Try.pinned (OpenSpec.ofChange fnExactValidPlanSpec)

/-- ITS FALSE NEIGHBOUR: 'it returns false'. Refute it at one input. -/
def fnExactValidPlanWrong : ChangeSpec := { name := "fnExactValidPlan", fn := fun _ => fun
  | [d1, d2] => { results := [.lit (.bool false)], args := [d1, d2] }
  | _ => none }
def FnExactValidPlanWrongFalsely : Prop := fnExactValidPlanRow.holds Try.pinned (OpenSpec.ofChange fnExactValidPlanWrong)

/-- 'laws.FnExactFollowPlan': WHATEVER THE INPUT: true; the input reads as it did. -/
def fnExactFollowPlanSpec : ChangeSpec := { name := "fnExactFollowPlan", fn := fun _ => fun
  | [d1, d2, d3] => { results := [.lit (.bool true)], args := [d1, d2, d3] }
  | _ => none }
def fnExactFollowPlanRow : OpenClaim := { program := "ytajbeamkjoeifaa", sum := "4266855cd6ae1831594ba2303d06deb9dabb1f551a50a6b5cf8d78f73d3caf9c", func := "loop.example/g01281/laws.FnExactFollowPlan", spec := "fnExactFollowPlan", apart := false }
def FnExactFollowPlanSaid : Prop := fnExactFollowPlanRow.holds Try.pinned (OpenSpec.ofChange fnExactFollowPlanSpec)

/-- ITS FALSE NEIGHBOUR: 'it returns false'. Refute it at one input. -/
def fnExactFollowPlanWrong : ChangeSpec := { name := "fnExactFollowPlan", fn := fun _ => fun
  | [d1, d2, d3] => { results := [.lit (.bool false)], args := [d1, d2, d3] }
  | _ => none }
def FnExactFollowPlanWrongFalsely : Prop := fnExactFollowPlanRow.holds Try.pinned (OpenSpec.ofChange fnExactFollowPlanWrong)

/- THE SECOND FORM. 'bulk': how many values and letters a reading holds, each counted each time it is reached (what is shared counts as often as it is met; a slice's spare places count too). A statement '..UptoSaid' is the law's where the arguments, and the package variables that the reading takes, are together of bulk at most 1048576: NARROWER than '..Said'. Prove '..Said' where nothing that the law and all that it calls make is longer than what came in: it says more and counts as full. Else prove '..UptoSaid'. A law counts once. -/
mutual
def uptoBulk {H : Type} : DataW H → Nat
  | .lit (.string bytes) => bytes.length + 1
  | .lit _ => 1
  | .nil => 1
  | .ptr d => uptoBulk d + 1
  | .slice elems spare => uptoBulkAll elems + uptoBulkAll spare + 1
  | .agg parts => uptoBulkAll parts + 1
  | .iface _ d => uptoBulk d + 1
  | .map entries => uptoBulkEntries entries + 1
  | .held _ => 1
def uptoBulkAll {H : Type} : List (DataW H) → Nat
  | [] => 0
  | d :: r => uptoBulk d + uptoBulkAll r
def uptoBulkEntries {H : Type} : List (Lit × DataW H) → Nat
  | [] => 0
  | x :: r => uptoBulkEntry x + uptoBulkEntries r
def uptoBulkEntry {H : Type} : Lit × DataW H → Nat
  | (.string bytes, d) => bytes.length + uptoBulk d + 1
  | (_, d) => uptoBulk d + 1
 end
def uptoSmall : (H : Type) → List (DataW H) → Bool := fun _ ds => decide (uptoBulkAll ds ≤ 1048576)
def OpenSpec.upto (s : _root_.Go.ChangeSpec) : _root_.Go.OpenSpec := { _root_.Go.OpenSpec.ofChange s with cond := some uptoSmall }

/-- 'laws.FnExactValidTask', WHERE WHAT IT READS IS OF BULK AT MOST 1048576: true; the input reads as it did. -/
def fnExactValidTaskUptoRow : OpenClaim := { program := "ytajbeamkjoeifaa", sum := "4266855cd6ae1831594ba2303d06deb9dabb1f551a50a6b5cf8d78f73d3caf9c", func := "loop.example/g01281/laws.FnExactValidTask", spec := "fnExactValidTask", apart := false, narrowed := true }
def FnExactValidTaskUptoSaid : Prop := fnExactValidTaskUptoRow.holds Try.pinned (OpenSpec.upto fnExactValidTaskSpec)

/-- 'laws.FnExactValidWeighing', WHERE WHAT IT READS IS OF BULK AT MOST 1048576: true; the input reads as it did. -/
def fnExactValidWeighingUptoRow : OpenClaim := { program := "ytajbeamkjoeifaa", sum := "4266855cd6ae1831594ba2303d06deb9dabb1f551a50a6b5cf8d78f73d3caf9c", func := "loop.example/g01281/laws.FnExactValidWeighing", spec := "fnExactValidWeighing", apart := false, narrowed := true }
def FnExactValidWeighingUptoSaid : Prop := fnExactValidWeighingUptoRow.holds Try.pinned (OpenSpec.upto fnExactValidWeighingSpec)

/-- 'laws.FnExactBoundOf', WHERE WHAT IT READS IS OF BULK AT MOST 1048576: true; the input reads as it did. -/
def fnExactBoundOfUptoRow : OpenClaim := { program := "ytajbeamkjoeifaa", sum := "4266855cd6ae1831594ba2303d06deb9dabb1f551a50a6b5cf8d78f73d3caf9c", func := "loop.example/g01281/laws.FnExactBoundOf", spec := "fnExactBoundOf", apart := false, narrowed := true }
def FnExactBoundOfUptoSaid : Prop := fnExactBoundOfUptoRow.holds Try.pinned (OpenSpec.upto fnExactBoundOfSpec)

/-- 'laws.FnExactWeighingText', WHERE WHAT IT READS IS OF BULK AT MOST 1048576: true; the input reads as it did. -/
def fnExactWeighingTextUptoRow : OpenClaim := { program := "ytajbeamkjoeifaa", sum := "4266855cd6ae1831594ba2303d06deb9dabb1f551a50a6b5cf8d78f73d3caf9c", func := "loop.example/g01281/laws.FnExactWeighingText", spec := "fnExactWeighingText", apart := false, narrowed := true }
def FnExactWeighingTextUptoSaid : Prop := fnExactWeighingTextUptoRow.holds Try.pinned (OpenSpec.upto fnExactWeighingTextSpec)

/-- 'laws.FnExactFindCase', WHERE WHAT IT READS IS OF BULK AT MOST 1048576: true; the input reads as it did. -/
def fnExactFindCaseUptoRow : OpenClaim := { program := "ytajbeamkjoeifaa", sum := "4266855cd6ae1831594ba2303d06deb9dabb1f551a50a6b5cf8d78f73d3caf9c", func := "loop.example/g01281/laws.FnExactFindCase", spec := "fnExactFindCase", apart := false, narrowed := true }
def FnExactFindCaseUptoSaid : Prop := fnExactFindCaseUptoRow.holds Try.pinned (OpenSpec.upto fnExactFindCaseSpec)

/-- 'laws.FnExactCasesOf', WHERE WHAT IT READS IS OF BULK AT MOST 1048576: true; the input reads as it did. -/
def fnExactCasesOfUptoRow : OpenClaim := { program := "ytajbeamkjoeifaa", sum := "4266855cd6ae1831594ba2303d06deb9dabb1f551a50a6b5cf8d78f73d3caf9c", func := "loop.example/g01281/laws.FnExactCasesOf", spec := "fnExactCasesOf", apart := false, narrowed := true }
def FnExactCasesOfUptoSaid : Prop := fnExactCasesOfUptoRow.holds Try.pinned (OpenSpec.upto fnExactCasesOfSpec)

/-- 'laws.FnExactReadWeighing', WHERE WHAT IT READS IS OF BULK AT MOST 1048576: true; the input reads as it did. -/
def fnExactReadWeighingUptoRow : OpenClaim := { program := "ytajbeamkjoeifaa", sum := "4266855cd6ae1831594ba2303d06deb9dabb1f551a50a6b5cf8d78f73d3caf9c", func := "loop.example/g01281/laws.FnExactReadWeighing", spec := "fnExactReadWeighing", inPlace := ["internal/bytealg.IndexByteString"], apart := false, narrowed := true }
def FnExactReadWeighingUptoSaid : Prop := fnExactReadWeighingUptoRow.holds Try.pinned (OpenSpec.upto fnExactReadWeighingSpec)

/-- 'laws.FnExactSamePlan', WHERE WHAT IT READS IS OF BULK AT MOST 1048576: true; the input reads as it did. -/
def fnExactSamePlanUptoRow : OpenClaim := { program := "ytajbeamkjoeifaa", sum := "4266855cd6ae1831594ba2303d06deb9dabb1f551a50a6b5cf8d78f73d3caf9c", func := "loop.example/g01281/laws.FnExactSamePlan", spec := "fnExactSamePlan", apart := false, narrowed := true }
def FnExactSamePlanUptoSaid : Prop := fnExactSamePlanUptoRow.holds Try.pinned (OpenSpec.upto fnExactSamePlanSpec)

/-- 'laws.FnExactResultOf', WHERE WHAT IT READS IS OF BULK AT MOST 1048576: true; the input reads as it did. -/
def fnExactResultOfUptoRow : OpenClaim := { program := "ytajbeamkjoeifaa", sum := "4266855cd6ae1831594ba2303d06deb9dabb1f551a50a6b5cf8d78f73d3caf9c", func := "loop.example/g01281/laws.FnExactResultOf", spec := "fnExactResultOf", apart := false, narrowed := true }
def FnExactResultOfUptoSaid : Prop := fnExactResultOfUptoRow.holds Try.pinned (OpenSpec.upto fnExactResultOfSpec)

/-- 'laws.FnExactValidPlan', WHERE WHAT IT READS IS OF BULK AT MOST 1048576: true; the input reads as it did. -/
def fnExactValidPlanUptoRow : OpenClaim := { program := "ytajbeamkjoeifaa", sum := "4266855cd6ae1831594ba2303d06deb9dabb1f551a50a6b5cf8d78f73d3caf9c", func := "loop.example/g01281/laws.FnExactValidPlan", spec := "fnExactValidPlan", apart := false, narrowed := true }
def FnExactValidPlanUptoSaid : Prop := fnExactValidPlanUptoRow.holds Try.pinned (OpenSpec.upto fnExactValidPlanSpec)

/-- 'laws.FnExactFollowPlan', WHERE WHAT IT READS IS OF BULK AT MOST 1048576: true; the input reads as it did. -/
def fnExactFollowPlanUptoRow : OpenClaim := { program := "ytajbeamkjoeifaa", sum := "4266855cd6ae1831594ba2303d06deb9dabb1f551a50a6b5cf8d78f73d3caf9c", func := "loop.example/g01281/laws.FnExactFollowPlan", spec := "fnExactFollowPlan", apart := false, narrowed := true }
def FnExactFollowPlanUptoSaid : Prop := fnExactFollowPlanUptoRow.holds Try.pinned (OpenSpec.upto fnExactFollowPlanSpec)

end Rows
end Go.Proofs.Ytajbeamkjoeifaa
