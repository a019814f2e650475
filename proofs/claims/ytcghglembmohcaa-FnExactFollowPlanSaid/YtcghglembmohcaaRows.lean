/-
  No cell of these rows narrows 'for every input' (looked for: loops, veiled, ifaces, maps, wideKeys, modest, calm, conditions, laid).
  DERIVED. THE GIVEN ROWS OF THIS SEAT. 4 by the template 'for every input the law returns true; each argument reads behind the call as it read before'; 0 by the template 'total and deterministic' (their statements: YtcghglembmohcaaTotals.lean).
  GIVEN WITH THE SEED: the statements are not yours to turn. If you find one false, say at which input.
  Laid BY PROGRAM, IN A SANDBOX (cutbox-rows.mjs): the forced cells as the released guide's own fill.sh prints them over the translation 3e0934db6569564a… (all of the seat's roots in one cut). By AI agents, Wed Nov 11 2026. No macro, syntax, notation, axiom, sorry.
-/
import Derived.Test.YtcghglembmohcaaChecked
import GoSem.Claim
import GoSem.ClaimJoined
import GoSem.ClaimMapViews
import Derived.JoinedTies
import Derived.KernelRfl
namespace Go.Proofs.Ytcghglembmohcaa
/- THE CELL 'sum', in the pinned program and in every row, IS THE sha256 OF THE DUMP (.gsa) THAT YtcghglembmohcaaProg.lean LOADS. Nothing in Lean hashes anything: it is a label: what it is worth is what the hold of that sum in a sandbox is worth. -/
noncomputable def Try.pinned : Pinned := { name := "ytcghglembmohcaa", sum := "3e0934db6569564abb38f97a1a31b529e18a5079c60504eb2defb363c0faf986", checked := Try.checked }
namespace Rows
def none {H : Type} : Left H := { results := [], args := [] }

/-- 'laws.FnExactReadWeighing': WHATEVER THE INPUT: true; the input reads as it did. -/
def fnExactReadWeighingSpec : ChangeSpec := { name := "fnExactReadWeighing", fn := fun _ => fun
  | [d1, d2] => { results := [.lit (.bool true)], args := [d1, d2] }
  | _ => none }
def fnExactReadWeighingRow : OpenClaim := { program := "ytcghglembmohcaa", sum := "3e0934db6569564abb38f97a1a31b529e18a5079c60504eb2defb363c0faf986", func := "loop.example/g01281/laws.FnExactReadWeighing", spec := "fnExactReadWeighing", inPlace := ["internal/bytealg.IndexByteString"], apart := false }
def FnExactReadWeighingSaid : Prop := fnExactReadWeighingRow.holds Try.pinned (OpenSpec.ofChange fnExactReadWeighingSpec)

/-- ITS FALSE NEIGHBOUR: 'it returns false'. Refute it at one input. -/
def fnExactReadWeighingWrong : ChangeSpec := { name := "fnExactReadWeighing", fn := fun _ => fun
  | [d1, d2] => { results := [.lit (.bool false)], args := [d1, d2] }
  | _ => none }
def FnExactReadWeighingWrongFalsely : Prop := fnExactReadWeighingRow.holds Try.pinned (OpenSpec.ofChange fnExactReadWeighingWrong)

/-- 'laws.FnExactSamePlan': WHATEVER THE INPUT: true; the input reads as it did. -/
def fnExactSamePlanSpec : ChangeSpec := { name := "fnExactSamePlan", fn := fun _ => fun
  | [d1, d2] => { results := [.lit (.bool true)], args := [d1, d2] }
  | _ => none }
def fnExactSamePlanRow : OpenClaim := { program := "ytcghglembmohcaa", sum := "3e0934db6569564abb38f97a1a31b529e18a5079c60504eb2defb363c0faf986", func := "loop.example/g01281/laws.FnExactSamePlan", spec := "fnExactSamePlan", apart := false }
def FnExactSamePlanSaid : Prop := fnExactSamePlanRow.holds Try.pinned (OpenSpec.ofChange fnExactSamePlanSpec)

/-- ITS FALSE NEIGHBOUR: 'it returns false'. Refute it at one input. -/
def fnExactSamePlanWrong : ChangeSpec := { name := "fnExactSamePlan", fn := fun _ => fun
  | [d1, d2] => { results := [.lit (.bool false)], args := [d1, d2] }
  | _ => none }
def FnExactSamePlanWrongFalsely : Prop := fnExactSamePlanRow.holds Try.pinned (OpenSpec.ofChange fnExactSamePlanWrong)

/-- 'laws.FnExactValidPlan': WHATEVER THE INPUT: true; the input reads as it did. -/
def fnExactValidPlanSpec : ChangeSpec := { name := "fnExactValidPlan", fn := fun _ => fun
  | [d1, d2] => { results := [.lit (.bool true)], args := [d1, d2] }
  | _ => none }
def fnExactValidPlanRow : OpenClaim := { program := "ytcghglembmohcaa", sum := "3e0934db6569564abb38f97a1a31b529e18a5079c60504eb2defb363c0faf986", func := "loop.example/g01281/laws.FnExactValidPlan", spec := "fnExactValidPlan", apart := false }
def FnExactValidPlanSaid : Prop := fnExactValidPlanRow.holds Try.pinned (OpenSpec.ofChange fnExactValidPlanSpec)

/-- ITS FALSE NEIGHBOUR: 'it returns false'. Refute it at one input. -/
def fnExactValidPlanWrong : ChangeSpec := { name := "fnExactValidPlan", fn := fun _ => fun
  | [d1, d2] => { results := [.lit (.bool false)], args := [d1, d2] }
  | _ => none }
def FnExactValidPlanWrongFalsely : Prop := fnExactValidPlanRow.holds Try.pinned (OpenSpec.ofChange fnExactValidPlanWrong)

/-- 'laws.FnExactFollowPlan': WHATEVER THE INPUT: true; the input reads as it did. -/
def fnExactFollowPlanSpec : ChangeSpec := { name := "fnExactFollowPlan", fn := fun _ => fun
  | [d1, d2, d3] => { results := [.lit (.bool true)], args := [d1, d2, d3] }
  | _ => none }
def fnExactFollowPlanRow : OpenClaim := { program := "ytcghglembmohcaa", sum := "3e0934db6569564abb38f97a1a31b529e18a5079c60504eb2defb363c0faf986", func := "loop.example/g01281/laws.FnExactFollowPlan", spec := "fnExactFollowPlan", apart := false }
def FnExactFollowPlanSaid : Prop := fnExactFollowPlanRow.holds Try.pinned (OpenSpec.ofChange fnExactFollowPlanSpec)

/-- ITS FALSE NEIGHBOUR: 'it returns false'. Refute it at one input. -/
def fnExactFollowPlanWrong : ChangeSpec := { name := "fnExactFollowPlan", fn := fun _ => fun
  | [d1, d2, d3] => { results := [.lit (.bool false)], args := [d1, d2, d3] }
  | _ => none }
def FnExactFollowPlanWrongFalsely : Prop := fnExactFollowPlanRow.holds Try.pinned (OpenSpec.ofChange fnExactFollowPlanWrong)

/- THE SECOND FORM. 'bulk': how many values and letters a reading holds, each counted each time it is reached (what is shared counts as often as it is met; a slice's spare places count too). A statement '..UptoSaid' is the law's where the arguments, and the package variables that the reading takes, are together of bulk at most 1048576: NARROWER than '..Said'. Prove '..Said' where nothing that the law and all that it calls make is longer than what came in: it says more and counts as full. Else prove '..UptoSaid'. A law counts once. -/
mutual
def uptoBulk {H : Type} : DataW H → Nat
  | .lit (.string bytes) => bytes.length + 1
  | .lit _ => 1
  | .nil => 1
  | .ptr d => uptoBulk d + 1
  | .slice elems spare => uptoBulkAll elems + uptoBulkAll spare + 1
  | .agg parts => uptoBulkAll parts + 1
  | .iface _ d => uptoBulk d + 1
  | .map entries => uptoBulkEntries entries + 1
  | .held _ => 1
def uptoBulkAll {H : Type} : List (DataW H) → Nat
  | [] => 0
  | d :: r => uptoBulk d + uptoBulkAll r
def uptoBulkEntries {H : Type} : List (Lit × DataW H) → Nat
  | [] => 0
  | x :: r => uptoBulkEntry x + uptoBulkEntries r
def uptoBulkEntry {H : Type} : Lit × DataW H → Nat
  | (.string bytes, d) => bytes.length + uptoBulk d + 1
  | (_, d) => uptoBulk d + 1
 end
def uptoSmall : (H : Type) → List (DataW H) → Bool := fun _ ds => decide (uptoBulkAll ds ≤ 1048576)
def OpenSpec.upto (s : _root_.Go.ChangeSpec) : _root_.Go.OpenSpec := { _root_.Go.OpenSpec.ofChange s with cond := some uptoSmall }

/-- 'laws.FnExactReadWeighing', WHERE WHAT IT READS IS OF BULK AT MOST 1048576: true; the input reads as it did. -/
def fnExactReadWeighingUptoRow : OpenClaim := { program := "ytcghglembmohcaa", sum := "3e0934db6569564abb38f97a1a31b529e18a5079c60504eb2defb363c0faf986", func := "loop.example/g01281/laws.FnExactReadWeighing", spec := "fnExactReadWeighing", inPlace := ["internal/bytealg.IndexByteString"], apart := false, narrowed := true }
def FnExactReadWeighingUptoSaid : Prop := fnExactReadWeighingUptoRow.holds Try.pinned (OpenSpec.upto fnExactReadWeighingSpec)

/-- 'laws.FnExactSamePlan', WHERE WHAT IT READS IS OF BULK AT MOST 1048576: true; the input reads as it did. -/
def fnExactSamePlanUptoRow : OpenClaim := { program := "ytcghglembmohcaa", sum := "3e0934db6569564abb38f97a1a31b529e18a5079c60504eb2defb363c0faf986", func := "loop.example/g01281/laws.FnExactSamePlan", spec := "fnExactSamePlan", apart := false, narrowed := true }
def FnExactSamePlanUptoSaid : Prop := fnExactSamePlanUptoRow.holds Try.pinned (OpenSpec.upto fnExactSamePlanSpec)

/-- 'laws.FnExactValidPlan', WHERE WHAT IT READS IS OF BULK AT MOST 1048576: true; the input reads as it did. -/
def fnExactValidPlanUptoRow : OpenClaim := { program := "ytcghglembmohcaa", sum := "3e0934db6569564abb38f97a1a31b529e18a5079c60504eb2defb363c0faf986", func := "loop.example/g01281/laws.FnExactValidPlan", spec := "fnExactValidPlan", apart := false, narrowed := true }
def FnExactValidPlanUptoSaid : Prop := fnExactValidPlanUptoRow.holds Try.pinned (OpenSpec.upto fnExactValidPlanSpec)

/-- 'laws.FnExactFollowPlan', WHERE WHAT IT READS IS OF BULK AT MOST 1048576: true; the input reads as it did. -/
def fnExactFollowPlanUptoRow : OpenClaim := { program := "ytcghglembmohcaa", sum := "3e0934db6569564abb38f97a1a31b529e18a5079c60504eb2defb363c0faf986", func := "loop.example/g01281/laws.FnExactFollowPlan", spec := "fnExactFollowPlan", apart := false, narrowed := true }
def FnExactFollowPlanUptoSaid : Prop := fnExactFollowPlanUptoRow.holds Try.pinned (OpenSpec.upto fnExactFollowPlanSpec)

end Rows
end Go.Proofs.Ytcghglembmohcaa
