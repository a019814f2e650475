/-
  No cell of these rows narrows 'for every input' (looked for: loops, veiled, ifaces, maps, wideKeys, modest, calm, conditions, laid).
  DERIVED. THE GIVEN ROWS OF THIS SEAT. 3 by the template 'for every input the law returns true; each argument reads behind the call as it read before'; 0 by the template 'total and deterministic' (their statements: YtegnpgagboccpaaTotals.lean).
  GIVEN WITH THE SEED: the statements are not yours to turn. If you find one false, say at which input.
  Laid BY PROGRAM, IN A SANDBOX (cutbox-rows.mjs): the forced cells as the released guide's own fill.sh prints them over the translation 9d74c3cfce8064ac… (all of the seat's roots in one cut). By AI agents, Wed Nov 11 2026. No macro, syntax, notation, axiom, sorry.
-/
import Derived.Test.YtegnpgagboccpaaChecked
import GoSem.Claim
import GoSem.ClaimJoined
import GoSem.ClaimMapViews
import Derived.JoinedTies
import Derived.KernelRfl
namespace Go.Proofs.Ytegnpgagboccpaa
/- THE CELL 'sum', in the pinned program and in every row, IS THE sha256 OF THE DUMP (.gsa) THAT YtegnpgagboccpaaProg.lean LOADS. Nothing in Lean hashes anything: it is a label: what it is worth is what the hold of that sum in a sandbox is worth. -/
noncomputable def Try.pinned : Pinned := { name := "ytegnpgagboccpaa", sum := "9d74c3cfce8064acc1d0d3121feec6b583f4f0a090f856fcbcf65dafc03fcfc0", checked := Try.checked }
namespace Rows
def none {H : Type} : Left H := { results := [], args := [] }

/-- 'laws.FnExactLeastWeights': WHATEVER THE INPUT: true; the input reads as it did. -/
def fnExactLeastWeightsSpec : ChangeSpec := { name := "fnExactLeastWeights", fn := fun _ => fun
  | [d1, d2] => { results := [.lit (.bool true)], args := [d1, d2] }
  | _ => none }
def fnExactLeastWeightsRow : OpenClaim := { program := "ytegnpgagboccpaa", sum := "9d74c3cfce8064acc1d0d3121feec6b583f4f0a090f856fcbcf65dafc03fcfc0", func := "loop.example/g01281/laws.FnExactLeastWeights", spec := "fnExactLeastWeights", recurses := true, apart := false }
def FnExactLeastWeightsSaid : Prop := fnExactLeastWeightsRow.holds Try.pinned (OpenSpec.ofChange fnExactLeastWeightsSpec)

/-- ITS FALSE NEIGHBOUR: 'it returns false'. Refute it at one input. -/
def fnExactLeastWeightsWrong : ChangeSpec := { name := "fnExactLeastWeights", fn := fun _ => fun
  | [d1, d2] => { results := [.lit (.bool false)], args := [d1, d2] }
  | _ => none }
def FnExactLeastWeightsWrongFalsely : Prop := fnExactLeastWeightsRow.holds Try.pinned (OpenSpec.ofChange fnExactLeastWeightsWrong)

/-- 'laws.FnExactFromBalanced': WHATEVER THE INPUT: true; the input reads as it did. -/
def fnExactFromBalancedSpec : ChangeSpec := { name := "fnExactFromBalanced", fn := fun _ => fun
  | [d] => { results := [.lit (.bool true)], args := [d] }
  | _ => none }
def fnExactFromBalancedRow : OpenClaim := { program := "ytegnpgagboccpaa", sum := "9d74c3cfce8064acc1d0d3121feec6b583f4f0a090f856fcbcf65dafc03fcfc0", func := "loop.example/g01281/laws.FnExactFromBalanced", spec := "fnExactFromBalanced", unfollowed := true, recurses := true, apart := false }
def FnExactFromBalancedSaid : Prop := fnExactFromBalancedRow.holds Try.pinned (OpenSpec.ofChange fnExactFromBalancedSpec)

/-- ITS FALSE NEIGHBOUR: 'it returns false'. Refute it at one input. -/
def fnExactFromBalancedWrong : ChangeSpec := { name := "fnExactFromBalanced", fn := fun _ => fun
  | [d] => { results := [.lit (.bool false)], args := [d] }
  | _ => none }
def FnExactFromBalancedWrongFalsely : Prop := fnExactFromBalancedRow.holds Try.pinned (OpenSpec.ofChange fnExactFromBalancedWrong)

/-- 'laws.FnExactReadPlacing': WHATEVER THE INPUT: true; the input reads as it did. -/
def fnExactReadPlacingSpec : ChangeSpec := { name := "fnExactReadPlacing", fn := fun _ => fun
  | [d] => { results := [.lit (.bool true)], args := [d] }
  | _ => none }
def fnExactReadPlacingRow : OpenClaim := { program := "ytegnpgagboccpaa", sum := "9d74c3cfce8064acc1d0d3121feec6b583f4f0a090f856fcbcf65dafc03fcfc0", func := "loop.example/g01281/laws.FnExactReadPlacing", spec := "fnExactReadPlacing", inPlace := ["internal/bytealg.IndexByteString"], apart := false }
def FnExactReadPlacingSaid : Prop := fnExactReadPlacingRow.holds Try.pinned (OpenSpec.ofChange fnExactReadPlacingSpec)

/-- ITS FALSE NEIGHBOUR: 'it returns false'. Refute it at one input. -/
def fnExactReadPlacingWrong : ChangeSpec := { name := "fnExactReadPlacing", fn := fun _ => fun
  | [d] => { results := [.lit (.bool false)], args := [d] }
  | _ => none }
def FnExactReadPlacingWrongFalsely : Prop := fnExactReadPlacingRow.holds Try.pinned (OpenSpec.ofChange fnExactReadPlacingWrong)

/- THE SECOND FORM. 'bulk': how many values and letters a reading holds, each counted each time it is reached (what is shared counts as often as it is met; a slice's spare places count too). A statement '..UptoSaid' is the law's where the arguments, and the package variables that the reading takes, are together of bulk at most 1048576: NARROWER than '..Said'. Prove '..Said' where nothing that the law and all that it calls make is longer than what came in: it says more and counts as full. Else prove '..UptoSaid'. A law counts once. -/
mutual
def uptoBulk {H : Type} : DataW H → Nat
  | .lit (.string bytes) => bytes.length + 1
  | .lit _ => 1
  | .nil => 1
  | .ptr d => uptoBulk d + 1
  | .slice elems spare => uptoBulkAll elems + uptoBulkAll spare + 1
  | .agg parts => uptoBulkAll parts + 1
  | .iface _ d => uptoBulk d + 1
  | .map entries => uptoBulkEntries entries + 1
  | .held _ => 1
def uptoBulkAll {H : Type} : List (DataW H) → Nat
  | [] => 0
  | d :: r => uptoBulk d + uptoBulkAll r
def uptoBulkEntries {H : Type} : List (Lit × DataW H) → Nat
  | [] => 0
  | x :: r => uptoBulkEntry x + uptoBulkEntries r
def uptoBulkEntry {H : Type} : Lit × DataW H → Nat
  | (.string bytes, d) => bytes.length + uptoBulk d + 1
  | (_, d) => uptoBulk d + 1
 end
def uptoSmall : (H : Type) → List (DataW H) → Bool := fun _ ds => decide (uptoBulkAll ds ≤ 1048576)
def OpenSpec.upto (s : _root_.Go.ChangeSpec) : _root_.Go.OpenSpec := { _root_.Go.OpenSpec.ofChange s with cond := some uptoSmall }

/-- 'laws.FnExactLeastWeights', WHERE WHAT IT READS IS OF BULK AT MOST 1048576: true; the input reads as it did. -/
def fnExactLeastWeightsUptoRow : OpenClaim := { program := "ytegnpgagboccpaa", sum := "9d74c3cfce8064acc1d0d3121feec6b583f4f0a090f856fcbcf65dafc03fcfc0", func := "loop.example/g01281/laws.FnExactLeastWeights", spec := "fnExactLeastWeights", recurses := true, apart := false, narrowed := true }
def FnExactLeastWeightsUptoSaid : Prop := fnExactLeastWeightsUptoRow.holds Try.pinned (OpenSpec.upto fnExactLeastWeightsSpec)

/-- 'laws.FnExactFromBalanced', WHERE WHAT IT READS IS OF BULK AT MOST 1048576: true; the input reads as it did. -/
def fnExactFromBalancedUptoRow : OpenClaim := { program := "ytegnpgagboccpaa", sum := "9d74c3cfce8064acc1d0d3121feec6b583f4f0a090f856fcbcf65dafc03fcfc0", func := "loop.example/g01281/laws.FnExactFromBalanced", spec := "fnExactFromBalanced", unfollowed := true, recurses := true, apart := false, narrowed := true }
def FnExactFromBalancedUptoSaid : Prop := fnExactFromBalancedUptoRow.holds Try.pinned (OpenSpec.upto fnExactFromBalancedSpec)

/-- 'laws.FnExactReadPlacing', WHERE WHAT IT READS IS OF BULK AT MOST 1048576: true; the input reads as it did. -/
def fnExactReadPlacingUptoRow : OpenClaim := { program := "ytegnpgagboccpaa", sum := "9d74c3cfce8064acc1d0d3121feec6b583f4f0a090f856fcbcf65dafc03fcfc0", func := "loop.example/g01281/laws.FnExactReadPlacing", spec := "fnExactReadPlacing", inPlace := ["internal/bytealg.IndexByteString"], apart := false, narrowed := true }
def FnExactReadPlacingUptoSaid : Prop := fnExactReadPlacingUptoRow.holds Try.pinned (OpenSpec.upto fnExactReadPlacingSpec)

end Rows
end Go.Proofs.Ytegnpgagboccpaa
