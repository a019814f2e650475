/-
  No cell of these rows narrows 'for every input' (looked for: loops, veiled, ifaces, maps, wideKeys, modest, calm, conditions, laid).
  DERIVED. THE GIVEN ROWS OF THIS SEAT. 9 by the template 'for every input the law returns true; each argument reads behind the call as it read before'; 0 by the template 'total and deterministic' (their statements: YtgkefkajnbpijaaTotals.lean).
  GIVEN WITH THE SEED: the statements are not yours to turn. If you find one false, say at which input.
  Laid BY PROGRAM, IN A SANDBOX (cutbox-rows.mjs): the forced cells as the released guide's own fill.sh prints them over the translation 063b54df1d184d4a… (all of the seat's roots in one cut). By AI agents, Wed Nov 11 2026. No macro, syntax, notation, axiom, sorry.
-/
import Derived.Test.YtgkefkajnbpijaaChecked
import GoSem.Claim
import GoSem.ClaimJoined
import GoSem.ClaimMapViews
import Derived.JoinedTies
import Derived.KernelRfl
namespace Go.Proofs.Ytgkefkajnbpijaa
/- THE CELL 'sum', in the pinned program and in every row, IS THE sha256 OF THE DUMP (.gsa) THAT YtgkefkajnbpijaaProg.lean LOADS. Nothing in Lean hashes anything: it is a label: what it is worth is what the hold of that sum in a sandbox is worth. -/
noncomputable def Try.pinned : Pinned := { name := "ytgkefkajnbpijaa", sum := "063b54df1d184d4a94102753320739f5ad1de38f707ae36ea7f9cc7a23aec0da", checked := Try.checked }
namespace Rows
def none {H : Type} : Left H := { results := [], args := [] }

/-- 'laws.FnExactConstants': WHATEVER THE INPUT: true; the input reads as it did. -/
def fnExactConstantsSpec : ChangeSpec := { name := "fnExactConstants", fn := fun _ => fun
  | [] => { results := [.lit (.bool true)], args := [] }
  | _ => none }
def fnExactConstantsRow : OpenClaim := { program := "ytgkefkajnbpijaa", sum := "063b54df1d184d4a94102753320739f5ad1de38f707ae36ea7f9cc7a23aec0da", func := "loop.example/g01281/laws.FnExactConstants", spec := "fnExactConstants", apart := false }
def FnExactConstantsSaid : Prop := fnExactConstantsRow.holds Try.pinned (OpenSpec.ofChange fnExactConstantsSpec)

/-- ITS FALSE NEIGHBOUR: 'it returns false'. Refute it at one input. -/
def fnExactConstantsWrong : ChangeSpec := { name := "fnExactConstants", fn := fun _ => fun
  | [] => { results := [.lit (.bool false)], args := [] }
  | _ => none }
def FnExactConstantsWrongFalsely : Prop := fnExactConstantsRow.holds Try.pinned (OpenSpec.ofChange fnExactConstantsWrong)

/-- 'laws.FnExactCodeName': WHATEVER THE INPUT: true; the input reads as it did. -/
def fnExactCodeNameSpec : ChangeSpec := { name := "fnExactCodeName", fn := fun _ => fun
  | [d] => { results := [.lit (.bool true)], args := [d] }
  | _ => none }
def fnExactCodeNameRow : OpenClaim := { program := "ytgkefkajnbpijaa", sum := "063b54df1d184d4a94102753320739f5ad1de38f707ae36ea7f9cc7a23aec0da", func := "loop.example/g01281/laws.FnExactCodeName", spec := "fnExactCodeName", apart := false }
def FnExactCodeNameSaid : Prop := fnExactCodeNameRow.holds Try.pinned (OpenSpec.ofChange fnExactCodeNameSpec)

/-- ITS FALSE NEIGHBOUR: 'it returns false'. Refute it at one input. -/
def fnExactCodeNameWrong : ChangeSpec := { name := "fnExactCodeName", fn := fun _ => fun
  | [d] => { results := [.lit (.bool false)], args := [d] }
  | _ => none }
def FnExactCodeNameWrongFalsely : Prop := fnExactCodeNameRow.holds Try.pinned (OpenSpec.ofChange fnExactCodeNameWrong)

/-- 'laws.FnExactMassByTwo': WHATEVER THE INPUT: true; the input reads as it did. -/
def fnExactMassByTwoSpec : ChangeSpec := { name := "fnExactMassByTwo", fn := fun _ => fun
  | [d1, d2] => { results := [.lit (.bool true)], args := [d1, d2] }
  | _ => none }
def fnExactMassByTwoRow : OpenClaim := { program := "ytgkefkajnbpijaa", sum := "063b54df1d184d4a94102753320739f5ad1de38f707ae36ea7f9cc7a23aec0da", func := "loop.example/g01281/laws.FnExactMassByTwo", spec := "fnExactMassByTwo", apart := false }
def FnExactMassByTwoSaid : Prop := fnExactMassByTwoRow.holds Try.pinned (OpenSpec.ofChange fnExactMassByTwoSpec)

/-- ITS FALSE NEIGHBOUR: 'it returns false'. Refute it at one input. -/
def fnExactMassByTwoWrong : ChangeSpec := { name := "fnExactMassByTwo", fn := fun _ => fun
  | [d1, d2] => { results := [.lit (.bool false)], args := [d1, d2] }
  | _ => none }
def FnExactMassByTwoWrongFalsely : Prop := fnExactMassByTwoRow.holds Try.pinned (OpenSpec.ofChange fnExactMassByTwoWrong)

/-- 'laws.FnExactBalancedDigits': WHATEVER THE INPUT: true; the input reads as it did. -/
def fnExactBalancedDigitsSpec : ChangeSpec := { name := "fnExactBalancedDigits", fn := fun _ => fun
  | [d] => { results := [.lit (.bool true)], args := [d] }
  | _ => none }
def fnExactBalancedDigitsRow : OpenClaim := { program := "ytgkefkajnbpijaa", sum := "063b54df1d184d4a94102753320739f5ad1de38f707ae36ea7f9cc7a23aec0da", func := "loop.example/g01281/laws.FnExactBalancedDigits", spec := "fnExactBalancedDigits", apart := false }
def FnExactBalancedDigitsSaid : Prop := fnExactBalancedDigitsRow.holds Try.pinned (OpenSpec.ofChange fnExactBalancedDigitsSpec)

/-- ITS FALSE NEIGHBOUR: 'it returns false'. Refute it at one input. -/
def fnExactBalancedDigitsWrong : ChangeSpec := { name := "fnExactBalancedDigits", fn := fun _ => fun
  | [d] => { results := [.lit (.bool false)], args := [d] }
  | _ => none }
def FnExactBalancedDigitsWrongFalsely : Prop := fnExactBalancedDigitsRow.holds Try.pinned (OpenSpec.ofChange fnExactBalancedDigitsWrong)

/-- 'laws.FnExactPlacingText': WHATEVER THE INPUT: true; the input reads as it did. -/
def fnExactPlacingTextSpec : ChangeSpec := { name := "fnExactPlacingText", fn := fun _ => fun
  | [d] => { results := [.lit (.bool true)], args := [d] }
  | _ => none }
def fnExactPlacingTextRow : OpenClaim := { program := "ytgkefkajnbpijaa", sum := "063b54df1d184d4a94102753320739f5ad1de38f707ae36ea7f9cc7a23aec0da", func := "loop.example/g01281/laws.FnExactPlacingText", spec := "fnExactPlacingText", apart := false }
def FnExactPlacingTextSaid : Prop := fnExactPlacingTextRow.holds Try.pinned (OpenSpec.ofChange fnExactPlacingTextSpec)

/-- ITS FALSE NEIGHBOUR: 'it returns false'. Refute it at one input. -/
def fnExactPlacingTextWrong : ChangeSpec := { name := "fnExactPlacingText", fn := fun _ => fun
  | [d] => { results := [.lit (.bool false)], args := [d] }
  | _ => none }
def FnExactPlacingTextWrongFalsely : Prop := fnExactPlacingTextRow.holds Try.pinned (OpenSpec.ofChange fnExactPlacingTextWrong)

/-- 'laws.FnExactArmsFrom': WHATEVER THE INPUT: true; the input reads as it did. -/
def fnExactArmsFromSpec : ChangeSpec := { name := "fnExactArmsFrom", fn := fun _ => fun
  | [d1, d2] => { results := [.lit (.bool true)], args := [d1, d2] }
  | _ => none }
def fnExactArmsFromRow : OpenClaim := { program := "ytgkefkajnbpijaa", sum := "063b54df1d184d4a94102753320739f5ad1de38f707ae36ea7f9cc7a23aec0da", func := "loop.example/g01281/laws.FnExactArmsFrom", spec := "fnExactArmsFrom", recurses := true, apart := false }
def FnExactArmsFromSaid : Prop := fnExactArmsFromRow.holds Try.pinned (OpenSpec.ofChange fnExactArmsFromSpec)

/-- ITS FALSE NEIGHBOUR: 'it returns false'. Refute it at one input. -/
def fnExactArmsFromWrong : ChangeSpec := { name := "fnExactArmsFrom", fn := fun _ => fun
  | [d1, d2] => { results := [.lit (.bool false)], args := [d1, d2] }
  | _ => none }
def FnExactArmsFromWrongFalsely : Prop := fnExactArmsFromRow.holds Try.pinned (OpenSpec.ofChange fnExactArmsFromWrong)

/-- 'laws.FnExactLeastWeights': WHATEVER THE INPUT: true; the input reads as it did. -/
def fnExactLeastWeightsSpec : ChangeSpec := { name := "fnExactLeastWeights", fn := fun _ => fun
  | [d1, d2] => { results := [.lit (.bool true)], args := [d1, d2] }
  | _ => none }
def fnExactLeastWeightsRow : OpenClaim := { program := "ytgkefkajnbpijaa", sum := "063b54df1d184d4a94102753320739f5ad1de38f707ae36ea7f9cc7a23aec0da", func := "loop.example/g01281/laws.FnExactLeastWeights", spec := "fnExactLeastWeights", recurses := true, apart := false }
def FnExactLeastWeightsSaid : Prop := fnExactLeastWeightsRow.holds Try.pinned (OpenSpec.ofChange fnExactLeastWeightsSpec)

/-- ITS FALSE NEIGHBOUR: 'it returns false'. Refute it at one input. -/
def fnExactLeastWeightsWrong : ChangeSpec := { name := "fnExactLeastWeights", fn := fun _ => fun
  | [d1, d2] => { results := [.lit (.bool false)], args := [d1, d2] }
  | _ => none }
def FnExactLeastWeightsWrongFalsely : Prop := fnExactLeastWeightsRow.holds Try.pinned (OpenSpec.ofChange fnExactLeastWeightsWrong)

/-- 'laws.FnExactFromBalanced': WHATEVER THE INPUT: true; the input reads as it did. -/
def fnExactFromBalancedSpec : ChangeSpec := { name := "fnExactFromBalanced", fn := fun _ => fun
  | [d] => { results := [.lit (.bool true)], args := [d] }
  | _ => none }
def fnExactFromBalancedRow : OpenClaim := { program := "ytgkefkajnbpijaa", sum := "063b54df1d184d4a94102753320739f5ad1de38f707ae36ea7f9cc7a23aec0da", func := "loop.example/g01281/laws.FnExactFromBalanced", spec := "fnExactFromBalanced", unfollowed := true, recurses := true, apart := false }
def FnExactFromBalancedSaid : Prop := fnExactFromBalancedRow.holds Try.pinned (OpenSpec.ofChange fnExactFromBalancedSpec)

/-- ITS FALSE NEIGHBOUR: 'it returns false'. Refute it at one input. -/
def fnExactFromBalancedWrong : ChangeSpec := { name := "fnExactFromBalanced", fn := fun _ => fun
  | [d] => { results := [.lit (.bool false)], args := [d] }
  | _ => none }
def FnExactFromBalancedWrongFalsely : Prop := fnExactFromBalancedRow.holds Try.pinned (OpenSpec.ofChange fnExactFromBalancedWrong)

/-- 'laws.FnExactReadPlacing': WHATEVER THE INPUT: true; the input reads as it did. -/
def fnExactReadPlacingSpec : ChangeSpec := { name := "fnExactReadPlacing", fn := fun _ => fun
  | [d] => { results := [.lit (.bool true)], args := [d] }
  | _ => none }
def fnExactReadPlacingRow : OpenClaim := { program := "ytgkefkajnbpijaa", sum := "063b54df1d184d4a94102753320739f5ad1de38f707ae36ea7f9cc7a23aec0da", func := "loop.example/g01281/laws.FnExactReadPlacing", spec := "fnExactReadPlacing", inPlace := ["internal/bytealg.IndexByteString"], apart := false }
def FnExactReadPlacingSaid : Prop := fnExactReadPlacingRow.holds Try.pinned (OpenSpec.ofChange fnExactReadPlacingSpec)

/-- ITS FALSE NEIGHBOUR: 'it returns false'. Refute it at one input. -/
def fnExactReadPlacingWrong : ChangeSpec := { name := "fnExactReadPlacing", fn := fun _ => fun
  | [d] => { results := [.lit (.bool false)], args := [d] }
  | _ => none }
def FnExactReadPlacingWrongFalsely : Prop := fnExactReadPlacingRow.holds Try.pinned (OpenSpec.ofChange fnExactReadPlacingWrong)

/- THE SECOND FORM. 'bulk': how many values and letters a reading holds, each counted each time it is reached (what is shared counts as often as it is met; a slice's spare places count too). A statement '..UptoSaid' is the law's where the arguments, and the package variables that the reading takes, are together of bulk at most 1048576: NARROWER than '..Said'. Prove '..Said' where nothing that the law and all that it calls make is longer than what came in: it says more and counts as full. Else prove '..UptoSaid'. A law counts once. -/
mutual
def uptoBulk {H : Type} : DataW H → Nat
  | .lit (.string bytes) => bytes.length + 1
  | .lit _ => 1
  | .nil => 1
  | .ptr d => uptoBulk d + 1
  | .slice elems spare => uptoBulkAll elems + uptoBulkAll spare + 1
  | .agg parts => uptoBulkAll parts + 1
  | .iface _ d => uptoBulk d + 1
  | .map entries => uptoBulkEntries entries + 1
  | .held _ => 1
def uptoBulkAll {H : Type} : List (DataW H) → Nat
  | [] => 0
  | d :: r => uptoBulk d + uptoBulkAll r
def uptoBulkEntries {H : Type} : List (Lit × DataW H) → Nat
  | [] => 0
  | x :: r => uptoBulkEntry x + uptoBulkEntries r
def uptoBulkEntry {H : Type} : Lit × DataW H → Nat
  | (.string bytes, d) => bytes.length + uptoBulk d + 1
  | (_, d) => uptoBulk d + 1
 end
def uptoSmall : (H : Type) → List (DataW H) → Bool := fun _ ds => decide (uptoBulkAll ds ≤ 1048576)
def OpenSpec.upto (s : _root_.Go.ChangeSpec) : _root_.Go.OpenSpec := { _root_.Go.OpenSpec.ofChange s with cond := some uptoSmall }

/-- 'laws.FnExactConstants', WHERE WHAT IT READS IS OF BULK AT MOST 1048576: true; the input reads as it did. -/
def fnExactConstantsUptoRow : OpenClaim := { program := "ytgkefkajnbpijaa", sum := "063b54df1d184d4a94102753320739f5ad1de38f707ae36ea7f9cc7a23aec0da", func := "loop.example/g01281/laws.FnExactConstants", spec := "fnExactConstants", apart := false, narrowed := true }
def FnExactConstantsUptoSaid : Prop := fnExactConstantsUptoRow.holds Try.pinned (OpenSpec.upto fnExactConstantsSpec)

/-- 'laws.FnExactCodeName', WHERE WHAT IT READS IS OF BULK AT MOST 1048576: true; the input reads as it did. -/
def fnExactCodeNameUptoRow : OpenClaim := { program := "ytgkefkajnbpijaa", sum := "063b54df1d184d4a94102753320739f5ad1de38f707ae36ea7f9cc7a23aec0da", func := "loop.example/g01281/laws.FnExactCodeName", spec := "fnExactCodeName", apart := false, narrowed := true }
def FnExactCodeNameUptoSaid : Prop := fnExactCodeNameUptoRow.holds Try.pinned (OpenSpec.upto fnExactCodeNameSpec)

/-- 'laws.FnExactMassByTwo', WHERE WHAT IT READS IS OF BULK AT MOST 1048576: true; the input reads as it did. -/
def fnExactMassByTwoUptoRow : OpenClaim := { program := "ytgkefkajnbpijaa", sum := "063b54df1d184d4a94102753320739f5ad1de38f707ae36ea7f9cc7a23aec0da", func := "loop.example/g01281/laws.FnExactMassByTwo", spec := "fnExactMassByTwo", apart := false, narrowed := true }
def FnExactMassByTwoUptoSaid : Prop := fnExactMassByTwoUptoRow.holds Try.pinned (OpenSpec.upto fnExactMassByTwoSpec)

/-- 'laws.FnExactBalancedDigits', WHERE WHAT IT READS IS OF BULK AT MOST 1048576: true; the input reads as it did. -/
def fnExactBalancedDigitsUptoRow : OpenClaim := { program := "ytgkefkajnbpijaa", sum := "063b54df1d184d4a94102753320739f5ad1de38f707ae36ea7f9cc7a23aec0da", func := "loop.example/g01281/laws.FnExactBalancedDigits", spec := "fnExactBalancedDigits", apart := false, narrowed := true }
def FnExactBalancedDigitsUptoSaid : Prop := fnExactBalancedDigitsUptoRow.holds Try.pinned (OpenSpec.upto fnExactBalancedDigitsSpec)

/-- 'laws.FnExactPlacingText', WHERE WHAT IT READS IS OF BULK AT MOST 1048576: true; the input reads as it did. -/
def fnExactPlacingTextUptoRow : OpenClaim := { program := "ytgkefkajnbpijaa", sum := "063b54df1d184d4a94102753320739f5ad1de38f707ae36ea7f9cc7a23aec0da", func := "loop.example/g01281/laws.FnExactPlacingText", spec := "fnExactPlacingText", apart := false, narrowed := true }
def FnExactPlacingTextUptoSaid : Prop := fnExactPlacingTextUptoRow.holds Try.pinned (OpenSpec.upto fnExactPlacingTextSpec)

/-- 'laws.FnExactArmsFrom', WHERE WHAT IT READS IS OF BULK AT MOST 1048576: true; the input reads as it did. -/
def fnExactArmsFromUptoRow : OpenClaim := { program := "ytgkefkajnbpijaa", sum := "063b54df1d184d4a94102753320739f5ad1de38f707ae36ea7f9cc7a23aec0da", func := "loop.example/g01281/laws.FnExactArmsFrom", spec := "fnExactArmsFrom", recurses := true, apart := false, narrowed := true }
def FnExactArmsFromUptoSaid : Prop := fnExactArmsFromUptoRow.holds Try.pinned (OpenSpec.upto fnExactArmsFromSpec)

/-- 'laws.FnExactLeastWeights', WHERE WHAT IT READS IS OF BULK AT MOST 1048576: true; the input reads as it did. -/
def fnExactLeastWeightsUptoRow : OpenClaim := { program := "ytgkefkajnbpijaa", sum := "063b54df1d184d4a94102753320739f5ad1de38f707ae36ea7f9cc7a23aec0da", func := "loop.example/g01281/laws.FnExactLeastWeights", spec := "fnExactLeastWeights", recurses := true, apart := false, narrowed := true }
def FnExactLeastWeightsUptoSaid : Prop := fnExactLeastWeightsUptoRow.holds Try.pinned (OpenSpec.upto fnExactLeastWeightsSpec)

/-- 'laws.FnExactFromBalanced', WHERE WHAT IT READS IS OF BULK AT MOST 1048576: true; the input reads as it did. -/
def fnExactFromBalancedUptoRow : OpenClaim := { program := "ytgkefkajnbpijaa", sum := "063b54df1d184d4a94102753320739f5ad1de38f707ae36ea7f9cc7a23aec0da", func := "loop.example/g01281/laws.FnExactFromBalanced", spec := "fnExactFromBalanced", unfollowed := true, recurses := true, apart := false, narrowed := true }
def FnExactFromBalancedUptoSaid : Prop := fnExactFromBalancedUptoRow.holds Try.pinned (OpenSpec.upto fnExactFromBalancedSpec)

/-- 'laws.FnExactReadPlacing', WHERE WHAT IT READS IS OF BULK AT MOST 1048576: true; the input reads as it did. -/
def fnExactReadPlacingUptoRow : OpenClaim := { program := "ytgkefkajnbpijaa", sum := "063b54df1d184d4a94102753320739f5ad1de38f707ae36ea7f9cc7a23aec0da", func := "loop.example/g01281/laws.FnExactReadPlacing", spec := "fnExactReadPlacing", inPlace := ["internal/bytealg.IndexByteString"], apart := false, narrowed := true }
def FnExactReadPlacingUptoSaid : Prop := fnExactReadPlacingUptoRow.holds Try.pinned (OpenSpec.upto fnExactReadPlacingSpec)

end Rows
end Go.Proofs.Ytgkefkajnbpijaa
