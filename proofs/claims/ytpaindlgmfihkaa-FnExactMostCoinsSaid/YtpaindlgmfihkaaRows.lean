/-
  No cell of these rows narrows 'for every input' (looked for: loops, veiled, ifaces, maps, wideKeys, modest, calm, conditions, laid).
  DERIVED. THE GIVEN ROWS OF THIS SEAT. 20 by the template 'for every input the law returns true; each argument reads behind the call as it read before'; 0 by the template 'total and deterministic' (their statements: YtpaindlgmfihkaaTotals.lean).
  GIVEN WITH THE SEED: the statements are not yours to turn. If you find one false, say at which input.
  Laid BY PROGRAM, IN A SANDBOX (cutbox-rows.mjs): the forced cells as the released guide's own fill.sh prints them over the translation d0cf2923c467607a… (all of the seat's roots in one cut). By AI agents, Wed Nov 11 2026. No macro, syntax, notation, axiom, sorry.
-/
import Derived.Test.YtpaindlgmfihkaaChecked
import GoSem.Claim
import GoSem.ClaimJoined
import GoSem.ClaimMapViews
import Derived.JoinedTies
import Derived.KernelRfl
namespace Go.Proofs.Ytpaindlgmfihkaa
/- THE CELL 'sum', in the pinned program and in every row, IS THE sha256 OF THE DUMP (.gsa) THAT YtpaindlgmfihkaaProg.lean LOADS. Nothing in Lean hashes anything: it is a label: what it is worth is what the hold of that sum in a sandbox is worth. -/
noncomputable def Try.pinned : Pinned := { name := "ytpaindlgmfihkaa", sum := "d0cf2923c467607a1d5bd1fff5e0f34fd96b7ad939f35aaa1cf4849d3a9bf71e", checked := Try.checked }
namespace Rows
def none {H : Type} : Left H := { results := [], args := [] }

/-- 'laws.FnExactOppositeWord': WHATEVER THE INPUT: true; the input reads as it did. -/
def fnExactOppositeWordSpec : ChangeSpec := { name := "fnExactOppositeWord", fn := fun _ => fun
  | [d] => { results := [.lit (.bool true)], args := [d] }
  | _ => none }
def fnExactOppositeWordRow : OpenClaim := { program := "ytpaindlgmfihkaa", sum := "d0cf2923c467607a1d5bd1fff5e0f34fd96b7ad939f35aaa1cf4849d3a9bf71e", func := "loop.example/g01281/laws.FnExactOppositeWord", spec := "fnExactOppositeWord", apart := false }
def FnExactOppositeWordSaid : Prop := fnExactOppositeWordRow.holds Try.pinned (OpenSpec.ofChange fnExactOppositeWordSpec)

/-- ITS FALSE NEIGHBOUR: 'it returns false'. Refute it at one input. -/
def fnExactOppositeWordWrong : ChangeSpec := { name := "fnExactOppositeWord", fn := fun _ => fun
  | [d] => { results := [.lit (.bool false)], args := [d] }
  | _ => none }
def FnExactOppositeWordWrongFalsely : Prop := fnExactOppositeWordRow.holds Try.pinned (OpenSpec.ofChange fnExactOppositeWordWrong)

/-- 'laws.FnExactValidWord': WHATEVER THE INPUT: true; the input reads as it did. -/
def fnExactValidWordSpec : ChangeSpec := { name := "fnExactValidWord", fn := fun _ => fun
  | [d1, d2] => { results := [.lit (.bool true)], args := [d1, d2] }
  | _ => none }
def fnExactValidWordRow : OpenClaim := { program := "ytpaindlgmfihkaa", sum := "d0cf2923c467607a1d5bd1fff5e0f34fd96b7ad939f35aaa1cf4849d3a9bf71e", func := "loop.example/g01281/laws.FnExactValidWord", spec := "fnExactValidWord", apart := false }
def FnExactValidWordSaid : Prop := fnExactValidWordRow.holds Try.pinned (OpenSpec.ofChange fnExactValidWordSpec)

/-- ITS FALSE NEIGHBOUR: 'it returns false'. Refute it at one input. -/
def fnExactValidWordWrong : ChangeSpec := { name := "fnExactValidWord", fn := fun _ => fun
  | [d1, d2] => { results := [.lit (.bool false)], args := [d1, d2] }
  | _ => none }
def FnExactValidWordWrongFalsely : Prop := fnExactValidWordRow.holds Try.pinned (OpenSpec.ofChange fnExactValidWordWrong)

/-- 'laws.FnExactMostCoins': WHATEVER THE INPUT: true; the input reads as it did. -/
def fnExactMostCoinsSpec : ChangeSpec := { name := "fnExactMostCoins", fn := fun _ => fun
  | [d1, d2] => { results := [.lit (.bool true)], args := [d1, d2] }
  | _ => none }
def fnExactMostCoinsRow : OpenClaim := { program := "ytpaindlgmfihkaa", sum := "d0cf2923c467607a1d5bd1fff5e0f34fd96b7ad939f35aaa1cf4849d3a9bf71e", func := "loop.example/g01281/laws.FnExactMostCoins", spec := "fnExactMostCoins", apart := false }
def FnExactMostCoinsSaid : Prop := fnExactMostCoinsRow.holds Try.pinned (OpenSpec.ofChange fnExactMostCoinsSpec)

/-- ITS FALSE NEIGHBOUR: 'it returns false'. Refute it at one input. -/
def fnExactMostCoinsWrong : ChangeSpec := { name := "fnExactMostCoins", fn := fun _ => fun
  | [d1, d2] => { results := [.lit (.bool false)], args := [d1, d2] }
  | _ => none }
def FnExactMostCoinsWrongFalsely : Prop := fnExactMostCoinsRow.holds Try.pinned (OpenSpec.ofChange fnExactMostCoinsWrong)

/-- 'laws.FnExactWordAt': WHATEVER THE INPUT: true; the input reads as it did. -/
def fnExactWordAtSpec : ChangeSpec := { name := "fnExactWordAt", fn := fun _ => fun
  | [d1, d2] => { results := [.lit (.bool true)], args := [d1, d2] }
  | _ => none }
def fnExactWordAtRow : OpenClaim := { program := "ytpaindlgmfihkaa", sum := "d0cf2923c467607a1d5bd1fff5e0f34fd96b7ad939f35aaa1cf4849d3a9bf71e", func := "loop.example/g01281/laws.FnExactWordAt", spec := "fnExactWordAt", apart := false }
def FnExactWordAtSaid : Prop := fnExactWordAtRow.holds Try.pinned (OpenSpec.ofChange fnExactWordAtSpec)

/-- ITS FALSE NEIGHBOUR: 'it returns false'. Refute it at one input. -/
def fnExactWordAtWrong : ChangeSpec := { name := "fnExactWordAt", fn := fun _ => fun
  | [d1, d2] => { results := [.lit (.bool false)], args := [d1, d2] }
  | _ => none }
def FnExactWordAtWrongFalsely : Prop := fnExactWordAtRow.holds Try.pinned (OpenSpec.ofChange fnExactWordAtWrong)

/-- 'laws.FnExactNumberOfWord': WHATEVER THE INPUT: true; the input reads as it did. -/
def fnExactNumberOfWordSpec : ChangeSpec := { name := "fnExactNumberOfWord", fn := fun _ => fun
  | [d1, d2] => { results := [.lit (.bool true)], args := [d1, d2] }
  | _ => none }
def fnExactNumberOfWordRow : OpenClaim := { program := "ytpaindlgmfihkaa", sum := "d0cf2923c467607a1d5bd1fff5e0f34fd96b7ad939f35aaa1cf4849d3a9bf71e", func := "loop.example/g01281/laws.FnExactNumberOfWord", spec := "fnExactNumberOfWord", apart := false }
def FnExactNumberOfWordSaid : Prop := fnExactNumberOfWordRow.holds Try.pinned (OpenSpec.ofChange fnExactNumberOfWordSpec)

/-- ITS FALSE NEIGHBOUR: 'it returns false'. Refute it at one input. -/
def fnExactNumberOfWordWrong : ChangeSpec := { name := "fnExactNumberOfWord", fn := fun _ => fun
  | [d1, d2] => { results := [.lit (.bool false)], args := [d1, d2] }
  | _ => none }
def FnExactNumberOfWordWrongFalsely : Prop := fnExactNumberOfWordRow.holds Try.pinned (OpenSpec.ofChange fnExactNumberOfWordWrong)

/-- 'laws.FnExactNextWord': WHATEVER THE INPUT: true; the input reads as it did. -/
def fnExactNextWordSpec : ChangeSpec := { name := "fnExactNextWord", fn := fun _ => fun
  | [d1, d2] => { results := [.lit (.bool true)], args := [d1, d2] }
  | _ => none }
def fnExactNextWordRow : OpenClaim := { program := "ytpaindlgmfihkaa", sum := "d0cf2923c467607a1d5bd1fff5e0f34fd96b7ad939f35aaa1cf4849d3a9bf71e", func := "loop.example/g01281/laws.FnExactNextWord", spec := "fnExactNextWord", apart := false }
def FnExactNextWordSaid : Prop := fnExactNextWordRow.holds Try.pinned (OpenSpec.ofChange fnExactNextWordSpec)

/-- ITS FALSE NEIGHBOUR: 'it returns false'. Refute it at one input. -/
def fnExactNextWordWrong : ChangeSpec := { name := "fnExactNextWord", fn := fun _ => fun
  | [d1, d2] => { results := [.lit (.bool false)], args := [d1, d2] }
  | _ => none }
def FnExactNextWordWrongFalsely : Prop := fnExactNextWordRow.holds Try.pinned (OpenSpec.ofChange fnExactNextWordWrong)

/-- 'laws.FnExactSameFixed': WHATEVER THE INPUT: true; the input reads as it did. -/
def fnExactSameFixedSpec : ChangeSpec := { name := "fnExactSameFixed", fn := fun _ => fun
  | [d1, d2] => { results := [.lit (.bool true)], args := [d1, d2] }
  | _ => none }
def fnExactSameFixedRow : OpenClaim := { program := "ytpaindlgmfihkaa", sum := "d0cf2923c467607a1d5bd1fff5e0f34fd96b7ad939f35aaa1cf4849d3a9bf71e", func := "loop.example/g01281/laws.FnExactSameFixed", spec := "fnExactSameFixed", apart := false }
def FnExactSameFixedSaid : Prop := fnExactSameFixedRow.holds Try.pinned (OpenSpec.ofChange fnExactSameFixedSpec)

/-- ITS FALSE NEIGHBOUR: 'it returns false'. Refute it at one input. -/
def fnExactSameFixedWrong : ChangeSpec := { name := "fnExactSameFixed", fn := fun _ => fun
  | [d1, d2] => { results := [.lit (.bool false)], args := [d1, d2] }
  | _ => none }
def FnExactSameFixedWrongFalsely : Prop := fnExactSameFixedRow.holds Try.pinned (OpenSpec.ofChange fnExactSameFixedWrong)

/-- 'laws.FnExactValidFixed': WHATEVER THE INPUT: true; the input reads as it did. -/
def fnExactValidFixedSpec : ChangeSpec := { name := "fnExactValidFixed", fn := fun _ => fun
  | [d] => { results := [.lit (.bool true)], args := [d] }
  | _ => none }
def fnExactValidFixedRow : OpenClaim := { program := "ytpaindlgmfihkaa", sum := "d0cf2923c467607a1d5bd1fff5e0f34fd96b7ad939f35aaa1cf4849d3a9bf71e", func := "loop.example/g01281/laws.FnExactValidFixed", spec := "fnExactValidFixed", unfollowed := true, recurses := true, apart := false }
def FnExactValidFixedSaid : Prop := fnExactValidFixedRow.holds Try.pinned (OpenSpec.ofChange fnExactValidFixedSpec)

/-- ITS FALSE NEIGHBOUR: 'it returns false'. Refute it at one input. -/
def fnExactValidFixedWrong : ChangeSpec := { name := "fnExactValidFixed", fn := fun _ => fun
  | [d] => { results := [.lit (.bool false)], args := [d] }
  | _ => none }
def FnExactValidFixedWrongFalsely : Prop := fnExactValidFixedRow.holds Try.pinned (OpenSpec.ofChange fnExactValidFixedWrong)

/-- 'laws.FnExactIsBalanced': WHATEVER THE INPUT: true; the input reads as it did. -/
def fnExactIsBalancedSpec : ChangeSpec := { name := "fnExactIsBalanced", fn := fun _ => fun
  | [d] => { results := [.lit (.bool true)], args := [d] }
  | _ => none }
def fnExactIsBalancedRow : OpenClaim := { program := "ytpaindlgmfihkaa", sum := "d0cf2923c467607a1d5bd1fff5e0f34fd96b7ad939f35aaa1cf4849d3a9bf71e", func := "loop.example/g01281/laws.FnExactIsBalanced", spec := "fnExactIsBalanced", unfollowed := true, recurses := true, apart := false }
def FnExactIsBalancedSaid : Prop := fnExactIsBalancedRow.holds Try.pinned (OpenSpec.ofChange fnExactIsBalancedSpec)

/-- ITS FALSE NEIGHBOUR: 'it returns false'. Refute it at one input. -/
def fnExactIsBalancedWrong : ChangeSpec := { name := "fnExactIsBalanced", fn := fun _ => fun
  | [d] => { results := [.lit (.bool false)], args := [d] }
  | _ => none }
def FnExactIsBalancedWrongFalsely : Prop := fnExactIsBalancedRow.holds Try.pinned (OpenSpec.ofChange fnExactIsBalancedWrong)

/-- 'laws.FnExactMakeFixed': WHATEVER THE INPUT: true; the input reads as it did. -/
def fnExactMakeFixedSpec : ChangeSpec := { name := "fnExactMakeFixed", fn := fun _ => fun
  | [d1, d2, d3] => { results := [.lit (.bool true)], args := [d1, d2, d3] }
  | _ => none }
def fnExactMakeFixedRow : OpenClaim := { program := "ytpaindlgmfihkaa", sum := "d0cf2923c467607a1d5bd1fff5e0f34fd96b7ad939f35aaa1cf4849d3a9bf71e", func := "loop.example/g01281/laws.FnExactMakeFixed", spec := "fnExactMakeFixed", apart := false }
def FnExactMakeFixedSaid : Prop := fnExactMakeFixedRow.holds Try.pinned (OpenSpec.ofChange fnExactMakeFixedSpec)

/-- ITS FALSE NEIGHBOUR: 'it returns false'. Refute it at one input. -/
def fnExactMakeFixedWrong : ChangeSpec := { name := "fnExactMakeFixed", fn := fun _ => fun
  | [d1, d2, d3] => { results := [.lit (.bool false)], args := [d1, d2, d3] }
  | _ => none }
def FnExactMakeFixedWrongFalsely : Prop := fnExactMakeFixedRow.holds Try.pinned (OpenSpec.ofChange fnExactMakeFixedWrong)

/-- 'laws.FnExactAddWord': WHATEVER THE INPUT: true; the input reads as it did. -/
def fnExactAddWordSpec : ChangeSpec := { name := "fnExactAddWord", fn := fun _ => fun
  | [d1, d2] => { results := [.lit (.bool true)], args := [d1, d2] }
  | _ => none }
def fnExactAddWordRow : OpenClaim := { program := "ytpaindlgmfihkaa", sum := "d0cf2923c467607a1d5bd1fff5e0f34fd96b7ad939f35aaa1cf4849d3a9bf71e", func := "loop.example/g01281/laws.FnExactAddWord", spec := "fnExactAddWord", unfollowed := true, recurses := true, apart := false }
def FnExactAddWordSaid : Prop := fnExactAddWordRow.holds Try.pinned (OpenSpec.ofChange fnExactAddWordSpec)

/-- ITS FALSE NEIGHBOUR: 'it returns false'. Refute it at one input. -/
def fnExactAddWordWrong : ChangeSpec := { name := "fnExactAddWord", fn := fun _ => fun
  | [d1, d2] => { results := [.lit (.bool false)], args := [d1, d2] }
  | _ => none }
def FnExactAddWordWrongFalsely : Prop := fnExactAddWordRow.holds Try.pinned (OpenSpec.ofChange fnExactAddWordWrong)

/-- 'laws.FnExactDropWord': WHATEVER THE INPUT: true; the input reads as it did. -/
def fnExactDropWordSpec : ChangeSpec := { name := "fnExactDropWord", fn := fun _ => fun
  | [d1, d2] => { results := [.lit (.bool true)], args := [d1, d2] }
  | _ => none }
def fnExactDropWordRow : OpenClaim := { program := "ytpaindlgmfihkaa", sum := "d0cf2923c467607a1d5bd1fff5e0f34fd96b7ad939f35aaa1cf4849d3a9bf71e", func := "loop.example/g01281/laws.FnExactDropWord", spec := "fnExactDropWord", unfollowed := true, recurses := true, apart := false }
def FnExactDropWordSaid : Prop := fnExactDropWordRow.holds Try.pinned (OpenSpec.ofChange fnExactDropWordSpec)

/-- ITS FALSE NEIGHBOUR: 'it returns false'. Refute it at one input. -/
def fnExactDropWordWrong : ChangeSpec := { name := "fnExactDropWord", fn := fun _ => fun
  | [d1, d2] => { results := [.lit (.bool false)], args := [d1, d2] }
  | _ => none }
def FnExactDropWordWrongFalsely : Prop := fnExactDropWordRow.holds Try.pinned (OpenSpec.ofChange fnExactDropWordWrong)

/-- 'laws.FnExactPanOf': WHATEVER THE INPUT: true; the input reads as it did. -/
def fnExactPanOfSpec : ChangeSpec := { name := "fnExactPanOf", fn := fun _ => fun
  | [d1, d2] => { results := [.lit (.bool true)], args := [d1, d2] }
  | _ => none }
def fnExactPanOfRow : OpenClaim := { program := "ytpaindlgmfihkaa", sum := "d0cf2923c467607a1d5bd1fff5e0f34fd96b7ad939f35aaa1cf4849d3a9bf71e", func := "loop.example/g01281/laws.FnExactPanOf", spec := "fnExactPanOf", unfollowed := true, recurses := true, apart := false }
def FnExactPanOfSaid : Prop := fnExactPanOfRow.holds Try.pinned (OpenSpec.ofChange fnExactPanOfSpec)

/-- ITS FALSE NEIGHBOUR: 'it returns false'. Refute it at one input. -/
def fnExactPanOfWrong : ChangeSpec := { name := "fnExactPanOf", fn := fun _ => fun
  | [d1, d2] => { results := [.lit (.bool false)], args := [d1, d2] }
  | _ => none }
def FnExactPanOfWrongFalsely : Prop := fnExactPanOfRow.holds Try.pinned (OpenSpec.ofChange fnExactPanOfWrong)

/-- 'laws.FnExactSeenOf': WHATEVER THE INPUT: true; the input reads as it did. -/
def fnExactSeenOfSpec : ChangeSpec := { name := "fnExactSeenOf", fn := fun _ => fun
  | [d1, d2] => { results := [.lit (.bool true)], args := [d1, d2] }
  | _ => none }
def fnExactSeenOfRow : OpenClaim := { program := "ytpaindlgmfihkaa", sum := "d0cf2923c467607a1d5bd1fff5e0f34fd96b7ad939f35aaa1cf4849d3a9bf71e", func := "loop.example/g01281/laws.FnExactSeenOf", spec := "fnExactSeenOf", unfollowed := true, recurses := true, apart := false }
def FnExactSeenOfSaid : Prop := fnExactSeenOfRow.holds Try.pinned (OpenSpec.ofChange fnExactSeenOfSpec)

/-- ITS FALSE NEIGHBOUR: 'it returns false'. Refute it at one input. -/
def fnExactSeenOfWrong : ChangeSpec := { name := "fnExactSeenOf", fn := fun _ => fun
  | [d1, d2] => { results := [.lit (.bool false)], args := [d1, d2] }
  | _ => none }
def FnExactSeenOfWrongFalsely : Prop := fnExactSeenOfRow.holds Try.pinned (OpenSpec.ofChange fnExactSeenOfWrong)

/-- 'laws.FnExactIsClear': WHATEVER THE INPUT: true; the input reads as it did. -/
def fnExactIsClearSpec : ChangeSpec := { name := "fnExactIsClear", fn := fun _ => fun
  | [d] => { results := [.lit (.bool true)], args := [d] }
  | _ => none }
def fnExactIsClearRow : OpenClaim := { program := "ytpaindlgmfihkaa", sum := "d0cf2923c467607a1d5bd1fff5e0f34fd96b7ad939f35aaa1cf4849d3a9bf71e", func := "loop.example/g01281/laws.FnExactIsClear", spec := "fnExactIsClear", unfollowed := true, recurses := true, apart := false }
def FnExactIsClearSaid : Prop := fnExactIsClearRow.holds Try.pinned (OpenSpec.ofChange fnExactIsClearSpec)

/-- ITS FALSE NEIGHBOUR: 'it returns false'. Refute it at one input. -/
def fnExactIsClearWrong : ChangeSpec := { name := "fnExactIsClear", fn := fun _ => fun
  | [d] => { results := [.lit (.bool false)], args := [d] }
  | _ => none }
def FnExactIsClearWrongFalsely : Prop := fnExactIsClearRow.holds Try.pinned (OpenSpec.ofChange fnExactIsClearWrong)

/-- 'laws.FnExactConfused': WHATEVER THE INPUT: true; the input reads as it did. -/
def fnExactConfusedSpec : ChangeSpec := { name := "fnExactConfused", fn := fun _ => fun
  | [d] => { results := [.lit (.bool true)], args := [d] }
  | _ => none }
def fnExactConfusedRow : OpenClaim := { program := "ytpaindlgmfihkaa", sum := "d0cf2923c467607a1d5bd1fff5e0f34fd96b7ad939f35aaa1cf4849d3a9bf71e", func := "loop.example/g01281/laws.FnExactConfused", spec := "fnExactConfused", unfollowed := true, recurses := true, apart := false }
def FnExactConfusedSaid : Prop := fnExactConfusedRow.holds Try.pinned (OpenSpec.ofChange fnExactConfusedSpec)

/-- ITS FALSE NEIGHBOUR: 'it returns false'. Refute it at one input. -/
def fnExactConfusedWrong : ChangeSpec := { name := "fnExactConfused", fn := fun _ => fun
  | [d] => { results := [.lit (.bool false)], args := [d] }
  | _ => none }
def FnExactConfusedWrongFalsely : Prop := fnExactConfusedRow.holds Try.pinned (OpenSpec.ofChange fnExactConfusedWrong)

/-- 'laws.FnExactFixedText': WHATEVER THE INPUT: true; the input reads as it did. -/
def fnExactFixedTextSpec : ChangeSpec := { name := "fnExactFixedText", fn := fun _ => fun
  | [d] => { results := [.lit (.bool true)], args := [d] }
  | _ => none }
def fnExactFixedTextRow : OpenClaim := { program := "ytpaindlgmfihkaa", sum := "d0cf2923c467607a1d5bd1fff5e0f34fd96b7ad939f35aaa1cf4849d3a9bf71e", func := "loop.example/g01281/laws.FnExactFixedText", spec := "fnExactFixedText", inPlace := ["internal/abi.NoEscape", "internal/bytealg.MakeNoZero"], unfollowed := true, recurses := true, apart := false }
def FnExactFixedTextSaid : Prop := fnExactFixedTextRow.holds Try.pinned (OpenSpec.ofChange fnExactFixedTextSpec)

/-- ITS FALSE NEIGHBOUR: 'it returns false'. Refute it at one input. -/
def fnExactFixedTextWrong : ChangeSpec := { name := "fnExactFixedText", fn := fun _ => fun
  | [d] => { results := [.lit (.bool false)], args := [d] }
  | _ => none }
def FnExactFixedTextWrongFalsely : Prop := fnExactFixedTextRow.holds Try.pinned (OpenSpec.ofChange fnExactFixedTextWrong)

/-- 'laws.FnExactDecode': WHATEVER THE INPUT: true; the input reads as it did. -/
def fnExactDecodeSpec : ChangeSpec := { name := "fnExactDecode", fn := fun _ => fun
  | [d1, d2] => { results := [.lit (.bool true)], args := [d1, d2] }
  | _ => none }
def fnExactDecodeRow : OpenClaim := { program := "ytpaindlgmfihkaa", sum := "d0cf2923c467607a1d5bd1fff5e0f34fd96b7ad939f35aaa1cf4849d3a9bf71e", func := "loop.example/g01281/laws.FnExactDecode", spec := "fnExactDecode", unfollowed := true, recurses := true, apart := false }
def FnExactDecodeSaid : Prop := fnExactDecodeRow.holds Try.pinned (OpenSpec.ofChange fnExactDecodeSpec)

/-- ITS FALSE NEIGHBOUR: 'it returns false'. Refute it at one input. -/
def fnExactDecodeWrong : ChangeSpec := { name := "fnExactDecode", fn := fun _ => fun
  | [d1, d2] => { results := [.lit (.bool false)], args := [d1, d2] }
  | _ => none }
def FnExactDecodeWrongFalsely : Prop := fnExactDecodeRow.holds Try.pinned (OpenSpec.ofChange fnExactDecodeWrong)

/-- 'laws.FnExactLeastDistance': WHATEVER THE INPUT: true; the input reads as it did. -/
def fnExactLeastDistanceSpec : ChangeSpec := { name := "fnExactLeastDistance", fn := fun _ => fun
  | [d] => { results := [.lit (.bool true)], args := [d] }
  | _ => none }
def fnExactLeastDistanceRow : OpenClaim := { program := "ytpaindlgmfihkaa", sum := "d0cf2923c467607a1d5bd1fff5e0f34fd96b7ad939f35aaa1cf4849d3a9bf71e", func := "loop.example/g01281/laws.FnExactLeastDistance", spec := "fnExactLeastDistance", unfollowed := true, recurses := true, apart := false }
def FnExactLeastDistanceSaid : Prop := fnExactLeastDistanceRow.holds Try.pinned (OpenSpec.ofChange fnExactLeastDistanceSpec)

/-- ITS FALSE NEIGHBOUR: 'it returns false'. Refute it at one input. -/
def fnExactLeastDistanceWrong : ChangeSpec := { name := "fnExactLeastDistance", fn := fun _ => fun
  | [d] => { results := [.lit (.bool false)], args := [d] }
  | _ => none }
def FnExactLeastDistanceWrongFalsely : Prop := fnExactLeastDistanceRow.holds Try.pinned (OpenSpec.ofChange fnExactLeastDistanceWrong)

/-- 'laws.FnExactDecodeNear': WHATEVER THE INPUT: true; the input reads as it did. -/
def fnExactDecodeNearSpec : ChangeSpec := { name := "fnExactDecodeNear", fn := fun _ => fun
  | [d1, d2, d3] => { results := [.lit (.bool true)], args := [d1, d2, d3] }
  | _ => none }
def fnExactDecodeNearRow : OpenClaim := { program := "ytpaindlgmfihkaa", sum := "d0cf2923c467607a1d5bd1fff5e0f34fd96b7ad939f35aaa1cf4849d3a9bf71e", func := "loop.example/g01281/laws.FnExactDecodeNear", spec := "fnExactDecodeNear", unfollowed := true, recurses := true, apart := false }
def FnExactDecodeNearSaid : Prop := fnExactDecodeNearRow.holds Try.pinned (OpenSpec.ofChange fnExactDecodeNearSpec)

/-- ITS FALSE NEIGHBOUR: 'it returns false'. Refute it at one input. -/
def fnExactDecodeNearWrong : ChangeSpec := { name := "fnExactDecodeNear", fn := fun _ => fun
  | [d1, d2, d3] => { results := [.lit (.bool false)], args := [d1, d2, d3] }
  | _ => none }
def FnExactDecodeNearWrongFalsely : Prop := fnExactDecodeNearRow.holds Try.pinned (OpenSpec.ofChange fnExactDecodeNearWrong)

/- THE SECOND FORM. 'bulk': how many values and letters a reading holds, each counted each time it is reached (what is shared counts as often as it is met; a slice's spare places count too). A statement '..UptoSaid' is the law's where the arguments, and the package variables that the reading takes, are together of bulk at most 1048576: NARROWER than '..Said'. Prove '..Said' where nothing that the law and all that it calls make is longer than what came in: it says more and counts as full. Else prove '..UptoSaid'. A law counts once. -/
mutual
def uptoBulk {H : Type} : DataW H → Nat
  | .lit (.string bytes) => bytes.length + 1
  | .lit _ => 1
  | .nil => 1
  | .ptr d => uptoBulk d + 1
  | .slice elems spare => uptoBulkAll elems + uptoBulkAll spare + 1
  | .agg parts => uptoBulkAll parts + 1
  | .iface _ d => uptoBulk d + 1
  | .map entries => uptoBulkEntries entries + 1
  | .held _ => 1
def uptoBulkAll {H : Type} : List (DataW H) → Nat
  | [] => 0
  | d :: r => uptoBulk d + uptoBulkAll r
def uptoBulkEntries {H : Type} : List (Lit × DataW H) → Nat
  | [] => 0
  | x :: r => uptoBulkEntry x + uptoBulkEntries r
def uptoBulkEntry {H : Type} : Lit × DataW H → Nat
  | (.string bytes, d) => bytes.length + uptoBulk d + 1
  | (_, d) => uptoBulk d + 1
 end
def uptoSmall : (H : Type) → List (DataW H) → Bool := fun _ ds => decide (uptoBulkAll ds ≤ 1048576)
def OpenSpec.upto (s : _root_.Go.ChangeSpec) : _root_.Go.OpenSpec := { _root_.Go.OpenSpec.ofChange s with cond := some uptoSmall }

/-- 'laws.FnExactOppositeWord', WHERE WHAT IT READS IS OF BULK AT MOST 1048576: true; the input reads as it did. -/
def fnExactOppositeWordUptoRow : OpenClaim := { program := "ytpaindlgmfihkaa", sum := "d0cf2923c467607a1d5bd1fff5e0f34fd96b7ad939f35aaa1cf4849d3a9bf71e", func := "loop.example/g01281/laws.FnExactOppositeWord", spec := "fnExactOppositeWord", apart := false, narrowed := true }
def FnExactOppositeWordUptoSaid : Prop := fnExactOppositeWordUptoRow.holds Try.pinned (OpenSpec.upto fnExactOppositeWordSpec)

/-- 'laws.FnExactValidWord', WHERE WHAT IT READS IS OF BULK AT MOST 1048576: true; the input reads as it did. -/
def fnExactValidWordUptoRow : OpenClaim := { program := "ytpaindlgmfihkaa", sum := "d0cf2923c467607a1d5bd1fff5e0f34fd96b7ad939f35aaa1cf4849d3a9bf71e", func := "loop.example/g01281/laws.FnExactValidWord", spec := "fnExactValidWord", apart := false, narrowed := true }
def FnExactValidWordUptoSaid : Prop := fnExactValidWordUptoRow.holds Try.pinned (OpenSpec.upto fnExactValidWordSpec)

/-- 'laws.FnExactMostCoins', WHERE WHAT IT READS IS OF BULK AT MOST 1048576: true; the input reads as it did. -/
def fnExactMostCoinsUptoRow : OpenClaim := { program := "ytpaindlgmfihkaa", sum := "d0cf2923c467607a1d5bd1fff5e0f34fd96b7ad939f35aaa1cf4849d3a9bf71e", func := "loop.example/g01281/laws.FnExactMostCoins", spec := "fnExactMostCoins", apart := false, narrowed := true }
def FnExactMostCoinsUptoSaid : Prop := fnExactMostCoinsUptoRow.holds Try.pinned (OpenSpec.upto fnExactMostCoinsSpec)

/-- 'laws.FnExactWordAt', WHERE WHAT IT READS IS OF BULK AT MOST 1048576: true; the input reads as it did. -/
def fnExactWordAtUptoRow : OpenClaim := { program := "ytpaindlgmfihkaa", sum := "d0cf2923c467607a1d5bd1fff5e0f34fd96b7ad939f35aaa1cf4849d3a9bf71e", func := "loop.example/g01281/laws.FnExactWordAt", spec := "fnExactWordAt", apart := false, narrowed := true }
def FnExactWordAtUptoSaid : Prop := fnExactWordAtUptoRow.holds Try.pinned (OpenSpec.upto fnExactWordAtSpec)

/-- 'laws.FnExactNumberOfWord', WHERE WHAT IT READS IS OF BULK AT MOST 1048576: true; the input reads as it did. -/
def fnExactNumberOfWordUptoRow : OpenClaim := { program := "ytpaindlgmfihkaa", sum := "d0cf2923c467607a1d5bd1fff5e0f34fd96b7ad939f35aaa1cf4849d3a9bf71e", func := "loop.example/g01281/laws.FnExactNumberOfWord", spec := "fnExactNumberOfWord", apart := false, narrowed := true }
def FnExactNumberOfWordUptoSaid : Prop := fnExactNumberOfWordUptoRow.holds Try.pinned (OpenSpec.upto fnExactNumberOfWordSpec)

/-- 'laws.FnExactNextWord', WHERE WHAT IT READS IS OF BULK AT MOST 1048576: true; the input reads as it did. -/
def fnExactNextWordUptoRow : OpenClaim := { program := "ytpaindlgmfihkaa", sum := "d0cf2923c467607a1d5bd1fff5e0f34fd96b7ad939f35aaa1cf4849d3a9bf71e", func := "loop.example/g01281/laws.FnExactNextWord", spec := "fnExactNextWord", apart := false, narrowed := true }
def FnExactNextWordUptoSaid : Prop := fnExactNextWordUptoRow.holds Try.pinned (OpenSpec.upto fnExactNextWordSpec)

/-- 'laws.FnExactSameFixed', WHERE WHAT IT READS IS OF BULK AT MOST 1048576: true; the input reads as it did. -/
def fnExactSameFixedUptoRow : OpenClaim := { program := "ytpaindlgmfihkaa", sum := "d0cf2923c467607a1d5bd1fff5e0f34fd96b7ad939f35aaa1cf4849d3a9bf71e", func := "loop.example/g01281/laws.FnExactSameFixed", spec := "fnExactSameFixed", apart := false, narrowed := true }
def FnExactSameFixedUptoSaid : Prop := fnExactSameFixedUptoRow.holds Try.pinned (OpenSpec.upto fnExactSameFixedSpec)

/-- 'laws.FnExactValidFixed', WHERE WHAT IT READS IS OF BULK AT MOST 1048576: true; the input reads as it did. -/
def fnExactValidFixedUptoRow : OpenClaim := { program := "ytpaindlgmfihkaa", sum := "d0cf2923c467607a1d5bd1fff5e0f34fd96b7ad939f35aaa1cf4849d3a9bf71e", func := "loop.example/g01281/laws.FnExactValidFixed", spec := "fnExactValidFixed", unfollowed := true, recurses := true, apart := false, narrowed := true }
def FnExactValidFixedUptoSaid : Prop := fnExactValidFixedUptoRow.holds Try.pinned (OpenSpec.upto fnExactValidFixedSpec)

/-- 'laws.FnExactIsBalanced', WHERE WHAT IT READS IS OF BULK AT MOST 1048576: true; the input reads as it did. -/
def fnExactIsBalancedUptoRow : OpenClaim := { program := "ytpaindlgmfihkaa", sum := "d0cf2923c467607a1d5bd1fff5e0f34fd96b7ad939f35aaa1cf4849d3a9bf71e", func := "loop.example/g01281/laws.FnExactIsBalanced", spec := "fnExactIsBalanced", unfollowed := true, recurses := true, apart := false, narrowed := true }
def FnExactIsBalancedUptoSaid : Prop := fnExactIsBalancedUptoRow.holds Try.pinned (OpenSpec.upto fnExactIsBalancedSpec)

/-- 'laws.FnExactMakeFixed', WHERE WHAT IT READS IS OF BULK AT MOST 1048576: true; the input reads as it did. -/
def fnExactMakeFixedUptoRow : OpenClaim := { program := "ytpaindlgmfihkaa", sum := "d0cf2923c467607a1d5bd1fff5e0f34fd96b7ad939f35aaa1cf4849d3a9bf71e", func := "loop.example/g01281/laws.FnExactMakeFixed", spec := "fnExactMakeFixed", apart := false, narrowed := true }
def FnExactMakeFixedUptoSaid : Prop := fnExactMakeFixedUptoRow.holds Try.pinned (OpenSpec.upto fnExactMakeFixedSpec)

/-- 'laws.FnExactAddWord', WHERE WHAT IT READS IS OF BULK AT MOST 1048576: true; the input reads as it did. -/
def fnExactAddWordUptoRow : OpenClaim := { program := "ytpaindlgmfihkaa", sum := "d0cf2923c467607a1d5bd1fff5e0f34fd96b7ad939f35aaa1cf4849d3a9bf71e", func := "loop.example/g01281/laws.FnExactAddWord", spec := "fnExactAddWord", unfollowed := true, recurses := true, apart := false, narrowed := true }
def FnExactAddWordUptoSaid : Prop := fnExactAddWordUptoRow.holds Try.pinned (OpenSpec.upto fnExactAddWordSpec)

/-- 'laws.FnExactDropWord', WHERE WHAT IT READS IS OF BULK AT MOST 1048576: true; the input reads as it did. -/
def fnExactDropWordUptoRow : OpenClaim := { program := "ytpaindlgmfihkaa", sum := "d0cf2923c467607a1d5bd1fff5e0f34fd96b7ad939f35aaa1cf4849d3a9bf71e", func := "loop.example/g01281/laws.FnExactDropWord", spec := "fnExactDropWord", unfollowed := true, recurses := true, apart := false, narrowed := true }
def FnExactDropWordUptoSaid : Prop := fnExactDropWordUptoRow.holds Try.pinned (OpenSpec.upto fnExactDropWordSpec)

/-- 'laws.FnExactPanOf', WHERE WHAT IT READS IS OF BULK AT MOST 1048576: true; the input reads as it did. -/
def fnExactPanOfUptoRow : OpenClaim := { program := "ytpaindlgmfihkaa", sum := "d0cf2923c467607a1d5bd1fff5e0f34fd96b7ad939f35aaa1cf4849d3a9bf71e", func := "loop.example/g01281/laws.FnExactPanOf", spec := "fnExactPanOf", unfollowed := true, recurses := true, apart := false, narrowed := true }
def FnExactPanOfUptoSaid : Prop := fnExactPanOfUptoRow.holds Try.pinned (OpenSpec.upto fnExactPanOfSpec)

/-- 'laws.FnExactSeenOf', WHERE WHAT IT READS IS OF BULK AT MOST 1048576: true; the input reads as it did. -/
def fnExactSeenOfUptoRow : OpenClaim := { program := "ytpaindlgmfihkaa", sum := "d0cf2923c467607a1d5bd1fff5e0f34fd96b7ad939f35aaa1cf4849d3a9bf71e", func := "loop.example/g01281/laws.FnExactSeenOf", spec := "fnExactSeenOf", unfollowed := true, recurses := true, apart := false, narrowed := true }
def FnExactSeenOfUptoSaid : Prop := fnExactSeenOfUptoRow.holds Try.pinned (OpenSpec.upto fnExactSeenOfSpec)

/-- 'laws.FnExactIsClear', WHERE WHAT IT READS IS OF BULK AT MOST 1048576: true; the input reads as it did. -/
def fnExactIsClearUptoRow : OpenClaim := { program := "ytpaindlgmfihkaa", sum := "d0cf2923c467607a1d5bd1fff5e0f34fd96b7ad939f35aaa1cf4849d3a9bf71e", func := "loop.example/g01281/laws.FnExactIsClear", spec := "fnExactIsClear", unfollowed := true, recurses := true, apart := false, narrowed := true }
def FnExactIsClearUptoSaid : Prop := fnExactIsClearUptoRow.holds Try.pinned (OpenSpec.upto fnExactIsClearSpec)

/-- 'laws.FnExactConfused', WHERE WHAT IT READS IS OF BULK AT MOST 1048576: true; the input reads as it did. -/
def fnExactConfusedUptoRow : OpenClaim := { program := "ytpaindlgmfihkaa", sum := "d0cf2923c467607a1d5bd1fff5e0f34fd96b7ad939f35aaa1cf4849d3a9bf71e", func := "loop.example/g01281/laws.FnExactConfused", spec := "fnExactConfused", unfollowed := true, recurses := true, apart := false, narrowed := true }
def FnExactConfusedUptoSaid : Prop := fnExactConfusedUptoRow.holds Try.pinned (OpenSpec.upto fnExactConfusedSpec)

/-- 'laws.FnExactFixedText', WHERE WHAT IT READS IS OF BULK AT MOST 1048576: true; the input reads as it did. -/
def fnExactFixedTextUptoRow : OpenClaim := { program := "ytpaindlgmfihkaa", sum := "d0cf2923c467607a1d5bd1fff5e0f34fd96b7ad939f35aaa1cf4849d3a9bf71e", func := "loop.example/g01281/laws.FnExactFixedText", spec := "fnExactFixedText", inPlace := ["internal/abi.NoEscape", "internal/bytealg.MakeNoZero"], unfollowed := true, recurses := true, apart := false, narrowed := true }
def FnExactFixedTextUptoSaid : Prop := fnExactFixedTextUptoRow.holds Try.pinned (OpenSpec.upto fnExactFixedTextSpec)

/-- 'laws.FnExactDecode', WHERE WHAT IT READS IS OF BULK AT MOST 1048576: true; the input reads as it did. -/
def fnExactDecodeUptoRow : OpenClaim := { program := "ytpaindlgmfihkaa", sum := "d0cf2923c467607a1d5bd1fff5e0f34fd96b7ad939f35aaa1cf4849d3a9bf71e", func := "loop.example/g01281/laws.FnExactDecode", spec := "fnExactDecode", unfollowed := true, recurses := true, apart := false, narrowed := true }
def FnExactDecodeUptoSaid : Prop := fnExactDecodeUptoRow.holds Try.pinned (OpenSpec.upto fnExactDecodeSpec)

/-- 'laws.FnExactLeastDistance', WHERE WHAT IT READS IS OF BULK AT MOST 1048576: true; the input reads as it did. -/
def fnExactLeastDistanceUptoRow : OpenClaim := { program := "ytpaindlgmfihkaa", sum := "d0cf2923c467607a1d5bd1fff5e0f34fd96b7ad939f35aaa1cf4849d3a9bf71e", func := "loop.example/g01281/laws.FnExactLeastDistance", spec := "fnExactLeastDistance", unfollowed := true, recurses := true, apart := false, narrowed := true }
def FnExactLeastDistanceUptoSaid : Prop := fnExactLeastDistanceUptoRow.holds Try.pinned (OpenSpec.upto fnExactLeastDistanceSpec)

/-- 'laws.FnExactDecodeNear', WHERE WHAT IT READS IS OF BULK AT MOST 1048576: true; the input reads as it did. -/
def fnExactDecodeNearUptoRow : OpenClaim := { program := "ytpaindlgmfihkaa", sum := "d0cf2923c467607a1d5bd1fff5e0f34fd96b7ad939f35aaa1cf4849d3a9bf71e", func := "loop.example/g01281/laws.FnExactDecodeNear", spec := "fnExactDecodeNear", unfollowed := true, recurses := true, apart := false, narrowed := true }
def FnExactDecodeNearUptoSaid : Prop := fnExactDecodeNearUptoRow.holds Try.pinned (OpenSpec.upto fnExactDecodeNearSpec)

end Rows
end Go.Proofs.Ytpaindlgmfihkaa
