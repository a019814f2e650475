/-
  No cell of these rows narrows 'for every input' (looked for: loops, veiled, ifaces, maps, wideKeys, modest, calm, conditions, laid).
  DERIVED. THE GIVEN ROWS OF THIS SEAT. 7 by the template 'for every input the law returns true; each argument reads behind the call as it read before'; 0 by the template 'total and deterministic' (their statements: YteohhkfeeeifaaaTotals.lean).
  GIVEN WITH THE SEED: the statements are not yours to turn. If you find one false, say at which input.
  Laid BY PROGRAM, IN A SANDBOX (cutbox-rows.mjs): the forced cells as the released guide's own fill.sh prints them over the translation 19f7122b7f8b5cd9… (all of the seat's roots in one cut). By AI agents, Wed Nov 11 2026. No macro, syntax, notation, axiom, sorry.
-/
import Derived.Test.YteohhkfeeeifaaaChecked
import GoSem.Claim
import GoSem.ClaimJoined
import GoSem.ClaimMapViews
import Derived.JoinedTies
import Derived.KernelRfl
namespace Go.Proofs.Yteohhkfeeeifaaa
/- THE CELL 'sum', in the pinned program and in every row, IS THE sha256 OF THE DUMP (.gsa) THAT YteohhkfeeeifaaaProg.lean LOADS. Nothing in Lean hashes anything: it is a label: what it is worth is what the hold of that sum in a sandbox is worth. -/
noncomputable def Try.pinned : Pinned := { name := "yteohhkfeeeifaaa", sum := "19f7122b7f8b5cd9af35524b8bf4ca1e32f0ac5afe018253431e422b188ab84b", checked := Try.checked }
namespace Rows
def none {H : Type} : Left H := { results := [], args := [] }

/-- 'laws.FnExactOppositeWord': WHATEVER THE INPUT: true; the input reads as it did. -/
def fnExactOppositeWordSpec : ChangeSpec := { name := "fnExactOppositeWord", fn := fun _ => fun
  | [d] => { results := [.lit (.bool true)], args := [d] }
  | _ => none }
def fnExactOppositeWordRow : OpenClaim := { program := "yteohhkfeeeifaaa", sum := "19f7122b7f8b5cd9af35524b8bf4ca1e32f0ac5afe018253431e422b188ab84b", func := "loop.example/g01281/laws.FnExactOppositeWord", spec := "fnExactOppositeWord", apart := false }
def FnExactOppositeWordSaid : Prop := fnExactOppositeWordRow.holds Try.pinned (OpenSpec.ofChange fnExactOppositeWordSpec)

/-- ITS FALSE NEIGHBOUR: 'it returns false'. Refute it at one input. -/
def fnExactOppositeWordWrong : ChangeSpec := { name := "fnExactOppositeWord", fn := fun _ => fun
  | [d] => { results := [.lit (.bool false)], args := [d] }
  | _ => none }
def FnExactOppositeWordWrongFalsely : Prop := fnExactOppositeWordRow.holds Try.pinned (OpenSpec.ofChange fnExactOppositeWordWrong)

/-- 'laws.FnExactValidWord': WHATEVER THE INPUT: true; the input reads as it did. -/
def fnExactValidWordSpec : ChangeSpec := { name := "fnExactValidWord", fn := fun _ => fun
  | [d1, d2] => { results := [.lit (.bool true)], args := [d1, d2] }
  | _ => none }
def fnExactValidWordRow : OpenClaim := { program := "yteohhkfeeeifaaa", sum := "19f7122b7f8b5cd9af35524b8bf4ca1e32f0ac5afe018253431e422b188ab84b", func := "loop.example/g01281/laws.FnExactValidWord", spec := "fnExactValidWord", apart := false }
def FnExactValidWordSaid : Prop := fnExactValidWordRow.holds Try.pinned (OpenSpec.ofChange fnExactValidWordSpec)

/-- ITS FALSE NEIGHBOUR: 'it returns false'. Refute it at one input. -/
def fnExactValidWordWrong : ChangeSpec := { name := "fnExactValidWord", fn := fun _ => fun
  | [d1, d2] => { results := [.lit (.bool false)], args := [d1, d2] }
  | _ => none }
def FnExactValidWordWrongFalsely : Prop := fnExactValidWordRow.holds Try.pinned (OpenSpec.ofChange fnExactValidWordWrong)

/-- 'laws.FnExactMostCoins': WHATEVER THE INPUT: true; the input reads as it did. -/
def fnExactMostCoinsSpec : ChangeSpec := { name := "fnExactMostCoins", fn := fun _ => fun
  | [d1, d2] => { results := [.lit (.bool true)], args := [d1, d2] }
  | _ => none }
def fnExactMostCoinsRow : OpenClaim := { program := "yteohhkfeeeifaaa", sum := "19f7122b7f8b5cd9af35524b8bf4ca1e32f0ac5afe018253431e422b188ab84b", func := "loop.example/g01281/laws.FnExactMostCoins", spec := "fnExactMostCoins", apart := false }
def FnExactMostCoinsSaid : Prop := fnExactMostCoinsRow.holds Try.pinned (OpenSpec.ofChange fnExactMostCoinsSpec)

/-- ITS FALSE NEIGHBOUR: 'it returns false'. Refute it at one input. -/
def fnExactMostCoinsWrong : ChangeSpec := { name := "fnExactMostCoins", fn := fun _ => fun
  | [d1, d2] => { results := [.lit (.bool false)], args := [d1, d2] }
  | _ => none }
def FnExactMostCoinsWrongFalsely : Prop := fnExactMostCoinsRow.holds Try.pinned (OpenSpec.ofChange fnExactMostCoinsWrong)

/-- 'laws.FnExactWordAt': WHATEVER THE INPUT: true; the input reads as it did. -/
def fnExactWordAtSpec : ChangeSpec := { name := "fnExactWordAt", fn := fun _ => fun
  | [d1, d2] => { results := [.lit (.bool true)], args := [d1, d2] }
  | _ => none }
def fnExactWordAtRow : OpenClaim := { program := "yteohhkfeeeifaaa", sum := "19f7122b7f8b5cd9af35524b8bf4ca1e32f0ac5afe018253431e422b188ab84b", func := "loop.example/g01281/laws.FnExactWordAt", spec := "fnExactWordAt", apart := false }
def FnExactWordAtSaid : Prop := fnExactWordAtRow.holds Try.pinned (OpenSpec.ofChange fnExactWordAtSpec)

/-- ITS FALSE NEIGHBOUR: 'it returns false'. Refute it at one input. -/
def fnExactWordAtWrong : ChangeSpec := { name := "fnExactWordAt", fn := fun _ => fun
  | [d1, d2] => { results := [.lit (.bool false)], args := [d1, d2] }
  | _ => none }
def FnExactWordAtWrongFalsely : Prop := fnExactWordAtRow.holds Try.pinned (OpenSpec.ofChange fnExactWordAtWrong)

/-- 'laws.FnExactNumberOfWord': WHATEVER THE INPUT: true; the input reads as it did. -/
def fnExactNumberOfWordSpec : ChangeSpec := { name := "fnExactNumberOfWord", fn := fun _ => fun
  | [d1, d2] => { results := [.lit (.bool true)], args := [d1, d2] }
  | _ => none }
def fnExactNumberOfWordRow : OpenClaim := { program := "yteohhkfeeeifaaa", sum := "19f7122b7f8b5cd9af35524b8bf4ca1e32f0ac5afe018253431e422b188ab84b", func := "loop.example/g01281/laws.FnExactNumberOfWord", spec := "fnExactNumberOfWord", apart := false }
def FnExactNumberOfWordSaid : Prop := fnExactNumberOfWordRow.holds Try.pinned (OpenSpec.ofChange fnExactNumberOfWordSpec)

/-- ITS FALSE NEIGHBOUR: 'it returns false'. Refute it at one input. -/
def fnExactNumberOfWordWrong : ChangeSpec := { name := "fnExactNumberOfWord", fn := fun _ => fun
  | [d1, d2] => { results := [.lit (.bool false)], args := [d1, d2] }
  | _ => none }
def FnExactNumberOfWordWrongFalsely : Prop := fnExactNumberOfWordRow.holds Try.pinned (OpenSpec.ofChange fnExactNumberOfWordWrong)

/-- 'laws.FnExactNextWord': WHATEVER THE INPUT: true; the input reads as it did. -/
def fnExactNextWordSpec : ChangeSpec := { name := "fnExactNextWord", fn := fun _ => fun
  | [d1, d2] => { results := [.lit (.bool true)], args := [d1, d2] }
  | _ => none }
def fnExactNextWordRow : OpenClaim := { program := "yteohhkfeeeifaaa", sum := "19f7122b7f8b5cd9af35524b8bf4ca1e32f0ac5afe018253431e422b188ab84b", func := "loop.example/g01281/laws.FnExactNextWord", spec := "fnExactNextWord", apart := false }
def FnExactNextWordSaid : Prop := fnExactNextWordRow.holds Try.pinned (OpenSpec.ofChange fnExactNextWordSpec)

/-- ITS FALSE NEIGHBOUR: 'it returns false'. Refute it at one input. -/
def fnExactNextWordWrong : ChangeSpec := { name := "fnExactNextWord", fn := fun _ => fun
  | [d1, d2] => { results := [.lit (.bool false)], args := [d1, d2] }
  | _ => none }
def FnExactNextWordWrongFalsely : Prop := fnExactNextWordRow.holds Try.pinned (OpenSpec.ofChange fnExactNextWordWrong)

/-- 'laws.FnExactMakeFixed': WHATEVER THE INPUT: true; the input reads as it did. -/
def fnExactMakeFixedSpec : ChangeSpec := { name := "fnExactMakeFixed", fn := fun _ => fun
  | [d1, d2, d3] => { results := [.lit (.bool true)], args := [d1, d2, d3] }
  | _ => none }
def fnExactMakeFixedRow : OpenClaim := { program := "yteohhkfeeeifaaa", sum := "19f7122b7f8b5cd9af35524b8bf4ca1e32f0ac5afe018253431e422b188ab84b", func := "loop.example/g01281/laws.FnExactMakeFixed", spec := "fnExactMakeFixed", apart := false }
def FnExactMakeFixedSaid : Prop := fnExactMakeFixedRow.holds Try.pinned (OpenSpec.ofChange fnExactMakeFixedSpec)

/-- ITS FALSE NEIGHBOUR: 'it returns false'. Refute it at one input. -/
def fnExactMakeFixedWrong : ChangeSpec := { name := "fnExactMakeFixed", fn := fun _ => fun
  | [d1, d2, d3] => { results := [.lit (.bool false)], args := [d1, d2, d3] }
  | _ => none }
def FnExactMakeFixedWrongFalsely : Prop := fnExactMakeFixedRow.holds Try.pinned (OpenSpec.ofChange fnExactMakeFixedWrong)

/- THE SECOND FORM. 'bulk': how many values and letters a reading holds, each counted each time it is reached (what is shared counts as often as it is met; a slice's spare places count too). A statement '..UptoSaid' is the law's where the arguments, and the package variables that the reading takes, are together of bulk at most 1048576: NARROWER than '..Said'. Prove '..Said' where nothing that the law and all that it calls make is longer than what came in: it says more and counts as full. Else prove '..UptoSaid'. A law counts once. -/
mutual
def uptoBulk {H : Type} : DataW H → Nat
  | .lit (.string bytes) => bytes.length + 1
  | .lit _ => 1
  | .nil => 1
  | .ptr d => uptoBulk d + 1
  | .slice elems spare => uptoBulkAll elems + uptoBulkAll spare + 1
  | .agg parts => uptoBulkAll parts + 1
  | .iface _ d => uptoBulk d + 1
  | .map entries => uptoBulkEntries entries + 1
  | .held _ => 1
def uptoBulkAll {H : Type} : List (DataW H) → Nat
  | [] => 0
  | d :: r => uptoBulk d + uptoBulkAll r
def uptoBulkEntries {H : Type} : List (Lit × DataW H) → Nat
  | [] => 0
  | x :: r => uptoBulkEntry x + uptoBulkEntries r
def uptoBulkEntry {H : Type} : Lit × DataW H → Nat
  | (.string bytes, d) => bytes.length + uptoBulk d + 1
  | (_, d) => uptoBulk d + 1
 end
def uptoSmall : (H : Type) → List (DataW H) → Bool := fun _ ds => decide (uptoBulkAll ds ≤ 1048576)
def OpenSpec.upto (s : _root_.Go.ChangeSpec) : _root_.Go.OpenSpec := { _root_.Go.OpenSpec.ofChange s with cond := some uptoSmall }

/-- 'laws.FnExactOppositeWord', WHERE WHAT IT READS IS OF BULK AT MOST 1048576: true; the input reads as it did. -/
def fnExactOppositeWordUptoRow : OpenClaim := { program := "yteohhkfeeeifaaa", sum := "19f7122b7f8b5cd9af35524b8bf4ca1e32f0ac5afe018253431e422b188ab84b", func := "loop.example/g01281/laws.FnExactOppositeWord", spec := "fnExactOppositeWord", apart := false, narrowed := true }
def FnExactOppositeWordUptoSaid : Prop := fnExactOppositeWordUptoRow.holds Try.pinned (OpenSpec.upto fnExactOppositeWordSpec)

/-- 'laws.FnExactValidWord', WHERE WHAT IT READS IS OF BULK AT MOST 1048576: true; the input reads as it did. -/
def fnExactValidWordUptoRow : OpenClaim := { program := "yteohhkfeeeifaaa", sum := "19f7122b7f8b5cd9af35524b8bf4ca1e32f0ac5afe018253431e422b188ab84b", func := "loop.example/g01281/laws.FnExactValidWord", spec := "fnExactValidWord", apart := false, narrowed := true }
def FnExactValidWordUptoSaid : Prop := fnExactValidWordUptoRow.holds Try.pinned (OpenSpec.upto fnExactValidWordSpec)

/-- 'laws.FnExactMostCoins', WHERE WHAT IT READS IS OF BULK AT MOST 1048576: true; the input reads as it did. -/
def fnExactMostCoinsUptoRow : OpenClaim := { program := "yteohhkfeeeifaaa", sum := "19f7122b7f8b5cd9af35524b8bf4ca1e32f0ac5afe018253431e422b188ab84b", func := "loop.example/g01281/laws.FnExactMostCoins", spec := "fnExactMostCoins", apart := false, narrowed := true }
def FnExactMostCoinsUptoSaid : Prop := fnExactMostCoinsUptoRow.holds Try.pinned (OpenSpec.upto fnExactMostCoinsSpec)

/-- 'laws.FnExactWordAt', WHERE WHAT IT READS IS OF BULK AT MOST 1048576: true; the input reads as it did. -/
def fnExactWordAtUptoRow : OpenClaim := { program := "yteohhkfeeeifaaa", sum := "19f7122b7f8b5cd9af35524b8bf4ca1e32f0ac5afe018253431e422b188ab84b", func := "loop.example/g01281/laws.FnExactWordAt", spec := "fnExactWordAt", apart := false, narrowed := true }
def FnExactWordAtUptoSaid : Prop := fnExactWordAtUptoRow.holds Try.pinned (OpenSpec.upto fnExactWordAtSpec)

/-- 'laws.FnExactNumberOfWord', WHERE WHAT IT READS IS OF BULK AT MOST 1048576: true; the input reads as it did. -/
def fnExactNumberOfWordUptoRow : OpenClaim := { program := "yteohhkfeeeifaaa", sum := "19f7122b7f8b5cd9af35524b8bf4ca1e32f0ac5afe018253431e422b188ab84b", func := "loop.example/g01281/laws.FnExactNumberOfWord", spec := "fnExactNumberOfWord", apart := false, narrowed := true }
def FnExactNumberOfWordUptoSaid : Prop := fnExactNumberOfWordUptoRow.holds Try.pinned (OpenSpec.upto fnExactNumberOfWordSpec)

/-- 'laws.FnExactNextWord', WHERE WHAT IT READS IS OF BULK AT MOST 1048576: true; the input reads as it did. -/
def fnExactNextWordUptoRow : OpenClaim := { program := "yteohhkfeeeifaaa", sum := "19f7122b7f8b5cd9af35524b8bf4ca1e32f0ac5afe018253431e422b188ab84b", func := "loop.example/g01281/laws.FnExactNextWord", spec := "fnExactNextWord", apart := false, narrowed := true }
def FnExactNextWordUptoSaid : Prop := fnExactNextWordUptoRow.holds Try.pinned (OpenSpec.upto fnExactNextWordSpec)

/-- 'laws.FnExactMakeFixed', WHERE WHAT IT READS IS OF BULK AT MOST 1048576: true; the input reads as it did. -/
def fnExactMakeFixedUptoRow : OpenClaim := { program := "yteohhkfeeeifaaa", sum := "19f7122b7f8b5cd9af35524b8bf4ca1e32f0ac5afe018253431e422b188ab84b", func := "loop.example/g01281/laws.FnExactMakeFixed", spec := "fnExactMakeFixed", apart := false, narrowed := true }
def FnExactMakeFixedUptoSaid : Prop := fnExactMakeFixedUptoRow.holds Try.pinned (OpenSpec.upto fnExactMakeFixedSpec)

end Rows
end Go.Proofs.Yteohhkfeeeifaaa
