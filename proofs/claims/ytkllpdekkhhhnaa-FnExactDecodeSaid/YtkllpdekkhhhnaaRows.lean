/-
  No cell of these rows narrows 'for every input' (looked for: loops, veiled, ifaces, maps, wideKeys, modest, calm, conditions, laid).
  DERIVED. THE GIVEN ROWS OF THIS SEAT. 6 by the template 'for every input the law returns true; each argument reads behind the call as it read before'; 0 by the template 'total and deterministic' (their statements: YtkllpdekkhhhnaaTotals.lean).
  GIVEN WITH THE SEED: the statements are not yours to turn. If you find one false, say at which input.
  Laid BY PROGRAM, IN A SANDBOX (cutbox-rows.mjs): the forced cells as the released guide's own fill.sh prints them over the translation 02a1224700121c3c… (all of the seat's roots in one cut). By AI agents, Wed Nov 11 2026. No macro, syntax, notation, axiom, sorry.
-/
import Derived.Test.YtkllpdekkhhhnaaChecked
import GoSem.Claim
import GoSem.ClaimJoined
import GoSem.ClaimMapViews
import Derived.JoinedTies
import Derived.KernelRfl
namespace Go.Proofs.Ytkllpdekkhhhnaa
/- THE CELL 'sum', in the pinned program and in every row, IS THE sha256 OF THE DUMP (.gsa) THAT YtkllpdekkhhhnaaProg.lean LOADS. Nothing in Lean hashes anything: it is a label: what it is worth is what the hold of that sum in a sandbox is worth. -/
noncomputable def Try.pinned : Pinned := { name := "ytkllpdekkhhhnaa", sum := "02a1224700121c3c717b6590f630c34a2f5fba58022f97d22696d97240c30fb5", checked := Try.checked }
namespace Rows
def none {H : Type} : Left H := { results := [], args := [] }

/-- 'laws.FnExactSeenOf': WHATEVER THE INPUT: true; the input reads as it did. -/
def fnExactSeenOfSpec : ChangeSpec := { name := "fnExactSeenOf", fn := fun _ => fun
  | [d1, d2] => { results := [.lit (.bool true)], args := [d1, d2] }
  | _ => none }
def fnExactSeenOfRow : OpenClaim := { program := "ytkllpdekkhhhnaa", sum := "02a1224700121c3c717b6590f630c34a2f5fba58022f97d22696d97240c30fb5", func := "loop.example/g01281/laws.FnExactSeenOf", spec := "fnExactSeenOf", unfollowed := true, recurses := true, apart := false }
def FnExactSeenOfSaid : Prop := fnExactSeenOfRow.holds Try.pinned (OpenSpec.ofChange fnExactSeenOfSpec)

/-- ITS FALSE NEIGHBOUR: 'it returns false'. Refute it at one input. -/
def fnExactSeenOfWrong : ChangeSpec := { name := "fnExactSeenOf", fn := fun _ => fun
  | [d1, d2] => { results := [.lit (.bool false)], args := [d1, d2] }
  | _ => none }
def FnExactSeenOfWrongFalsely : Prop := fnExactSeenOfRow.holds Try.pinned (OpenSpec.ofChange fnExactSeenOfWrong)

/-- 'laws.FnExactIsClear': WHATEVER THE INPUT: true; the input reads as it did. -/
def fnExactIsClearSpec : ChangeSpec := { name := "fnExactIsClear", fn := fun _ => fun
  | [d] => { results := [.lit (.bool true)], args := [d] }
  | _ => none }
def fnExactIsClearRow : OpenClaim := { program := "ytkllpdekkhhhnaa", sum := "02a1224700121c3c717b6590f630c34a2f5fba58022f97d22696d97240c30fb5", func := "loop.example/g01281/laws.FnExactIsClear", spec := "fnExactIsClear", unfollowed := true, recurses := true, apart := false }
def FnExactIsClearSaid : Prop := fnExactIsClearRow.holds Try.pinned (OpenSpec.ofChange fnExactIsClearSpec)

/-- ITS FALSE NEIGHBOUR: 'it returns false'. Refute it at one input. -/
def fnExactIsClearWrong : ChangeSpec := { name := "fnExactIsClear", fn := fun _ => fun
  | [d] => { results := [.lit (.bool false)], args := [d] }
  | _ => none }
def FnExactIsClearWrongFalsely : Prop := fnExactIsClearRow.holds Try.pinned (OpenSpec.ofChange fnExactIsClearWrong)

/-- 'laws.FnExactConfused': WHATEVER THE INPUT: true; the input reads as it did. -/
def fnExactConfusedSpec : ChangeSpec := { name := "fnExactConfused", fn := fun _ => fun
  | [d] => { results := [.lit (.bool true)], args := [d] }
  | _ => none }
def fnExactConfusedRow : OpenClaim := { program := "ytkllpdekkhhhnaa", sum := "02a1224700121c3c717b6590f630c34a2f5fba58022f97d22696d97240c30fb5", func := "loop.example/g01281/laws.FnExactConfused", spec := "fnExactConfused", unfollowed := true, recurses := true, apart := false }
def FnExactConfusedSaid : Prop := fnExactConfusedRow.holds Try.pinned (OpenSpec.ofChange fnExactConfusedSpec)

/-- ITS FALSE NEIGHBOUR: 'it returns false'. Refute it at one input. -/
def fnExactConfusedWrong : ChangeSpec := { name := "fnExactConfused", fn := fun _ => fun
  | [d] => { results := [.lit (.bool false)], args := [d] }
  | _ => none }
def FnExactConfusedWrongFalsely : Prop := fnExactConfusedRow.holds Try.pinned (OpenSpec.ofChange fnExactConfusedWrong)

/-- 'laws.FnExactDecode': WHATEVER THE INPUT: true; the input reads as it did. -/
def fnExactDecodeSpec : ChangeSpec := { name := "fnExactDecode", fn := fun _ => fun
  | [d1, d2] => { results := [.lit (.bool true)], args := [d1, d2] }
  | _ => none }
def fnExactDecodeRow : OpenClaim := { program := "ytkllpdekkhhhnaa", sum := "02a1224700121c3c717b6590f630c34a2f5fba58022f97d22696d97240c30fb5", func := "loop.example/g01281/laws.FnExactDecode", spec := "fnExactDecode", unfollowed := true, recurses := true, apart := false }
def FnExactDecodeSaid : Prop := fnExactDecodeRow.holds Try.pinned (OpenSpec.ofChange fnExactDecodeSpec)

/-- ITS FALSE NEIGHBOUR: 'it returns false'. Refute it at one input. -/
def fnExactDecodeWrong : ChangeSpec := { name := "fnExactDecode", fn := fun _ => fun
  | [d1, d2] => { results := [.lit (.bool false)], args := [d1, d2] }
  | _ => none }
def FnExactDecodeWrongFalsely : Prop := fnExactDecodeRow.holds Try.pinned (OpenSpec.ofChange fnExactDecodeWrong)

/-- 'laws.FnExactLeastDistance': WHATEVER THE INPUT: true; the input reads as it did. -/
def fnExactLeastDistanceSpec : ChangeSpec := { name := "fnExactLeastDistance", fn := fun _ => fun
  | [d] => { results := [.lit (.bool true)], args := [d] }
  | _ => none }
def fnExactLeastDistanceRow : OpenClaim := { program := "ytkllpdekkhhhnaa", sum := "02a1224700121c3c717b6590f630c34a2f5fba58022f97d22696d97240c30fb5", func := "loop.example/g01281/laws.FnExactLeastDistance", spec := "fnExactLeastDistance", unfollowed := true, recurses := true, apart := false }
def FnExactLeastDistanceSaid : Prop := fnExactLeastDistanceRow.holds Try.pinned (OpenSpec.ofChange fnExactLeastDistanceSpec)

/-- ITS FALSE NEIGHBOUR: 'it returns false'. Refute it at one input. -/
def fnExactLeastDistanceWrong : ChangeSpec := { name := "fnExactLeastDistance", fn := fun _ => fun
  | [d] => { results := [.lit (.bool false)], args := [d] }
  | _ => none }
def FnExactLeastDistanceWrongFalsely : Prop := fnExactLeastDistanceRow.holds Try.pinned (OpenSpec.ofChange fnExactLeastDistanceWrong)

/-- 'laws.FnExactDecodeNear': WHATEVER THE INPUT: true; the input reads as it did. -/
def fnExactDecodeNearSpec : ChangeSpec := { name := "fnExactDecodeNear", fn := fun _ => fun
  | [d1, d2, d3] => { results := [.lit (.bool true)], args := [d1, d2, d3] }
  | _ => none }
def fnExactDecodeNearRow : OpenClaim := { program := "ytkllpdekkhhhnaa", sum := "02a1224700121c3c717b6590f630c34a2f5fba58022f97d22696d97240c30fb5", func := "loop.example/g01281/laws.FnExactDecodeNear", spec := "fnExactDecodeNear", unfollowed := true, recurses := true, apart := false }
def FnExactDecodeNearSaid : Prop := fnExactDecodeNearRow.holds Try.pinned (OpenSpec.ofChange fnExactDecodeNearSpec)

/-- ITS FALSE NEIGHBOUR: 'it returns false'. Refute it at one input. -/
def fnExactDecodeNearWrong : ChangeSpec := { name := "fnExactDecodeNear", fn := fun _ => fun
  | [d1, d2, d3] => { results := [.lit (.bool false)], args := [d1, d2, d3] }
  | _ => none }
def FnExactDecodeNearWrongFalsely : Prop := fnExactDecodeNearRow.holds Try.pinned (OpenSpec.ofChange fnExactDecodeNearWrong)

/- THE SECOND FORM. 'bulk': how many values and letters a reading holds, each counted each time it is reached (what is shared counts as often as it is met; a slice's spare places count too). A statement '..UptoSaid' is the law's where the arguments, and the package variables that the reading takes, are together of bulk at most 1048576: NARROWER than '..Said'. Prove '..Said' where nothing that the law and all that it calls make is longer than what came in: it says more and counts as full. Else prove '..UptoSaid'. A law counts once. -/
mutual
def uptoBulk {H : Type} : DataW H → Nat
  | .lit (.string bytes) => bytes.length + 1
  | .lit _ => 1
  | .nil => 1
  | .ptr d => uptoBulk d + 1
  | .slice elems spare => uptoBulkAll elems + uptoBulkAll spare + 1
  | .agg parts => uptoBulkAll parts + 1
  | .iface _ d => uptoBulk d + 1
  | .map entries => uptoBulkEntries entries + 1
  | .held _ => 1
def uptoBulkAll {H : Type} : List (DataW H) → Nat
  | [] => 0
  | d :: r => uptoBulk d + uptoBulkAll r
def uptoBulkEntries {H : Type} : List (Lit × DataW H) → Nat
  | [] => 0
  | x :: r => uptoBulkEntry x + uptoBulkEntries r
def uptoBulkEntry {H : Type} : Lit × DataW H → Nat
  | (.string bytes, d) => bytes.length + uptoBulk d + 1
  | (_, d) => uptoBulk d + 1
 end
def uptoSmall : (H : Type) → List (DataW H) → Bool := fun _ ds => decide (uptoBulkAll ds ≤ 1048576)
def OpenSpec.upto (s : _root_.Go.ChangeSpec) : _root_.Go.OpenSpec := { _root_.Go.OpenSpec.ofChange s with cond := some uptoSmall }

/-- 'laws.FnExactSeenOf', WHERE WHAT IT READS IS OF BULK AT MOST 1048576: true; the input reads as it did. -/
def fnExactSeenOfUptoRow : OpenClaim := { program := "ytkllpdekkhhhnaa", sum := "02a1224700121c3c717b6590f630c34a2f5fba58022f97d22696d97240c30fb5", func := "loop.example/g01281/laws.FnExactSeenOf", spec := "fnExactSeenOf", unfollowed := true, recurses := true, apart := false, narrowed := true }
def FnExactSeenOfUptoSaid : Prop := fnExactSeenOfUptoRow.holds Try.pinned (OpenSpec.upto fnExactSeenOfSpec)

/-- 'laws.FnExactIsClear', WHERE WHAT IT READS IS OF BULK AT MOST 1048576: true; the input reads as it did. -/
def fnExactIsClearUptoRow : OpenClaim := { program := "ytkllpdekkhhhnaa", sum := "02a1224700121c3c717b6590f630c34a2f5fba58022f97d22696d97240c30fb5", func := "loop.example/g01281/laws.FnExactIsClear", spec := "fnExactIsClear", unfollowed := true, recurses := true, apart := false, narrowed := true }
def FnExactIsClearUptoSaid : Prop := fnExactIsClearUptoRow.holds Try.pinned (OpenSpec.upto fnExactIsClearSpec)

/-- 'laws.FnExactConfused', WHERE WHAT IT READS IS OF BULK AT MOST 1048576: true; the input reads as it did. -/
def fnExactConfusedUptoRow : OpenClaim := { program := "ytkllpdekkhhhnaa", sum := "02a1224700121c3c717b6590f630c34a2f5fba58022f97d22696d97240c30fb5", func := "loop.example/g01281/laws.FnExactConfused", spec := "fnExactConfused", unfollowed := true, recurses := true, apart := false, narrowed := true }
def FnExactConfusedUptoSaid : Prop := fnExactConfusedUptoRow.holds Try.pinned (OpenSpec.upto fnExactConfusedSpec)

/-- 'laws.FnExactDecode', WHERE WHAT IT READS IS OF BULK AT MOST 1048576: true; the input reads as it did. -/
def fnExactDecodeUptoRow : OpenClaim := { program := "ytkllpdekkhhhnaa", sum := "02a1224700121c3c717b6590f630c34a2f5fba58022f97d22696d97240c30fb5", func := "loop.example/g01281/laws.FnExactDecode", spec := "fnExactDecode", unfollowed := true, recurses := true, apart := false, narrowed := true }
def FnExactDecodeUptoSaid : Prop := fnExactDecodeUptoRow.holds Try.pinned (OpenSpec.upto fnExactDecodeSpec)

/-- 'laws.FnExactLeastDistance', WHERE WHAT IT READS IS OF BULK AT MOST 1048576: true; the input reads as it did. -/
def fnExactLeastDistanceUptoRow : OpenClaim := { program := "ytkllpdekkhhhnaa", sum := "02a1224700121c3c717b6590f630c34a2f5fba58022f97d22696d97240c30fb5", func := "loop.example/g01281/laws.FnExactLeastDistance", spec := "fnExactLeastDistance", unfollowed := true, recurses := true, apart := false, narrowed := true }
def FnExactLeastDistanceUptoSaid : Prop := fnExactLeastDistanceUptoRow.holds Try.pinned (OpenSpec.upto fnExactLeastDistanceSpec)

/-- 'laws.FnExactDecodeNear', WHERE WHAT IT READS IS OF BULK AT MOST 1048576: true; the input reads as it did. -/
def fnExactDecodeNearUptoRow : OpenClaim := { program := "ytkllpdekkhhhnaa", sum := "02a1224700121c3c717b6590f630c34a2f5fba58022f97d22696d97240c30fb5", func := "loop.example/g01281/laws.FnExactDecodeNear", spec := "fnExactDecodeNear", unfollowed := true, recurses := true, apart := false, narrowed := true }
def FnExactDecodeNearUptoSaid : Prop := fnExactDecodeNearUptoRow.holds Try.pinned (OpenSpec.upto fnExactDecodeNearSpec)

end Rows
end Go.Proofs.Ytkllpdekkhhhnaa
