/-
  No cell of these rows narrows 'for every input' (looked for: loops, veiled, ifaces, maps, wideKeys, modest, calm, conditions, laid).
  DERIVED. THE GIVEN ROWS OF THIS SEAT. 6 by the template 'for every input the law returns true; each argument reads behind the call as it read before'; 0 by the template 'total and deterministic' (their statements: YtonifpgaagdohaaTotals.lean).
  GIVEN WITH THE SEED: the statements are not yours to turn. If you find one false, say at which input.
  Laid BY PROGRAM, IN A SANDBOX (cutbox-rows.mjs): the forced cells as the released guide's own fill.sh prints them over the translation 8c54e0d80487c9cf… (all of the seat's roots in one cut). By AI agents, Wed Nov 11 2026. No macro, syntax, notation, axiom, sorry.
-/
import Derived.Test.YtonifpgaagdohaaChecked
import GoSem.Claim
import GoSem.ClaimJoined
import GoSem.ClaimMapViews
import Derived.JoinedTies
import Derived.KernelRfl
namespace Go.Proofs.Ytonifpgaagdohaa
/- THE CELL 'sum', in the pinned program and in every row, IS THE sha256 OF THE DUMP (.gsa) THAT YtonifpgaagdohaaProg.lean LOADS. Nothing in Lean hashes anything: it is a label: what it is worth is what the hold of that sum in a sandbox is worth. -/
noncomputable def Try.pinned : Pinned := { name := "ytonifpgaagdohaa", sum := "8c54e0d80487c9cf64927587b259c84fceefc1999c8da15d5e3d02b9162841b7", checked := Try.checked }
namespace Rows
def none {H : Type} : Left H := { results := [], args := [] }

/-- 'laws.FnExactSameFixed': WHATEVER THE INPUT: true; the input reads as it did. -/
def fnExactSameFixedSpec : ChangeSpec := { name := "fnExactSameFixed", fn := fun _ => fun
  | [d1, d2] => { results := [.lit (.bool true)], args := [d1, d2] }
  | _ => none }
def fnExactSameFixedRow : OpenClaim := { program := "ytonifpgaagdohaa", sum := "8c54e0d80487c9cf64927587b259c84fceefc1999c8da15d5e3d02b9162841b7", func := "loop.example/g01281/laws.FnExactSameFixed", spec := "fnExactSameFixed", apart := false }
def FnExactSameFixedSaid : Prop := fnExactSameFixedRow.holds Try.pinned (OpenSpec.ofChange fnExactSameFixedSpec)

/-- ITS FALSE NEIGHBOUR: 'it returns false'. Refute it at one input. -/
def fnExactSameFixedWrong : ChangeSpec := { name := "fnExactSameFixed", fn := fun _ => fun
  | [d1, d2] => { results := [.lit (.bool false)], args := [d1, d2] }
  | _ => none }
def FnExactSameFixedWrongFalsely : Prop := fnExactSameFixedRow.holds Try.pinned (OpenSpec.ofChange fnExactSameFixedWrong)

/-- 'laws.FnExactValidFixed': WHATEVER THE INPUT: true; the input reads as it did. -/
def fnExactValidFixedSpec : ChangeSpec := { name := "fnExactValidFixed", fn := fun _ => fun
  | [d] => { results := [.lit (.bool true)], args := [d] }
  | _ => none }
def fnExactValidFixedRow : OpenClaim := { program := "ytonifpgaagdohaa", sum := "8c54e0d80487c9cf64927587b259c84fceefc1999c8da15d5e3d02b9162841b7", func := "loop.example/g01281/laws.FnExactValidFixed", spec := "fnExactValidFixed", unfollowed := true, recurses := true, apart := false }
def FnExactValidFixedSaid : Prop := fnExactValidFixedRow.holds Try.pinned (OpenSpec.ofChange fnExactValidFixedSpec)

/-- ITS FALSE NEIGHBOUR: 'it returns false'. Refute it at one input. -/
def fnExactValidFixedWrong : ChangeSpec := { name := "fnExactValidFixed", fn := fun _ => fun
  | [d] => { results := [.lit (.bool false)], args := [d] }
  | _ => none }
def FnExactValidFixedWrongFalsely : Prop := fnExactValidFixedRow.holds Try.pinned (OpenSpec.ofChange fnExactValidFixedWrong)

/-- 'laws.FnExactIsBalanced': WHATEVER THE INPUT: true; the input reads as it did. -/
def fnExactIsBalancedSpec : ChangeSpec := { name := "fnExactIsBalanced", fn := fun _ => fun
  | [d] => { results := [.lit (.bool true)], args := [d] }
  | _ => none }
def fnExactIsBalancedRow : OpenClaim := { program := "ytonifpgaagdohaa", sum := "8c54e0d80487c9cf64927587b259c84fceefc1999c8da15d5e3d02b9162841b7", func := "loop.example/g01281/laws.FnExactIsBalanced", spec := "fnExactIsBalanced", unfollowed := true, recurses := true, apart := false }
def FnExactIsBalancedSaid : Prop := fnExactIsBalancedRow.holds Try.pinned (OpenSpec.ofChange fnExactIsBalancedSpec)

/-- ITS FALSE NEIGHBOUR: 'it returns false'. Refute it at one input. -/
def fnExactIsBalancedWrong : ChangeSpec := { name := "fnExactIsBalanced", fn := fun _ => fun
  | [d] => { results := [.lit (.bool false)], args := [d] }
  | _ => none }
def FnExactIsBalancedWrongFalsely : Prop := fnExactIsBalancedRow.holds Try.pinned (OpenSpec.ofChange fnExactIsBalancedWrong)

/-- 'laws.FnExactAddWord': WHATEVER THE INPUT: true; the input reads as it did. -/
def fnExactAddWordSpec : ChangeSpec := { name := "fnExactAddWord", fn := fun _ => fun
  | [d1, d2] => { results := [.lit (.bool true)], args := [d1, d2] }
  | _ => none }
def fnExactAddWordRow : OpenClaim := { program := "ytonifpgaagdohaa", sum := "8c54e0d80487c9cf64927587b259c84fceefc1999c8da15d5e3d02b9162841b7", func := "loop.example/g01281/laws.FnExactAddWord", spec := "fnExactAddWord", unfollowed := true, recurses := true, apart := false }
def FnExactAddWordSaid : Prop := fnExactAddWordRow.holds Try.pinned (OpenSpec.ofChange fnExactAddWordSpec)

/-- ITS FALSE NEIGHBOUR: 'it returns false'. Refute it at one input. -/
def fnExactAddWordWrong : ChangeSpec := { name := "fnExactAddWord", fn := fun _ => fun
  | [d1, d2] => { results := [.lit (.bool false)], args := [d1, d2] }
  | _ => none }
def FnExactAddWordWrongFalsely : Prop := fnExactAddWordRow.holds Try.pinned (OpenSpec.ofChange fnExactAddWordWrong)

/-- 'laws.FnExactDropWord': WHATEVER THE INPUT: true; the input reads as it did. -/
def fnExactDropWordSpec : ChangeSpec := { name := "fnExactDropWord", fn := fun _ => fun
  | [d1, d2] => { results := [.lit (.bool true)], args := [d1, d2] }
  | _ => none }
def fnExactDropWordRow : OpenClaim := { program := "ytonifpgaagdohaa", sum := "8c54e0d80487c9cf64927587b259c84fceefc1999c8da15d5e3d02b9162841b7", func := "loop.example/g01281/laws.FnExactDropWord", spec := "fnExactDropWord", unfollowed := true, recurses := true, apart := false }
def FnExactDropWordSaid : Prop := fnExactDropWordRow.holds Try.pinned (OpenSpec.ofChange fnExactDropWordSpec)

/-- ITS FALSE NEIGHBOUR: 'it returns false'. Refute it at one input. -/
def fnExactDropWordWrong : ChangeSpec := { name := "fnExactDropWord", fn := fun _ => fun
  | [d1, d2] => { results := [.lit (.bool false)], args := [d1, d2] }
  | _ => none }
def FnExactDropWordWrongFalsely : Prop := fnExactDropWordRow.holds Try.pinned (OpenSpec.ofChange fnExactDropWordWrong)

/-- 'laws.FnExactPanOf': WHATEVER THE INPUT: true; the input reads as it did. -/
def fnExactPanOfSpec : ChangeSpec := { name := "fnExactPanOf", fn := fun _ => fun
  | [d1, d2] => { results := [.lit (.bool true)], args := [d1, d2] }
  | _ => none }
def fnExactPanOfRow : OpenClaim := { program := "ytonifpgaagdohaa", sum := "8c54e0d80487c9cf64927587b259c84fceefc1999c8da15d5e3d02b9162841b7", func := "loop.example/g01281/laws.FnExactPanOf", spec := "fnExactPanOf", unfollowed := true, recurses := true, apart := false }
def FnExactPanOfSaid : Prop := fnExactPanOfRow.holds Try.pinned (OpenSpec.ofChange fnExactPanOfSpec)

/-- ITS FALSE NEIGHBOUR: 'it returns false'. Refute it at one input. -/
def fnExactPanOfWrong : ChangeSpec := { name := "fnExactPanOf", fn := fun _ => fun
  | [d1, d2] => { results := [.lit (.bool false)], args := [d1, d2] }
  | _ => none }
def FnExactPanOfWrongFalsely : Prop := fnExactPanOfRow.holds Try.pinned (OpenSpec.ofChange fnExactPanOfWrong)

/- THE SECOND FORM. 'bulk': how many values and letters a reading holds, each counted each time it is reached (what is shared counts as often as it is met; a slice's spare places count too). A statement '..UptoSaid' is the law's where the arguments, and the package variables that the reading takes, are together of bulk at most 1048576: NARROWER than '..Said'. Prove '..Said' where nothing that the law and all that it calls make is longer than what came in: it says more and counts as full. Else prove '..UptoSaid'. A law counts once. -/
mutual
def uptoBulk {H : Type} : DataW H → Nat
  | .lit (.string bytes) => bytes.length + 1
  | .lit _ => 1
  | .nil => 1
  | .ptr d => uptoBulk d + 1
  | .slice elems spare => uptoBulkAll elems + uptoBulkAll spare + 1
  | .agg parts => uptoBulkAll parts + 1
  | .iface _ d => uptoBulk d + 1
  | .map entries => uptoBulkEntries entries + 1
  | .held _ => 1
def uptoBulkAll {H : Type} : List (DataW H) → Nat
  | [] => 0
  | d :: r => uptoBulk d + uptoBulkAll r
def uptoBulkEntries {H : Type} : List (Lit × DataW H) → Nat
  | [] => 0
  | x :: r => uptoBulkEntry x + uptoBulkEntries r
def uptoBulkEntry {H : Type} : Lit × DataW H → Nat
  | (.string bytes, d) => bytes.length + uptoBulk d + 1
  | (_, d) => uptoBulk d + 1
 end
def uptoSmall : (H : Type) → List (DataW H) → Bool := fun _ ds => decide (uptoBulkAll ds ≤ 1048576)
def OpenSpec.upto (s : _root_.Go.ChangeSpec) : _root_.Go.OpenSpec := { _root_.Go.OpenSpec.ofChange s with cond := some uptoSmall }

/-- 'laws.FnExactSameFixed', WHERE WHAT IT READS IS OF BULK AT MOST 1048576: true; the input reads as it did. -/
def fnExactSameFixedUptoRow : OpenClaim := { program := "ytonifpgaagdohaa", sum := "8c54e0d80487c9cf64927587b259c84fceefc1999c8da15d5e3d02b9162841b7", func := "loop.example/g01281/laws.FnExactSameFixed", spec := "fnExactSameFixed", apart := false, narrowed := true }
def FnExactSameFixedUptoSaid : Prop := fnExactSameFixedUptoRow.holds Try.pinned (OpenSpec.upto fnExactSameFixedSpec)

/-- 'laws.FnExactValidFixed', WHERE WHAT IT READS IS OF BULK AT MOST 1048576: true; the input reads as it did. -/
def fnExactValidFixedUptoRow : OpenClaim := { program := "ytonifpgaagdohaa", sum := "8c54e0d80487c9cf64927587b259c84fceefc1999c8da15d5e3d02b9162841b7", func := "loop.example/g01281/laws.FnExactValidFixed", spec := "fnExactValidFixed", unfollowed := true, recurses := true, apart := false, narrowed := true }
def FnExactValidFixedUptoSaid : Prop := fnExactValidFixedUptoRow.holds Try.pinned (OpenSpec.upto fnExactValidFixedSpec)

/-- 'laws.FnExactIsBalanced', WHERE WHAT IT READS IS OF BULK AT MOST 1048576: true; the input reads as it did. -/
def fnExactIsBalancedUptoRow : OpenClaim := { program := "ytonifpgaagdohaa", sum := "8c54e0d80487c9cf64927587b259c84fceefc1999c8da15d5e3d02b9162841b7", func := "loop.example/g01281/laws.FnExactIsBalanced", spec := "fnExactIsBalanced", unfollowed := true, recurses := true, apart := false, narrowed := true }
def FnExactIsBalancedUptoSaid : Prop := fnExactIsBalancedUptoRow.holds Try.pinned (OpenSpec.upto fnExactIsBalancedSpec)

/-- 'laws.FnExactAddWord', WHERE WHAT IT READS IS OF BULK AT MOST 1048576: true; the input reads as it did. -/
def fnExactAddWordUptoRow : OpenClaim := { program := "ytonifpgaagdohaa", sum := "8c54e0d80487c9cf64927587b259c84fceefc1999c8da15d5e3d02b9162841b7", func := "loop.example/g01281/laws.FnExactAddWord", spec := "fnExactAddWord", unfollowed := true, recurses := true, apart := false, narrowed := true }
def FnExactAddWordUptoSaid : Prop := fnExactAddWordUptoRow.holds Try.pinned (OpenSpec.upto fnExactAddWordSpec)

/-- 'laws.FnExactDropWord', WHERE WHAT IT READS IS OF BULK AT MOST 1048576: true; the input reads as it did. -/
def fnExactDropWordUptoRow : OpenClaim := { program := "ytonifpgaagdohaa", sum := "8c54e0d80487c9cf64927587b259c84fceefc1999c8da15d5e3d02b9162841b7", func := "loop.example/g01281/laws.FnExactDropWord", spec := "fnExactDropWord", unfollowed := true, recurses := true, apart := false, narrowed := true }
def FnExactDropWordUptoSaid : Prop := fnExactDropWordUptoRow.holds Try.pinned (OpenSpec.upto fnExactDropWordSpec)

/-- 'laws.FnExactPanOf', WHERE WHAT IT READS IS OF BULK AT MOST 1048576: true; the input reads as it did. -/
def fnExactPanOfUptoRow : OpenClaim := { program := "ytonifpgaagdohaa", sum := "8c54e0d80487c9cf64927587b259c84fceefc1999c8da15d5e3d02b9162841b7", func := "loop.example/g01281/laws.FnExactPanOf", spec := "fnExactPanOf", unfollowed := true, recurses := true, apart := false, narrowed := true }
def FnExactPanOfUptoSaid : Prop := fnExactPanOfUptoRow.holds Try.pinned (OpenSpec.upto fnExactPanOfSpec)

end Rows
end Go.Proofs.Ytonifpgaagdohaa
