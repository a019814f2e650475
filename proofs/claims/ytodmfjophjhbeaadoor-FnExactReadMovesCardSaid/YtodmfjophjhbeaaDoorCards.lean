/-
  DERIVED. GIVEN WITH THE SEED: THE CARDS: each row of YtodmfjophjhbeaaDoorRows.lean that lists a variable, with what it lists TIED to the program's text (the seventh form; the later family's looks); each row that meets fmt, with fmt's text TOLD by the authors' own Lean function (tested against real Go, not proved from fmt's source: count such statements apart). THE CARD IS WHAT COUNTS. Prove the row's statement (the work); the ties are given (YtodmfjophjhbeaaDoorTie.lean); close each card by the builder's one call (the guide's Derived/Test/ToyasCard.lean, 'card_holds'). Laid BY PROGRAM, IN A SANDBOX (cutbox-door.mjs). By AI agents, Wed Nov 11 2026. No macro, syntax, notation, axiom, sorry.
-/
import Derived.Test.YtodmfjophjhbeaaDoorRows
import GoSem.ClaimSeven
namespace Go.Proofs.YtodmfjophjhbeaaDoor
namespace Rows

/-- THE TIED CARD OF 'laws.FnExactPuzzleText'. -/
def fnExactPuzzleTextCard : Claim7 := { stood := { row := fnExactPuzzleTextRow, standIns := [], harness := (true, "d02ec5b771c39e06bc88fbf014c59a40c66ce376b5f029d64b6bfc1b4fc07072"), looks := false }, kinds := [], alts := [], laidByText := true, laidKinds := [.data, .data, .data], laidTests := true, laidLooks := .later }
def FnExactPuzzleTextCardSaid : Prop := Claim7.holds Tryd.pinned (.plain (OpenSpec.ofChange fnExactPuzzleTextSpec)) fnExactPuzzleTextCard

/-- THE TIED CARD OF 'laws.FnExactReadMoves'. -/
def fnExactReadMovesCard : Claim7 := { stood := { row := fnExactReadMovesRow, standIns := [], harness := (true, "d02ec5b771c39e06bc88fbf014c59a40c66ce376b5f029d64b6bfc1b4fc07072"), looks := false }, kinds := [], alts := [], laidByText := true, laidKinds := [.data, .pinned], laidTests := true, laidLooks := .later }
def FnExactReadMovesCardSaid : Prop := Claim7.holds Tryd.pinned (.plain (OpenSpec.ofChange fnExactReadMovesSpec)) fnExactReadMovesCard

/-- THE SECOND FORM's CARD OF 'laws.FnExactPuzzleText'. -/
def fnExactPuzzleTextUptoCard : Claim7 := { stood := { row := fnExactPuzzleTextUptoRow, standIns := [], harness := (true, "d02ec5b771c39e06bc88fbf014c59a40c66ce376b5f029d64b6bfc1b4fc07072"), looks := false }, kinds := [], alts := [], laidByText := true, laidKinds := [.data, .data, .data], laidTests := true, laidLooks := .later }
def FnExactPuzzleTextUptoCardSaid : Prop := Claim7.holds Tryd.pinned (.plain (OpenSpec.upto fnExactPuzzleTextSpec)) fnExactPuzzleTextUptoCard

/-- THE SECOND FORM's CARD OF 'laws.FnExactReadMoves'. -/
def fnExactReadMovesUptoCard : Claim7 := { stood := { row := fnExactReadMovesUptoRow, standIns := [], harness := (true, "d02ec5b771c39e06bc88fbf014c59a40c66ce376b5f029d64b6bfc1b4fc07072"), looks := false }, kinds := [], alts := [], laidByText := true, laidKinds := [.data, .pinned], laidTests := true, laidLooks := .later }
def FnExactReadMovesUptoCardSaid : Prop := Claim7.holds Tryd.pinned (.plain (OpenSpec.upto fnExactReadMovesSpec)) fnExactReadMovesUptoCard
end Rows
end Go.Proofs.YtodmfjophjhbeaaDoor
