/-
  DERIVED. GIVEN WITH THE SEED: THE CARDS: each row of YtiipailmldbpbaaGreatDoorRows.lean that lists a variable, with what it lists TIED to the program's text (the seventh form; the later family's looks); each row that meets fmt, with fmt's text TOLD by the authors' own Lean function (tested against real Go, not proved from fmt's source: count such statements apart). THE CARD IS WHAT COUNTS. Prove the row's statement (the work); the ties are given (YtiipailmldbpbaaGreatDoorTie.lean); close each card by the builder's one call (the guide's Derived/Test/ToyasCard.lean, 'card_holds'). Laid BY PROGRAM, IN A SANDBOX (cutbox-door.mjs). By AI agents, Wed Nov 11 2026. No macro, syntax, notation, axiom, sorry.
-/
import Derived.Test.YtiipailmldbpbaaGreatDoorRows
import GoSem.ClaimSeven
namespace Go.Proofs.YtiipailmldbpbaaGreatDoor
namespace Rows

/-- THE TIED CARD OF 'rebuslaw23.SheetActs'. -/
def sheetActsCard : Claim7 := { stood := { row := sheetActsRow, standIns := [], harness := (true, "bf73c6667eabe537073ecf56faecbc1790e2bc9ac269b0e831706dd71129e176"), looks := false }, kinds := [], alts := [], laidByText := true, laidKinds := [.data, .pinned], laidTests := true, laidLooks := .later }
def SheetActsCardSaid : Prop := Claim7.holds Tryz.pinned (.plain (OpenSpec.ofChange sheetActsSpec)) sheetActsCard

/-- THE SECOND FORM's CARD OF 'rebuslaw23.SheetActs'. -/
def sheetActsUptoCard : Claim7 := { stood := { row := sheetActsUptoRow, standIns := [], harness := (true, "bf73c6667eabe537073ecf56faecbc1790e2bc9ac269b0e831706dd71129e176"), looks := false }, kinds := [], alts := [], laidByText := true, laidKinds := [.data, .pinned], laidTests := true, laidLooks := .later }
def SheetActsUptoCardSaid : Prop := Claim7.holds Tryz.pinned (.plain (OpenSpec.upto sheetActsSpec)) sheetActsUptoCard
end Rows
end Go.Proofs.YtiipailmldbpbaaGreatDoor
