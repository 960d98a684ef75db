/-
  DERIVED. GIVEN WITH THE SEED: THE CARDS: each row of YtkblbggmpahljaaGreatDoorRows.lean that lists a variable, with what it lists TIED to the program's text (the seventh form; the later family's looks); each row that meets fmt, with fmt's text TOLD by the authors' own Lean function (tested against real Go, not proved from fmt's source: count such statements apart). THE CARD IS WHAT COUNTS. Prove the row's statement (the work); the ties are given (YtkblbggmpahljaaGreatDoorTie.lean); close each card by the builder's one call (the guide's Derived/Test/ToyasCard.lean, 'card_holds'). Laid BY PROGRAM, IN A SANDBOX (cutbox-door.mjs). By AI agents, Wed Nov 11 2026. No macro, syntax, notation, axiom, sorry.
-/
import Derived.Test.YtkblbggmpahljaaGreatDoorRows
import GoSem.ClaimSeven
namespace Go.Proofs.YtkblbggmpahljaaGreatDoor
namespace Rows

/-- THE TIED CARD OF 'rebuslaw21.PageDraws'. -/
def pageDrawsCard : Claim7 := { stood := { row := pageDrawsRow, standIns := [], harness := (true, "bc2d9b93e5e9dc589ca44be7dcfaeeb006e9221f3f29dbacae3f661c63e49fad"), looks := false }, kinds := [], alts := [], laidByText := true, laidKinds := [.data, .data, .data, .data, .pinned], laidTests := true, laidLooks := .later }
def PageDrawsCardSaid : Prop := Claim7.holds Tryz.pinned (.plain (OpenSpec.ofChange pageDrawsSpec)) pageDrawsCard

/-- THE SECOND FORM's CARD OF 'rebuslaw21.PageDraws'. -/
def pageDrawsUptoCard : Claim7 := { stood := { row := pageDrawsUptoRow, standIns := [], harness := (true, "bc2d9b93e5e9dc589ca44be7dcfaeeb006e9221f3f29dbacae3f661c63e49fad"), looks := false }, kinds := [], alts := [], laidByText := true, laidKinds := [.data, .data, .data, .data, .pinned], laidTests := true, laidLooks := .later }
def PageDrawsUptoCardSaid : Prop := Claim7.holds Tryz.pinned (.plain (OpenSpec.upto pageDrawsSpec)) pageDrawsUptoCard
end Rows
end Go.Proofs.YtkblbggmpahljaaGreatDoor
