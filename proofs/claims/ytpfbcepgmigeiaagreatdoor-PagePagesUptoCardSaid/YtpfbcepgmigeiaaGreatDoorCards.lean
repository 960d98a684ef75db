/-
  DERIVED. GIVEN WITH THE SEED: THE CARDS: each row of YtpfbcepgmigeiaaGreatDoorRows.lean that lists a variable, with what it lists TIED to the program's text (the seventh form; the later family's looks); each row that meets fmt, with fmt's text TOLD by the authors' own Lean function (tested against real Go, not proved from fmt's source: count such statements apart). THE CARD IS WHAT COUNTS. Prove the row's statement (the work); the ties are given (YtpfbcepgmigeiaaGreatDoorTie.lean); close each card by the builder's one call (the guide's Derived/Test/ToyasCard.lean, 'card_holds'). Laid BY PROGRAM, IN A SANDBOX (cutbox-door.mjs). By AI agents, Wed Nov 11 2026. No macro, syntax, notation, axiom, sorry.
-/
import Derived.Test.YtpfbcepgmigeiaaGreatDoorRows
import GoSem.ClaimSeven
namespace Go.Proofs.YtpfbcepgmigeiaaGreatDoor
namespace Rows

/-- THE TIED CARD OF 'rebuslaw21.PagePages'. -/
def pagePagesCard : Claim7 := { stood := { row := pagePagesRow, standIns := [], harness := (true, "ddf962e7b4876029461efacc6f1d8adfecf00219c65c0b8f70cfb89322f67917"), looks := false }, kinds := [], alts := [], laidByText := true, laidKinds := [.data, .data, .data, .data, .pinned], laidTests := true, laidLooks := .later }
def PagePagesCardSaid : Prop := Claim7.holds Tryz.pinned (.plain (OpenSpec.ofChange pagePagesSpec)) pagePagesCard

/-- THE SECOND FORM's CARD OF 'rebuslaw21.PagePages'. -/
def pagePagesUptoCard : Claim7 := { stood := { row := pagePagesUptoRow, standIns := [], harness := (true, "ddf962e7b4876029461efacc6f1d8adfecf00219c65c0b8f70cfb89322f67917"), looks := false }, kinds := [], alts := [], laidByText := true, laidKinds := [.data, .data, .data, .data, .pinned], laidTests := true, laidLooks := .later }
def PagePagesUptoCardSaid : Prop := Claim7.holds Tryz.pinned (.plain (OpenSpec.upto pagePagesSpec)) pagePagesUptoCard
end Rows
end Go.Proofs.YtpfbcepgmigeiaaGreatDoor
