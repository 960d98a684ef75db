/-
  DERIVED. GIVEN WITH THE SEED: THE CARDS: each row of YtpfbcepgmigeiaaDoorRows.lean that lists a variable, with what it lists TIED to the program's text (the seventh form; the later family's looks); each row that meets fmt, with fmt's text TOLD by the authors' own Lean function (tested against real Go, not proved from fmt's source: count such statements apart). THE CARD IS WHAT COUNTS. Prove the row's statement (the work); the ties are given (YtpfbcepgmigeiaaDoorTie.lean); close each card by the builder's one call (the guide's Derived/Test/ToyasCard.lean, 'card_holds'). Laid BY PROGRAM, IN A SANDBOX (cutbox-door.mjs). By AI agents, Wed Nov 11 2026. No macro, syntax, notation, axiom, sorry.
-/
import Derived.Test.YtpfbcepgmigeiaaDoorRows
import GoSem.ClaimSeven
namespace Go.Proofs.YtpfbcepgmigeiaaDoor
namespace Rows

/-- THE TIED CARD OF 'rebuslaw21.PageClues'. -/
def pageCluesCard : Claim7 := { stood := { row := pageCluesRow, standIns := [], harness := (true, "274609c11a73cb8a4fb62c5ff54e4bcefb5ca7f95700c5f1604b9479e2a67635"), looks := false }, kinds := [], alts := [], laidByText := true, laidKinds := [.data, .data, .data, .data, .pinned], laidTests := true, laidLooks := .later }
def PageCluesCardSaid : Prop := Claim7.holds Tryd.pinned (.plain (OpenSpec.ofChange pageCluesSpec)) pageCluesCard

/-- THE SECOND FORM's CARD OF 'rebuslaw21.PageClues'. -/
def pageCluesUptoCard : Claim7 := { stood := { row := pageCluesUptoRow, standIns := [], harness := (true, "274609c11a73cb8a4fb62c5ff54e4bcefb5ca7f95700c5f1604b9479e2a67635"), looks := false }, kinds := [], alts := [], laidByText := true, laidKinds := [.data, .data, .data, .data, .pinned], laidTests := true, laidLooks := .later }
def PageCluesUptoCardSaid : Prop := Claim7.holds Tryd.pinned (.plain (OpenSpec.upto pageCluesSpec)) pageCluesUptoCard
end Rows
end Go.Proofs.YtpfbcepgmigeiaaDoor
