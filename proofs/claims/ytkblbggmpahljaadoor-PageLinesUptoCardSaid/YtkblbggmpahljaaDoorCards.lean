/-
  DERIVED. GIVEN WITH THE SEED: THE CARDS: each row of YtkblbggmpahljaaDoorRows.lean that lists a variable, with what it lists TIED to the program's text (the seventh form; the later family's looks); each row that meets fmt, with fmt's text TOLD by the authors' own Lean function (tested against real Go, not proved from fmt's source: count such statements apart). THE CARD IS WHAT COUNTS. Prove the row's statement (the work); the ties are given (YtkblbggmpahljaaDoorTie.lean); close each card by the builder's one call (the guide's Derived/Test/ToyasCard.lean, 'card_holds'). Laid BY PROGRAM, IN A SANDBOX (cutbox-door.mjs). By AI agents, Wed Nov 11 2026. No macro, syntax, notation, axiom, sorry.
-/
import Derived.Test.YtkblbggmpahljaaDoorRows
import GoSem.ClaimSeven
namespace Go.Proofs.YtkblbggmpahljaaDoor
namespace Rows

/-- THE TIED CARD OF 'rebuslaw21.PageLines'. -/
def pageLinesCard : Claim7 := { stood := { row := pageLinesRow, standIns := [], harness := (true, "d224fc07e583198f23ed9954355bb1da3c3cf4fbca18465cad39bda467eaf7ca"), looks := false }, kinds := [], alts := [], laidByText := true, laidKinds := [.data, .data, .data, .data, .pinned], laidTests := true, laidLooks := .later }
def PageLinesCardSaid : Prop := Claim7.holds Tryd.pinned (.plain (OpenSpec.ofChange pageLinesSpec)) pageLinesCard

/-- THE SECOND FORM's CARD OF 'rebuslaw21.PageLines'. -/
def pageLinesUptoCard : Claim7 := { stood := { row := pageLinesUptoRow, standIns := [], harness := (true, "d224fc07e583198f23ed9954355bb1da3c3cf4fbca18465cad39bda467eaf7ca"), looks := false }, kinds := [], alts := [], laidByText := true, laidKinds := [.data, .data, .data, .data, .pinned], laidTests := true, laidLooks := .later }
def PageLinesUptoCardSaid : Prop := Claim7.holds Tryd.pinned (.plain (OpenSpec.upto pageLinesSpec)) pageLinesUptoCard
end Rows
end Go.Proofs.YtkblbggmpahljaaDoor
