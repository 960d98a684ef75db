/-
  DERIVED. GIVEN WITH THE SEED: THE CARDS: each row of YtiipailmldbpbaaDoorRows.lean that lists a variable, with what it lists TIED to the program's text (the seventh form; the later family's looks); each row that meets fmt, with fmt's text TOLD by the authors' own Lean function (tested against real Go, not proved from fmt's source: count such statements apart). THE CARD IS WHAT COUNTS. Prove the row's statement (the work); the ties are given (YtiipailmldbpbaaDoorTie.lean); close each card by the builder's one call (the guide's Derived/Test/ToyasCard.lean, 'card_holds'). Laid BY PROGRAM, IN A SANDBOX (cutbox-door.mjs). By AI agents, Wed Nov 11 2026. No macro, syntax, notation, axiom, sorry.
-/
import Derived.Test.YtiipailmldbpbaaDoorRows
import GoSem.ClaimSeven
namespace Go.Proofs.YtiipailmldbpbaaDoor
namespace Rows

/-- THE TIED CARD OF 'rebuslaw23.SheetSolved'. -/
def sheetSolvedCard : Claim7 := { stood := { row := sheetSolvedRow, standIns := [], harness := (true, "1704e1732de6a05bb6392dce7db72b4630160e4414c599f5a296d9d27af71419"), looks := false }, kinds := [], alts := [], laidByText := true, laidKinds := [.data, .pinned], laidTests := true, laidLooks := .later }
def SheetSolvedCardSaid : Prop := Claim7.holds Tryd.pinned (.plain (OpenSpec.ofChange sheetSolvedSpec)) sheetSolvedCard

/-- THE TIED CARD OF 'rebuslaw23.SheetOne'. -/
def sheetOneCard : Claim7 := { stood := { row := sheetOneRow, standIns := [], harness := (true, "1704e1732de6a05bb6392dce7db72b4630160e4414c599f5a296d9d27af71419"), looks := false }, kinds := [], alts := [], laidByText := true, laidKinds := [.data, .pinned], laidTests := true, laidLooks := .later }
def SheetOneCardSaid : Prop := Claim7.holds Tryd.pinned (.plain (OpenSpec.ofChange sheetOneSpec)) sheetOneCard

/-- THE TIED CARD OF 'rebuslaw23.SheetAsks'. -/
def sheetAsksCard : Claim7 := { stood := { row := sheetAsksRow, standIns := [], harness := (true, "1704e1732de6a05bb6392dce7db72b4630160e4414c599f5a296d9d27af71419"), looks := false }, kinds := [], alts := [], laidByText := true, laidKinds := [.data, .pinned], laidTests := true, laidLooks := .later }
def SheetAsksCardSaid : Prop := Claim7.holds Tryd.pinned (.plain (OpenSpec.ofChange sheetAsksSpec)) sheetAsksCard

/-- THE TIED CARD OF 'rebuslaw23.SheetRight'. -/
def sheetRightCard : Claim7 := { stood := { row := sheetRightRow, standIns := [], harness := (true, "1704e1732de6a05bb6392dce7db72b4630160e4414c599f5a296d9d27af71419"), looks := false }, kinds := [], alts := [], laidByText := true, laidKinds := [.data, .pinned], laidTests := true, laidLooks := .later }
def SheetRightCardSaid : Prop := Claim7.holds Tryd.pinned (.plain (OpenSpec.ofChange sheetRightSpec)) sheetRightCard

/-- THE SECOND FORM's CARD OF 'rebuslaw23.SheetSolved'. -/
def sheetSolvedUptoCard : Claim7 := { stood := { row := sheetSolvedUptoRow, standIns := [], harness := (true, "1704e1732de6a05bb6392dce7db72b4630160e4414c599f5a296d9d27af71419"), looks := false }, kinds := [], alts := [], laidByText := true, laidKinds := [.data, .pinned], laidTests := true, laidLooks := .later }
def SheetSolvedUptoCardSaid : Prop := Claim7.holds Tryd.pinned (.plain (OpenSpec.upto sheetSolvedSpec)) sheetSolvedUptoCard

/-- THE SECOND FORM's CARD OF 'rebuslaw23.SheetOne'. -/
def sheetOneUptoCard : Claim7 := { stood := { row := sheetOneUptoRow, standIns := [], harness := (true, "1704e1732de6a05bb6392dce7db72b4630160e4414c599f5a296d9d27af71419"), looks := false }, kinds := [], alts := [], laidByText := true, laidKinds := [.data, .pinned], laidTests := true, laidLooks := .later }
def SheetOneUptoCardSaid : Prop := Claim7.holds Tryd.pinned (.plain (OpenSpec.upto sheetOneSpec)) sheetOneUptoCard

/-- THE SECOND FORM's CARD OF 'rebuslaw23.SheetAsks'. -/
def sheetAsksUptoCard : Claim7 := { stood := { row := sheetAsksUptoRow, standIns := [], harness := (true, "1704e1732de6a05bb6392dce7db72b4630160e4414c599f5a296d9d27af71419"), looks := false }, kinds := [], alts := [], laidByText := true, laidKinds := [.data, .pinned], laidTests := true, laidLooks := .later }
def SheetAsksUptoCardSaid : Prop := Claim7.holds Tryd.pinned (.plain (OpenSpec.upto sheetAsksSpec)) sheetAsksUptoCard

/-- THE SECOND FORM's CARD OF 'rebuslaw23.SheetRight'. -/
def sheetRightUptoCard : Claim7 := { stood := { row := sheetRightUptoRow, standIns := [], harness := (true, "1704e1732de6a05bb6392dce7db72b4630160e4414c599f5a296d9d27af71419"), looks := false }, kinds := [], alts := [], laidByText := true, laidKinds := [.data, .pinned], laidTests := true, laidLooks := .later }
def SheetRightUptoCardSaid : Prop := Claim7.holds Tryd.pinned (.plain (OpenSpec.upto sheetRightSpec)) sheetRightUptoCard
end Rows
end Go.Proofs.YtiipailmldbpbaaDoor
