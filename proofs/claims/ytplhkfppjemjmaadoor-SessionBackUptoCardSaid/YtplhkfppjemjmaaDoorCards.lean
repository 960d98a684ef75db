/-
  DERIVED. GIVEN WITH THE SEED: THE CARDS: each row of YtplhkfppjemjmaaDoorRows.lean that lists a variable, with what it lists TIED to the program's text (the seventh form; the later family's looks); each row that meets fmt, with fmt's text TOLD by the authors' own Lean function (tested against real Go, not proved from fmt's source: count such statements apart). THE CARD IS WHAT COUNTS. Prove the row's statement (the work); the ties are given (YtplhkfppjemjmaaDoorTie.lean); close each card by the builder's one call (the guide's Derived/Test/ToyasCard.lean, 'card_holds'). Laid BY PROGRAM, IN A SANDBOX (cutbox-door.mjs). By AI agents, Wed Nov 11 2026. No macro, syntax, notation, axiom, sorry.
-/
import Derived.Test.YtplhkfppjemjmaaDoorRows
import GoSem.ClaimSeven
namespace Go.Proofs.YtplhkfppjemjmaaDoor
namespace Rows

/-- THE TIED CARD OF 'rebuslaw24.SessionBack'. -/
def sessionBackCard : Claim7 := { stood := { row := sessionBackRow, standIns := [], harness := (true, "a4b713213cc9243635bbec9ffed74d50fdbf33599adf79fe6232c6e679ffe618"), looks := false }, kinds := [], alts := [], laidByText := true, laidKinds := [.data, .pinned], laidTests := true, laidLooks := .later }
def SessionBackCardSaid : Prop := Claim7.holds Tryd.pinned (.plain (OpenSpec.ofChange sessionBackSpec)) sessionBackCard

/-- THE SECOND FORM's CARD OF 'rebuslaw24.SessionBack'. -/
def sessionBackUptoCard : Claim7 := { stood := { row := sessionBackUptoRow, standIns := [], harness := (true, "a4b713213cc9243635bbec9ffed74d50fdbf33599adf79fe6232c6e679ffe618"), looks := false }, kinds := [], alts := [], laidByText := true, laidKinds := [.data, .pinned], laidTests := true, laidLooks := .later }
def SessionBackUptoCardSaid : Prop := Claim7.holds Tryd.pinned (.plain (OpenSpec.upto sessionBackSpec)) sessionBackUptoCard
end Rows
end Go.Proofs.YtplhkfppjemjmaaDoor
