/-
  DERIVED. GIVEN WITH THE SEED: THE CARDS: each row of YtjopbfidjapmbaaGreatDoorRows.lean that lists a variable, with what it lists TIED to the program's text (the seventh form; the later family's looks); each row that meets fmt, with fmt's text TOLD by the authors' own Lean function (tested against real Go, not proved from fmt's source: count such statements apart). THE CARD IS WHAT COUNTS. Prove the row's statement (the work); the ties are given (YtjopbfidjapmbaaGreatDoorTie.lean); close each card by the builder's one call (the guide's Derived/Test/ToyasCard.lean, 'card_holds'). Laid BY PROGRAM, IN A SANDBOX (cutbox-door.mjs). By AI agents, Wed Nov 11 2026. No macro, syntax, notation, axiom, sorry.
-/
import Derived.Test.YtjopbfidjapmbaaGreatDoorRows
import GoSem.ClaimSeven
namespace Go.Proofs.YtjopbfidjapmbaaGreatDoor
namespace Rows

/-- THE TIED CARD OF 'rebuslaw24.SessionTexts'. -/
def sessionTextsCard : Claim7 := { stood := { row := sessionTextsRow, standIns := [], harness := (true, "ef600b660ec774c5d12ced483975c84adb915e584fb8d3f1a8422611426f167c"), looks := true }, kinds := [], alts := [], laidByText := true, laidKinds := [.data, .data, .data, .data, .sentinel, .sentinel, .pinned], laidTests := true, laidLooks := .later }
def SessionTextsCardSaid : Prop := Claim7.holds Tryz.pinned (.plain (OpenSpec.ofChange sessionTextsSpec)) sessionTextsCard

/-- THE TIED CARD OF 'rebuslaw24.SessionReplays'. -/
def sessionReplaysCard : Claim7 := { stood := { row := sessionReplaysRow, standIns := [], harness := (true, "ef600b660ec774c5d12ced483975c84adb915e584fb8d3f1a8422611426f167c"), looks := true }, kinds := [], alts := [], laidByText := true, laidKinds := [.data, .data, .data, .data, .sentinel, .sentinel, .pinned], laidTests := true, laidLooks := .later }
def SessionReplaysCardSaid : Prop := Claim7.holds Tryz.pinned (.plain (OpenSpec.ofChange sessionReplaysSpec)) sessionReplaysCard

/-- THE SECOND FORM's CARD OF 'rebuslaw24.SessionTexts'. -/
def sessionTextsUptoCard : Claim7 := { stood := { row := sessionTextsUptoRow, standIns := [], harness := (true, "ef600b660ec774c5d12ced483975c84adb915e584fb8d3f1a8422611426f167c"), looks := true }, kinds := [], alts := [], laidByText := true, laidKinds := [.data, .data, .data, .data, .sentinel, .sentinel, .pinned], laidTests := true, laidLooks := .later }
def SessionTextsUptoCardSaid : Prop := Claim7.holds Tryz.pinned (.plain (OpenSpec.upto sessionTextsSpec)) sessionTextsUptoCard

/-- THE SECOND FORM's CARD OF 'rebuslaw24.SessionReplays'. -/
def sessionReplaysUptoCard : Claim7 := { stood := { row := sessionReplaysUptoRow, standIns := [], harness := (true, "ef600b660ec774c5d12ced483975c84adb915e584fb8d3f1a8422611426f167c"), looks := true }, kinds := [], alts := [], laidByText := true, laidKinds := [.data, .data, .data, .data, .sentinel, .sentinel, .pinned], laidTests := true, laidLooks := .later }
def SessionReplaysUptoCardSaid : Prop := Claim7.holds Tryz.pinned (.plain (OpenSpec.upto sessionReplaysSpec)) sessionReplaysUptoCard
end Rows
end Go.Proofs.YtjopbfidjapmbaaGreatDoor
