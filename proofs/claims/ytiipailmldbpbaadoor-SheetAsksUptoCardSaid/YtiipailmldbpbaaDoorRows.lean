/-
  NARROWER THAN 'FOR EVERY INPUT', by the rows' own cells (each row's printed sentence says how): SheetSolved: laid · SheetOne: laid · SheetAsks: laid · SheetRight: laid.
  DERIVED. THE GIVEN ROWS OF THIS SEAT. 4 by the template 'for every input the law returns true; each argument reads behind the call as it read before'; 0 by the template 'total and deterministic' (their statements: YtiipailmldbpbaaDoorTotals.lean).
  GIVEN WITH THE SEED: the statements are not yours to turn. If you find one false, say at which input.
  Laid BY PROGRAM, IN A SANDBOX (cutbox-rows.mjs): the forced cells as the released guide's own fill.sh prints them over the translation 86f5d7f75f0edcca… (all of the seat's roots in one cut). By AI agents, Wed Nov 11 2026. No macro, syntax, notation, axiom, sorry.
-/
import Derived.Test.YtiipailmldbpbaaDoorChecked
import GoSem.PinnedTables
import GoSem.Claim
import GoSem.ClaimJoined
import GoSem.ClaimMapViews
import Derived.JoinedTies
import Derived.KernelRfl
namespace Go.Proofs.YtiipailmldbpbaaDoor
/- THE CELL 'sum', in the pinned program and in every row, IS THE sha256 OF THE DUMP (.gsa) THAT YtiipailmldbpbaaDoorProg.lean LOADS. Nothing in Lean hashes anything: it is a label: what it is worth is what the hold of that sum in a sandbox is worth. -/
noncomputable def Tryd.pinned : Pinned := { name := "ytiipailmldbpbaadoor", sum := "86f5d7f75f0edccab24f398cb9e1590a84ffe9b1dda98634367e15ebfa8def8d", checked := Tryd.checked }
namespace Rows
def none {H : Type} : Left H := { results := [], args := [] }

/- WHAT THE LISTED PACKAGE-LEVEL VARIABLES READ AS WHEN THE CALL BEGINS. Each datum BY PROGRAM (the guide's laid-datum.mjs) off the statement by which the dump's own 'gosem.cut.vars' lays the variable. In a bare row this is a premise. The card (YtiipailmldbpbaaDoorCards.lean) ties it to the program's text. -/
def laid_unicode_utf8_acceptRanges {H : Type} : DataW H := .agg [.agg [.lit (.int .u8 128), .lit (.int .u8 191)], .agg [.lit (.int .u8 160), .lit (.int .u8 191)], .agg [.lit (.int .u8 128), .lit (.int .u8 159)], .agg [.lit (.int .u8 144), .lit (.int .u8 191)], .agg [.lit (.int .u8 128), .lit (.int .u8 143)], .agg [.lit (.int .u8 0), .lit (.int .u8 0)], .agg [.lit (.int .u8 0), .lit (.int .u8 0)], .agg [.lit (.int .u8 0), .lit (.int .u8 0)], .agg [.lit (.int .u8 0), .lit (.int .u8 0)], .agg [.lit (.int .u8 0), .lit (.int .u8 0)], .agg [.lit (.int .u8 0), .lit (.int .u8 0)], .agg [.lit (.int .u8 0), .lit (.int .u8 0)], .agg [.lit (.int .u8 0), .lit (.int .u8 0)], .agg [.lit (.int .u8 0), .lit (.int .u8 0)], .agg [.lit (.int .u8 0), .lit (.int .u8 0)], .agg [.lit (.int .u8 0), .lit (.int .u8 0)]]
/-- One of Go's own tables, pinned by name: the form's constant. -/
def laid_unicode_utf8_first : DataW Unit := Go.Pinned.utf8First

/-- 'rebuslaw23.SheetSolved': WHATEVER THE INPUT: true; the input reads as it did. -/
def sheetSolvedSpec : ChangeSpec := { name := "sheetSolved", fn := fun _ => fun
  | [d1, d2] => { results := [.lit (.bool true)], args := [d1, d2] }
  | _ => none }
def sheetSolvedRow : OpenClaim := { program := "ytiipailmldbpbaadoor", sum := "86f5d7f75f0edccab24f398cb9e1590a84ffe9b1dda98634367e15ebfa8def8d", func := "rebus/rebuslaw23.SheetSolved", spec := "sheetSolved", inPlace := ["internal/bytealg.IndexByteString", "internal/bytealg.IndexString", "internal/abi.NoEscape"], unfollowed := true, recurses := true, named := ["unicode/utf8.first", "unicode/utf8.acceptRanges", "internal/bytealg.MaxLen"], apart := false, laid := [("unicode/utf8.acceptRanges", laid_unicode_utf8_acceptRanges), ("unicode/utf8.first", laid_unicode_utf8_first)] }
def SheetSolvedSaid : Prop := sheetSolvedRow.holds Tryd.pinned (OpenSpec.ofChange sheetSolvedSpec)

/-- ITS FALSE NEIGHBOUR: 'it returns false'. Refute it at one input. -/
def sheetSolvedWrong : ChangeSpec := { name := "sheetSolved", fn := fun _ => fun
  | [d1, d2] => { results := [.lit (.bool false)], args := [d1, d2] }
  | _ => none }
def SheetSolvedWrongFalsely : Prop := sheetSolvedRow.holds Tryd.pinned (OpenSpec.ofChange sheetSolvedWrong)

/-- 'rebuslaw23.SheetOne': WHATEVER THE INPUT: true; the input reads as it did. -/
def sheetOneSpec : ChangeSpec := { name := "sheetOne", fn := fun _ => fun
  | [d1, d2, d3] => { results := [.lit (.bool true)], args := [d1, d2, d3] }
  | _ => none }
def sheetOneRow : OpenClaim := { program := "ytiipailmldbpbaadoor", sum := "86f5d7f75f0edccab24f398cb9e1590a84ffe9b1dda98634367e15ebfa8def8d", func := "rebus/rebuslaw23.SheetOne", spec := "sheetOne", inPlace := ["internal/bytealg.IndexByteString", "internal/bytealg.IndexString", "internal/abi.NoEscape"], unfollowed := true, recurses := true, named := ["unicode/utf8.first", "unicode/utf8.acceptRanges", "internal/bytealg.MaxLen"], apart := false, laid := [("unicode/utf8.acceptRanges", laid_unicode_utf8_acceptRanges), ("unicode/utf8.first", laid_unicode_utf8_first)] }
def SheetOneSaid : Prop := sheetOneRow.holds Tryd.pinned (OpenSpec.ofChange sheetOneSpec)

/-- ITS FALSE NEIGHBOUR: 'it returns false'. Refute it at one input. -/
def sheetOneWrong : ChangeSpec := { name := "sheetOne", fn := fun _ => fun
  | [d1, d2, d3] => { results := [.lit (.bool false)], args := [d1, d2, d3] }
  | _ => none }
def SheetOneWrongFalsely : Prop := sheetOneRow.holds Tryd.pinned (OpenSpec.ofChange sheetOneWrong)

/-- 'rebuslaw23.SheetAsks': WHATEVER THE INPUT: true; the input reads as it did. -/
def sheetAsksSpec : ChangeSpec := { name := "sheetAsks", fn := fun _ => fun
  | [d1, d2] => { results := [.lit (.bool true)], args := [d1, d2] }
  | _ => none }
def sheetAsksRow : OpenClaim := { program := "ytiipailmldbpbaadoor", sum := "86f5d7f75f0edccab24f398cb9e1590a84ffe9b1dda98634367e15ebfa8def8d", func := "rebus/rebuslaw23.SheetAsks", spec := "sheetAsks", inPlace := ["internal/bytealg.IndexByteString", "internal/bytealg.IndexString", "internal/abi.NoEscape"], unfollowed := true, recurses := true, named := ["unicode/utf8.first", "unicode/utf8.acceptRanges", "internal/bytealg.MaxLen"], apart := false, laid := [("unicode/utf8.acceptRanges", laid_unicode_utf8_acceptRanges), ("unicode/utf8.first", laid_unicode_utf8_first)] }
def SheetAsksSaid : Prop := sheetAsksRow.holds Tryd.pinned (OpenSpec.ofChange sheetAsksSpec)

/-- ITS FALSE NEIGHBOUR: 'it returns false'. Refute it at one input. -/
def sheetAsksWrong : ChangeSpec := { name := "sheetAsks", fn := fun _ => fun
  | [d1, d2] => { results := [.lit (.bool false)], args := [d1, d2] }
  | _ => none }
def SheetAsksWrongFalsely : Prop := sheetAsksRow.holds Tryd.pinned (OpenSpec.ofChange sheetAsksWrong)

/-- 'rebuslaw23.SheetRight': WHATEVER THE INPUT: true; the input reads as it did. -/
def sheetRightSpec : ChangeSpec := { name := "sheetRight", fn := fun _ => fun
  | [d1, d2] => { results := [.lit (.bool true)], args := [d1, d2] }
  | _ => none }
def sheetRightRow : OpenClaim := { program := "ytiipailmldbpbaadoor", sum := "86f5d7f75f0edccab24f398cb9e1590a84ffe9b1dda98634367e15ebfa8def8d", func := "rebus/rebuslaw23.SheetRight", spec := "sheetRight", inPlace := ["internal/bytealg.IndexByteString", "internal/bytealg.IndexString", "internal/abi.NoEscape"], unfollowed := true, recurses := true, named := ["unicode/utf8.first", "unicode/utf8.acceptRanges", "internal/bytealg.MaxLen"], apart := false, laid := [("unicode/utf8.acceptRanges", laid_unicode_utf8_acceptRanges), ("unicode/utf8.first", laid_unicode_utf8_first)] }
def SheetRightSaid : Prop := sheetRightRow.holds Tryd.pinned (OpenSpec.ofChange sheetRightSpec)

/-- ITS FALSE NEIGHBOUR: 'it returns false'. Refute it at one input. -/
def sheetRightWrong : ChangeSpec := { name := "sheetRight", fn := fun _ => fun
  | [d1, d2] => { results := [.lit (.bool false)], args := [d1, d2] }
  | _ => none }
def SheetRightWrongFalsely : Prop := sheetRightRow.holds Tryd.pinned (OpenSpec.ofChange sheetRightWrong)

/- THE SECOND FORM. 'bulk': how many values and letters a reading holds, each counted each time it is reached (what is shared counts as often as it is met; a slice's spare places count too). A statement '..UptoSaid' is the law's where the arguments, and the package variables that the reading takes, are together of bulk at most 1048576: NARROWER than '..Said'. Prove '..Said' where nothing that the law and all that it calls make is longer than what came in: it says more and counts as full. Else prove '..UptoSaid'. A law counts once. -/
mutual
def uptoBulk {H : Type} : DataW H → Nat
  | .lit (.string bytes) => bytes.length + 1
  | .lit _ => 1
  | .nil => 1
  | .ptr d => uptoBulk d + 1
  | .slice elems spare => uptoBulkAll elems + uptoBulkAll spare + 1
  | .agg parts => uptoBulkAll parts + 1
  | .iface _ d => uptoBulk d + 1
  | .map entries => uptoBulkEntries entries + 1
  | .held _ => 1
def uptoBulkAll {H : Type} : List (DataW H) → Nat
  | [] => 0
  | d :: r => uptoBulk d + uptoBulkAll r
def uptoBulkEntries {H : Type} : List (Lit × DataW H) → Nat
  | [] => 0
  | x :: r => uptoBulkEntry x + uptoBulkEntries r
def uptoBulkEntry {H : Type} : Lit × DataW H → Nat
  | (.string bytes, d) => bytes.length + uptoBulk d + 1
  | (_, d) => uptoBulk d + 1
 end
def uptoSmall : (H : Type) → List (DataW H) → Bool := fun _ ds => decide (uptoBulkAll ds ≤ 1048576)
def OpenSpec.upto (s : _root_.Go.ChangeSpec) : _root_.Go.OpenSpec := { _root_.Go.OpenSpec.ofChange s with cond := some uptoSmall }

/-- 'rebuslaw23.SheetSolved', WHERE WHAT IT READS IS OF BULK AT MOST 1048576: true; the input reads as it did. -/
def sheetSolvedUptoRow : OpenClaim := { program := "ytiipailmldbpbaadoor", sum := "86f5d7f75f0edccab24f398cb9e1590a84ffe9b1dda98634367e15ebfa8def8d", func := "rebus/rebuslaw23.SheetSolved", spec := "sheetSolved", inPlace := ["internal/bytealg.IndexByteString", "internal/bytealg.IndexString", "internal/abi.NoEscape"], unfollowed := true, recurses := true, named := ["unicode/utf8.first", "unicode/utf8.acceptRanges", "internal/bytealg.MaxLen"], apart := false, laid := [("unicode/utf8.acceptRanges", laid_unicode_utf8_acceptRanges), ("unicode/utf8.first", laid_unicode_utf8_first)], narrowed := true }
def SheetSolvedUptoSaid : Prop := sheetSolvedUptoRow.holds Tryd.pinned (OpenSpec.upto sheetSolvedSpec)

/-- 'rebuslaw23.SheetOne', WHERE WHAT IT READS IS OF BULK AT MOST 1048576: true; the input reads as it did. -/
def sheetOneUptoRow : OpenClaim := { program := "ytiipailmldbpbaadoor", sum := "86f5d7f75f0edccab24f398cb9e1590a84ffe9b1dda98634367e15ebfa8def8d", func := "rebus/rebuslaw23.SheetOne", spec := "sheetOne", inPlace := ["internal/bytealg.IndexByteString", "internal/bytealg.IndexString", "internal/abi.NoEscape"], unfollowed := true, recurses := true, named := ["unicode/utf8.first", "unicode/utf8.acceptRanges", "internal/bytealg.MaxLen"], apart := false, laid := [("unicode/utf8.acceptRanges", laid_unicode_utf8_acceptRanges), ("unicode/utf8.first", laid_unicode_utf8_first)], narrowed := true }
def SheetOneUptoSaid : Prop := sheetOneUptoRow.holds Tryd.pinned (OpenSpec.upto sheetOneSpec)

/-- 'rebuslaw23.SheetAsks', WHERE WHAT IT READS IS OF BULK AT MOST 1048576: true; the input reads as it did. -/
def sheetAsksUptoRow : OpenClaim := { program := "ytiipailmldbpbaadoor", sum := "86f5d7f75f0edccab24f398cb9e1590a84ffe9b1dda98634367e15ebfa8def8d", func := "rebus/rebuslaw23.SheetAsks", spec := "sheetAsks", inPlace := ["internal/bytealg.IndexByteString", "internal/bytealg.IndexString", "internal/abi.NoEscape"], unfollowed := true, recurses := true, named := ["unicode/utf8.first", "unicode/utf8.acceptRanges", "internal/bytealg.MaxLen"], apart := false, laid := [("unicode/utf8.acceptRanges", laid_unicode_utf8_acceptRanges), ("unicode/utf8.first", laid_unicode_utf8_first)], narrowed := true }
def SheetAsksUptoSaid : Prop := sheetAsksUptoRow.holds Tryd.pinned (OpenSpec.upto sheetAsksSpec)

/-- 'rebuslaw23.SheetRight', WHERE WHAT IT READS IS OF BULK AT MOST 1048576: true; the input reads as it did. -/
def sheetRightUptoRow : OpenClaim := { program := "ytiipailmldbpbaadoor", sum := "86f5d7f75f0edccab24f398cb9e1590a84ffe9b1dda98634367e15ebfa8def8d", func := "rebus/rebuslaw23.SheetRight", spec := "sheetRight", inPlace := ["internal/bytealg.IndexByteString", "internal/bytealg.IndexString", "internal/abi.NoEscape"], unfollowed := true, recurses := true, named := ["unicode/utf8.first", "unicode/utf8.acceptRanges", "internal/bytealg.MaxLen"], apart := false, laid := [("unicode/utf8.acceptRanges", laid_unicode_utf8_acceptRanges), ("unicode/utf8.first", laid_unicode_utf8_first)], narrowed := true }
def SheetRightUptoSaid : Prop := sheetRightUptoRow.holds Tryd.pinned (OpenSpec.upto sheetRightSpec)

end Rows
end Go.Proofs.YtiipailmldbpbaaDoor
