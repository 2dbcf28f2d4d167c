/-
  NARROWER THAN 'FOR EVERY INPUT', by the rows' own cells (each row's printed sentence says how): OperandForms: laid · OperandShifts: laid · OperandReads: laid · OperandMoves: laid · OperandParts: laid.
  DERIVED. THE GIVEN ROWS OF THIS SEAT. 5 by the template 'for every input the law returns true; each argument reads behind the call as it read before'; 0 by the template 'total and deterministic' (their statements: YtaifmgdhdnmjiaaDoorTotals.lean).
  GIVEN WITH THE SEED: the statements are not yours to turn. If you find one false, say at which input.
  Laid BY PROGRAM, IN A SANDBOX (cutbox-rows.mjs): the forced cells as the released guide's own fill.sh prints them over the translation e7b5ee784d2d2117… (all of the seat's roots in one cut). By AI agents, Wed Nov 11 2026. No macro, syntax, notation, axiom, sorry.
-/
import Derived.Test.YtaifmgdhdnmjiaaDoorChecked
import GoSem.PinnedTables
import GoSem.Claim
import GoSem.ClaimJoined
import GoSem.ClaimMapViews
import Derived.JoinedTies
import Derived.KernelRfl
namespace Go.Proofs.YtaifmgdhdnmjiaaDoor
/- THE CELL 'sum', in the pinned program and in every row, IS THE sha256 OF THE DUMP (.gsa) THAT YtaifmgdhdnmjiaaDoorProg.lean LOADS. Nothing in Lean hashes anything: it is a label: what it is worth is what the hold of that sum in a sandbox is worth. -/
noncomputable def Tryd.pinned : Pinned := { name := "ytaifmgdhdnmjiaadoor", sum := "e7b5ee784d2d21176e34cda19e68133cf24317cf58421125f1d3a8b5879effcd", checked := Tryd.checked }
namespace Rows
def none {H : Type} : Left H := { results := [], args := [] }

/- WHAT THE LISTED PACKAGE-LEVEL VARIABLES READ AS WHEN THE CALL BEGINS. Each datum BY PROGRAM (the guide's laid-datum.mjs) off the statement by which the dump's own 'gosem.cut.vars' lays the variable. In a bare row this is a premise. The card (YtaifmgdhdnmjiaaDoorCards.lean) ties it to the program's text. -/
def laid_unicode_utf8_acceptRanges {H : Type} : DataW H := .agg [.agg [.lit (.int .u8 128), .lit (.int .u8 191)], .agg [.lit (.int .u8 160), .lit (.int .u8 191)], .agg [.lit (.int .u8 128), .lit (.int .u8 159)], .agg [.lit (.int .u8 144), .lit (.int .u8 191)], .agg [.lit (.int .u8 128), .lit (.int .u8 143)], .agg [.lit (.int .u8 0), .lit (.int .u8 0)], .agg [.lit (.int .u8 0), .lit (.int .u8 0)], .agg [.lit (.int .u8 0), .lit (.int .u8 0)], .agg [.lit (.int .u8 0), .lit (.int .u8 0)], .agg [.lit (.int .u8 0), .lit (.int .u8 0)], .agg [.lit (.int .u8 0), .lit (.int .u8 0)], .agg [.lit (.int .u8 0), .lit (.int .u8 0)], .agg [.lit (.int .u8 0), .lit (.int .u8 0)], .agg [.lit (.int .u8 0), .lit (.int .u8 0)], .agg [.lit (.int .u8 0), .lit (.int .u8 0)], .agg [.lit (.int .u8 0), .lit (.int .u8 0)]]
/-- One of Go's own tables, pinned by name: the form's constant. -/
def laid_unicode_utf8_first : DataW Unit := Go.Pinned.utf8First

/-- 'florinlaw05.OperandForms': WHATEVER THE INPUT: true; the input reads as it did. -/
def operandFormsSpec : ChangeSpec := { name := "operandForms", fn := fun _ => fun
  | [d] => { results := [.lit (.bool true)], args := [d] }
  | _ => none }
def operandFormsRow : OpenClaim := { program := "ytaifmgdhdnmjiaadoor", sum := "e7b5ee784d2d21176e34cda19e68133cf24317cf58421125f1d3a8b5879effcd", func := "florin/florinlaw05.OperandForms", spec := "operandForms", inPlace := ["internal/bytealg.IndexByteString", "internal/bytealg.IndexString", "internal/abi.NoEscape", "internal/bytealg.MakeNoZero"], named := ["unicode/utf8.first", "unicode/utf8.acceptRanges", "internal/bytealg.MaxLen"], apart := false, laid := [("unicode/utf8.acceptRanges", laid_unicode_utf8_acceptRanges), ("unicode/utf8.first", laid_unicode_utf8_first)] }
def OperandFormsSaid : Prop := operandFormsRow.holds Tryd.pinned (OpenSpec.ofChange operandFormsSpec)

/-- ITS FALSE NEIGHBOUR: 'it returns false'. Refute it at one input. -/
def operandFormsWrong : ChangeSpec := { name := "operandForms", fn := fun _ => fun
  | [d] => { results := [.lit (.bool false)], args := [d] }
  | _ => none }
def OperandFormsWrongFalsely : Prop := operandFormsRow.holds Tryd.pinned (OpenSpec.ofChange operandFormsWrong)

/-- 'florinlaw05.OperandShifts': WHATEVER THE INPUT: true; the input reads as it did. -/
def operandShiftsSpec : ChangeSpec := { name := "operandShifts", fn := fun _ => fun
  | [d1, d2, d3, d4] => { results := [.lit (.bool true)], args := [d1, d2, d3, d4] }
  | _ => none }
def operandShiftsRow : OpenClaim := { program := "ytaifmgdhdnmjiaadoor", sum := "e7b5ee784d2d21176e34cda19e68133cf24317cf58421125f1d3a8b5879effcd", func := "florin/florinlaw05.OperandShifts", spec := "operandShifts", inPlace := ["internal/bytealg.IndexByteString", "internal/bytealg.IndexString", "internal/abi.NoEscape", "internal/bytealg.MakeNoZero"], named := ["unicode/utf8.first", "unicode/utf8.acceptRanges", "internal/bytealg.MaxLen"], apart := false, laid := [("unicode/utf8.acceptRanges", laid_unicode_utf8_acceptRanges), ("unicode/utf8.first", laid_unicode_utf8_first)] }
def OperandShiftsSaid : Prop := operandShiftsRow.holds Tryd.pinned (OpenSpec.ofChange operandShiftsSpec)

/-- ITS FALSE NEIGHBOUR: 'it returns false'. Refute it at one input. -/
def operandShiftsWrong : ChangeSpec := { name := "operandShifts", fn := fun _ => fun
  | [d1, d2, d3, d4] => { results := [.lit (.bool false)], args := [d1, d2, d3, d4] }
  | _ => none }
def OperandShiftsWrongFalsely : Prop := operandShiftsRow.holds Tryd.pinned (OpenSpec.ofChange operandShiftsWrong)

/-- 'florinlaw05.OperandReads': WHATEVER THE INPUT: true; the input reads as it did. -/
def operandReadsSpec : ChangeSpec := { name := "operandReads", fn := fun _ => fun
  | [d1, d2, d3, d4, d5] => { results := [.lit (.bool true)], args := [d1, d2, d3, d4, d5] }
  | _ => none }
def operandReadsRow : OpenClaim := { program := "ytaifmgdhdnmjiaadoor", sum := "e7b5ee784d2d21176e34cda19e68133cf24317cf58421125f1d3a8b5879effcd", func := "florin/florinlaw05.OperandReads", spec := "operandReads", inPlace := ["internal/bytealg.IndexByteString", "internal/bytealg.IndexString", "internal/abi.NoEscape", "internal/bytealg.MakeNoZero"], named := ["unicode/utf8.first", "unicode/utf8.acceptRanges", "internal/bytealg.MaxLen"], apart := false, laid := [("unicode/utf8.acceptRanges", laid_unicode_utf8_acceptRanges), ("unicode/utf8.first", laid_unicode_utf8_first)] }
def OperandReadsSaid : Prop := operandReadsRow.holds Tryd.pinned (OpenSpec.ofChange operandReadsSpec)

/-- ITS FALSE NEIGHBOUR: 'it returns false'. Refute it at one input. -/
def operandReadsWrong : ChangeSpec := { name := "operandReads", fn := fun _ => fun
  | [d1, d2, d3, d4, d5] => { results := [.lit (.bool false)], args := [d1, d2, d3, d4, d5] }
  | _ => none }
def OperandReadsWrongFalsely : Prop := operandReadsRow.holds Tryd.pinned (OpenSpec.ofChange operandReadsWrong)

/-- 'florinlaw05.OperandMoves': WHATEVER THE INPUT: true; the input reads as it did. -/
def operandMovesSpec : ChangeSpec := { name := "operandMoves", fn := fun _ => fun
  | [d1, d2, d3, d4] => { results := [.lit (.bool true)], args := [d1, d2, d3, d4] }
  | _ => none }
def operandMovesRow : OpenClaim := { program := "ytaifmgdhdnmjiaadoor", sum := "e7b5ee784d2d21176e34cda19e68133cf24317cf58421125f1d3a8b5879effcd", func := "florin/florinlaw05.OperandMoves", spec := "operandMoves", inPlace := ["internal/bytealg.IndexByteString", "internal/bytealg.IndexString", "internal/abi.NoEscape", "internal/bytealg.MakeNoZero"], named := ["unicode/utf8.first", "unicode/utf8.acceptRanges", "internal/bytealg.MaxLen"], apart := false, laid := [("unicode/utf8.acceptRanges", laid_unicode_utf8_acceptRanges), ("unicode/utf8.first", laid_unicode_utf8_first)] }
def OperandMovesSaid : Prop := operandMovesRow.holds Tryd.pinned (OpenSpec.ofChange operandMovesSpec)

/-- ITS FALSE NEIGHBOUR: 'it returns false'. Refute it at one input. -/
def operandMovesWrong : ChangeSpec := { name := "operandMoves", fn := fun _ => fun
  | [d1, d2, d3, d4] => { results := [.lit (.bool false)], args := [d1, d2, d3, d4] }
  | _ => none }
def OperandMovesWrongFalsely : Prop := operandMovesRow.holds Tryd.pinned (OpenSpec.ofChange operandMovesWrong)

/-- 'florinlaw05.OperandParts': WHATEVER THE INPUT: true; the input reads as it did. -/
def operandPartsSpec : ChangeSpec := { name := "operandParts", fn := fun _ => fun
  | [d1, d2, d3] => { results := [.lit (.bool true)], args := [d1, d2, d3] }
  | _ => none }
def operandPartsRow : OpenClaim := { program := "ytaifmgdhdnmjiaadoor", sum := "e7b5ee784d2d21176e34cda19e68133cf24317cf58421125f1d3a8b5879effcd", func := "florin/florinlaw05.OperandParts", spec := "operandParts", inPlace := ["internal/bytealg.IndexByteString", "internal/bytealg.IndexString", "internal/abi.NoEscape", "internal/bytealg.MakeNoZero"], named := ["unicode/utf8.first", "unicode/utf8.acceptRanges", "internal/bytealg.MaxLen"], apart := false, laid := [("unicode/utf8.acceptRanges", laid_unicode_utf8_acceptRanges), ("unicode/utf8.first", laid_unicode_utf8_first)] }
def OperandPartsSaid : Prop := operandPartsRow.holds Tryd.pinned (OpenSpec.ofChange operandPartsSpec)

/-- ITS FALSE NEIGHBOUR: 'it returns false'. Refute it at one input. -/
def operandPartsWrong : ChangeSpec := { name := "operandParts", fn := fun _ => fun
  | [d1, d2, d3] => { results := [.lit (.bool false)], args := [d1, d2, d3] }
  | _ => none }
def OperandPartsWrongFalsely : Prop := operandPartsRow.holds Tryd.pinned (OpenSpec.ofChange operandPartsWrong)

/- THE SECOND FORM. 'bulk': how many values and letters a reading holds, each counted each time it is reached (what is shared counts as often as it is met; a slice's spare places count too). A statement '..UptoSaid' is the law's where the arguments, and the package variables that the reading takes, are together of bulk at most 1048576: NARROWER than '..Said'. Prove '..Said' where nothing that the law and all that it calls make is longer than what came in: it says more and counts as full. Else prove '..UptoSaid'. A law counts once. -/
mutual
def uptoBulk {H : Type} : DataW H → Nat
  | .lit (.string bytes) => bytes.length + 1
  | .lit _ => 1
  | .nil => 1
  | .ptr d => uptoBulk d + 1
  | .slice elems spare => uptoBulkAll elems + uptoBulkAll spare + 1
  | .agg parts => uptoBulkAll parts + 1
  | .iface _ d => uptoBulk d + 1
  | .map entries => uptoBulkEntries entries + 1
  | .held _ => 1
def uptoBulkAll {H : Type} : List (DataW H) → Nat
  | [] => 0
  | d :: r => uptoBulk d + uptoBulkAll r
def uptoBulkEntries {H : Type} : List (Lit × DataW H) → Nat
  | [] => 0
  | x :: r => uptoBulkEntry x + uptoBulkEntries r
def uptoBulkEntry {H : Type} : Lit × DataW H → Nat
  | (.string bytes, d) => bytes.length + uptoBulk d + 1
  | (_, d) => uptoBulk d + 1
 end
def uptoSmall : (H : Type) → List (DataW H) → Bool := fun _ ds => decide (uptoBulkAll ds ≤ 1048576)
def OpenSpec.upto (s : _root_.Go.ChangeSpec) : _root_.Go.OpenSpec := { _root_.Go.OpenSpec.ofChange s with cond := some uptoSmall }

/-- 'florinlaw05.OperandForms', WHERE WHAT IT READS IS OF BULK AT MOST 1048576: true; the input reads as it did. -/
def operandFormsUptoRow : OpenClaim := { program := "ytaifmgdhdnmjiaadoor", sum := "e7b5ee784d2d21176e34cda19e68133cf24317cf58421125f1d3a8b5879effcd", func := "florin/florinlaw05.OperandForms", spec := "operandForms", inPlace := ["internal/bytealg.IndexByteString", "internal/bytealg.IndexString", "internal/abi.NoEscape", "internal/bytealg.MakeNoZero"], named := ["unicode/utf8.first", "unicode/utf8.acceptRanges", "internal/bytealg.MaxLen"], apart := false, laid := [("unicode/utf8.acceptRanges", laid_unicode_utf8_acceptRanges), ("unicode/utf8.first", laid_unicode_utf8_first)], narrowed := true }
def OperandFormsUptoSaid : Prop := operandFormsUptoRow.holds Tryd.pinned (OpenSpec.upto operandFormsSpec)

/-- 'florinlaw05.OperandShifts', WHERE WHAT IT READS IS OF BULK AT MOST 1048576: true; the input reads as it did. -/
def operandShiftsUptoRow : OpenClaim := { program := "ytaifmgdhdnmjiaadoor", sum := "e7b5ee784d2d21176e34cda19e68133cf24317cf58421125f1d3a8b5879effcd", func := "florin/florinlaw05.OperandShifts", spec := "operandShifts", inPlace := ["internal/bytealg.IndexByteString", "internal/bytealg.IndexString", "internal/abi.NoEscape", "internal/bytealg.MakeNoZero"], named := ["unicode/utf8.first", "unicode/utf8.acceptRanges", "internal/bytealg.MaxLen"], apart := false, laid := [("unicode/utf8.acceptRanges", laid_unicode_utf8_acceptRanges), ("unicode/utf8.first", laid_unicode_utf8_first)], narrowed := true }
def OperandShiftsUptoSaid : Prop := operandShiftsUptoRow.holds Tryd.pinned (OpenSpec.upto operandShiftsSpec)

/-- 'florinlaw05.OperandReads', WHERE WHAT IT READS IS OF BULK AT MOST 1048576: true; the input reads as it did. -/
def operandReadsUptoRow : OpenClaim := { program := "ytaifmgdhdnmjiaadoor", sum := "e7b5ee784d2d21176e34cda19e68133cf24317cf58421125f1d3a8b5879effcd", func := "florin/florinlaw05.OperandReads", spec := "operandReads", inPlace := ["internal/bytealg.IndexByteString", "internal/bytealg.IndexString", "internal/abi.NoEscape", "internal/bytealg.MakeNoZero"], named := ["unicode/utf8.first", "unicode/utf8.acceptRanges", "internal/bytealg.MaxLen"], apart := false, laid := [("unicode/utf8.acceptRanges", laid_unicode_utf8_acceptRanges), ("unicode/utf8.first", laid_unicode_utf8_first)], narrowed := true }
def OperandReadsUptoSaid : Prop := operandReadsUptoRow.holds Tryd.pinned (OpenSpec.upto operandReadsSpec)

/-- 'florinlaw05.OperandMoves', WHERE WHAT IT READS IS OF BULK AT MOST 1048576: true; the input reads as it did. -/
def operandMovesUptoRow : OpenClaim := { program := "ytaifmgdhdnmjiaadoor", sum := "e7b5ee784d2d21176e34cda19e68133cf24317cf58421125f1d3a8b5879effcd", func := "florin/florinlaw05.OperandMoves", spec := "operandMoves", inPlace := ["internal/bytealg.IndexByteString", "internal/bytealg.IndexString", "internal/abi.NoEscape", "internal/bytealg.MakeNoZero"], named := ["unicode/utf8.first", "unicode/utf8.acceptRanges", "internal/bytealg.MaxLen"], apart := false, laid := [("unicode/utf8.acceptRanges", laid_unicode_utf8_acceptRanges), ("unicode/utf8.first", laid_unicode_utf8_first)], narrowed := true }
def OperandMovesUptoSaid : Prop := operandMovesUptoRow.holds Tryd.pinned (OpenSpec.upto operandMovesSpec)

/-- 'florinlaw05.OperandParts', WHERE WHAT IT READS IS OF BULK AT MOST 1048576: true; the input reads as it did. -/
def operandPartsUptoRow : OpenClaim := { program := "ytaifmgdhdnmjiaadoor", sum := "e7b5ee784d2d21176e34cda19e68133cf24317cf58421125f1d3a8b5879effcd", func := "florin/florinlaw05.OperandParts", spec := "operandParts", inPlace := ["internal/bytealg.IndexByteString", "internal/bytealg.IndexString", "internal/abi.NoEscape", "internal/bytealg.MakeNoZero"], named := ["unicode/utf8.first", "unicode/utf8.acceptRanges", "internal/bytealg.MaxLen"], apart := false, laid := [("unicode/utf8.acceptRanges", laid_unicode_utf8_acceptRanges), ("unicode/utf8.first", laid_unicode_utf8_first)], narrowed := true }
def OperandPartsUptoSaid : Prop := operandPartsUptoRow.holds Tryd.pinned (OpenSpec.upto operandPartsSpec)

end Rows
end Go.Proofs.YtaifmgdhdnmjiaaDoor
