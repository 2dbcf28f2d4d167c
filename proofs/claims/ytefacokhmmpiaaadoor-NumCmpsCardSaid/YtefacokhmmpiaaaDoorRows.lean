/-
  NARROWER THAN 'FOR EVERY INPUT', by the rows' own cells (each row's printed sentence says how): NumTimes: laid · NumInts: laid · NumDivs: laid · NumAdds: laid · NumSubs: laid · NumTexts: laid · NumSmall: laid · NumShifts: laid · NumCmps: laid.
  DERIVED. THE GIVEN ROWS OF THIS SEAT. 9 by the template 'for every input the law returns true; each argument reads behind the call as it read before'; 0 by the template 'total and deterministic' (their statements: YtefacokhmmpiaaaDoorTotals.lean).
  GIVEN WITH THE SEED: the statements are not yours to turn. If you find one false, say at which input.
  Laid BY PROGRAM, IN A SANDBOX (cutbox-rows.mjs): the forced cells as the released guide's own fill.sh prints them over the translation 951e728b4fd7204d… (all of the seat's roots in one cut). By AI agents, Wed Nov 11 2026. No macro, syntax, notation, axiom, sorry.
-/
import Derived.Test.YtefacokhmmpiaaaDoorChecked
import GoSem.PinnedTables
import GoSem.Claim
import GoSem.ClaimJoined
import GoSem.ClaimMapViews
import Derived.JoinedTies
import Derived.KernelRfl
namespace Go.Proofs.YtefacokhmmpiaaaDoor
/- THE CELL 'sum', in the pinned program and in every row, IS THE sha256 OF THE DUMP (.gsa) THAT YtefacokhmmpiaaaDoorProg.lean LOADS. Nothing in Lean hashes anything: it is a label: what it is worth is what the hold of that sum in a sandbox is worth. -/
noncomputable def Tryd.pinned : Pinned := { name := "ytefacokhmmpiaaadoor", sum := "951e728b4fd7204dc04f2d717edbc3afa0564f8a2f19656f288c5fc5f08e6315", checked := Tryd.checked }
namespace Rows
def none {H : Type} : Left H := { results := [], args := [] }

/- WHAT THE LISTED PACKAGE-LEVEL VARIABLES READ AS WHEN THE CALL BEGINS. Each datum BY PROGRAM (the guide's laid-datum.mjs) off the statement by which the dump's own 'gosem.cut.vars' lays the variable. In a bare row this is a premise. The card (YtefacokhmmpiaaaDoorCards.lean) ties it to the program's text. -/
def laid_unicode_utf8_acceptRanges {H : Type} : DataW H := .agg [.agg [.lit (.int .u8 128), .lit (.int .u8 191)], .agg [.lit (.int .u8 160), .lit (.int .u8 191)], .agg [.lit (.int .u8 128), .lit (.int .u8 159)], .agg [.lit (.int .u8 144), .lit (.int .u8 191)], .agg [.lit (.int .u8 128), .lit (.int .u8 143)], .agg [.lit (.int .u8 0), .lit (.int .u8 0)], .agg [.lit (.int .u8 0), .lit (.int .u8 0)], .agg [.lit (.int .u8 0), .lit (.int .u8 0)], .agg [.lit (.int .u8 0), .lit (.int .u8 0)], .agg [.lit (.int .u8 0), .lit (.int .u8 0)], .agg [.lit (.int .u8 0), .lit (.int .u8 0)], .agg [.lit (.int .u8 0), .lit (.int .u8 0)], .agg [.lit (.int .u8 0), .lit (.int .u8 0)], .agg [.lit (.int .u8 0), .lit (.int .u8 0)], .agg [.lit (.int .u8 0), .lit (.int .u8 0)], .agg [.lit (.int .u8 0), .lit (.int .u8 0)]]
/-- One of Go's own tables, pinned by name: the form's constant. -/
def laid_unicode_utf8_first : DataW Unit := Go.Pinned.utf8First

/-- 'florinlaw01.NumTimes': WHATEVER THE INPUT: true; the input reads as it did. -/
def numTimesSpec : ChangeSpec := { name := "numTimes", fn := fun _ => fun
  | [d1, d2, d3] => { results := [.lit (.bool true)], args := [d1, d2, d3] }
  | _ => none }
def numTimesRow : OpenClaim := { program := "ytefacokhmmpiaaadoor", sum := "951e728b4fd7204dc04f2d717edbc3afa0564f8a2f19656f288c5fc5f08e6315", func := "florin/florinlaw01.NumTimes", spec := "numTimes", inPlace := ["internal/abi.NoEscape", "internal/bytealg.IndexByteString", "internal/bytealg.IndexString"], named := ["unicode/utf8.first", "unicode/utf8.acceptRanges", "internal/bytealg.MaxLen"], apart := false, laid := [("unicode/utf8.acceptRanges", laid_unicode_utf8_acceptRanges), ("unicode/utf8.first", laid_unicode_utf8_first)] }
def NumTimesSaid : Prop := numTimesRow.holds Tryd.pinned (OpenSpec.ofChange numTimesSpec)

/-- ITS FALSE NEIGHBOUR: 'it returns false'. Refute it at one input. -/
def numTimesWrong : ChangeSpec := { name := "numTimes", fn := fun _ => fun
  | [d1, d2, d3] => { results := [.lit (.bool false)], args := [d1, d2, d3] }
  | _ => none }
def NumTimesWrongFalsely : Prop := numTimesRow.holds Tryd.pinned (OpenSpec.ofChange numTimesWrong)

/-- 'florinlaw01.NumInts': WHATEVER THE INPUT: true; the input reads as it did. -/
def numIntsSpec : ChangeSpec := { name := "numInts", fn := fun _ => fun
  | [d1, d2] => { results := [.lit (.bool true)], args := [d1, d2] }
  | _ => none }
def numIntsRow : OpenClaim := { program := "ytefacokhmmpiaaadoor", sum := "951e728b4fd7204dc04f2d717edbc3afa0564f8a2f19656f288c5fc5f08e6315", func := "florin/florinlaw01.NumInts", spec := "numInts", inPlace := ["internal/abi.NoEscape", "internal/bytealg.IndexByteString", "internal/bytealg.IndexString"], named := ["unicode/utf8.first", "unicode/utf8.acceptRanges", "internal/bytealg.MaxLen"], apart := false, laid := [("unicode/utf8.acceptRanges", laid_unicode_utf8_acceptRanges), ("unicode/utf8.first", laid_unicode_utf8_first)] }
def NumIntsSaid : Prop := numIntsRow.holds Tryd.pinned (OpenSpec.ofChange numIntsSpec)

/-- ITS FALSE NEIGHBOUR: 'it returns false'. Refute it at one input. -/
def numIntsWrong : ChangeSpec := { name := "numInts", fn := fun _ => fun
  | [d1, d2] => { results := [.lit (.bool false)], args := [d1, d2] }
  | _ => none }
def NumIntsWrongFalsely : Prop := numIntsRow.holds Tryd.pinned (OpenSpec.ofChange numIntsWrong)

/-- 'florinlaw01.NumDivs': WHATEVER THE INPUT: true; the input reads as it did. -/
def numDivsSpec : ChangeSpec := { name := "numDivs", fn := fun _ => fun
  | [d1, d2] => { results := [.lit (.bool true)], args := [d1, d2] }
  | _ => none }
def numDivsRow : OpenClaim := { program := "ytefacokhmmpiaaadoor", sum := "951e728b4fd7204dc04f2d717edbc3afa0564f8a2f19656f288c5fc5f08e6315", func := "florin/florinlaw01.NumDivs", spec := "numDivs", inPlace := ["internal/abi.NoEscape", "internal/bytealg.IndexByteString", "internal/bytealg.IndexString"], named := ["unicode/utf8.first", "unicode/utf8.acceptRanges", "internal/bytealg.MaxLen"], apart := false, laid := [("unicode/utf8.acceptRanges", laid_unicode_utf8_acceptRanges), ("unicode/utf8.first", laid_unicode_utf8_first)] }
def NumDivsSaid : Prop := numDivsRow.holds Tryd.pinned (OpenSpec.ofChange numDivsSpec)

/-- ITS FALSE NEIGHBOUR: 'it returns false'. Refute it at one input. -/
def numDivsWrong : ChangeSpec := { name := "numDivs", fn := fun _ => fun
  | [d1, d2] => { results := [.lit (.bool false)], args := [d1, d2] }
  | _ => none }
def NumDivsWrongFalsely : Prop := numDivsRow.holds Tryd.pinned (OpenSpec.ofChange numDivsWrong)

/-- 'florinlaw01.NumAdds': WHATEVER THE INPUT: true; the input reads as it did. -/
def numAddsSpec : ChangeSpec := { name := "numAdds", fn := fun _ => fun
  | [d1, d2] => { results := [.lit (.bool true)], args := [d1, d2] }
  | _ => none }
def numAddsRow : OpenClaim := { program := "ytefacokhmmpiaaadoor", sum := "951e728b4fd7204dc04f2d717edbc3afa0564f8a2f19656f288c5fc5f08e6315", func := "florin/florinlaw01.NumAdds", spec := "numAdds", inPlace := ["internal/abi.NoEscape", "internal/bytealg.IndexByteString", "internal/bytealg.IndexString", "internal/bytealg.abigen_runtime_cmpstring"], named := ["unicode/utf8.first", "unicode/utf8.acceptRanges", "internal/bytealg.MaxLen"], apart := false, laid := [("unicode/utf8.acceptRanges", laid_unicode_utf8_acceptRanges), ("unicode/utf8.first", laid_unicode_utf8_first)] }
def NumAddsSaid : Prop := numAddsRow.holds Tryd.pinned (OpenSpec.ofChange numAddsSpec)

/-- ITS FALSE NEIGHBOUR: 'it returns false'. Refute it at one input. -/
def numAddsWrong : ChangeSpec := { name := "numAdds", fn := fun _ => fun
  | [d1, d2] => { results := [.lit (.bool false)], args := [d1, d2] }
  | _ => none }
def NumAddsWrongFalsely : Prop := numAddsRow.holds Tryd.pinned (OpenSpec.ofChange numAddsWrong)

/-- 'florinlaw01.NumSubs': WHATEVER THE INPUT: true; the input reads as it did. -/
def numSubsSpec : ChangeSpec := { name := "numSubs", fn := fun _ => fun
  | [d1, d2] => { results := [.lit (.bool true)], args := [d1, d2] }
  | _ => none }
def numSubsRow : OpenClaim := { program := "ytefacokhmmpiaaadoor", sum := "951e728b4fd7204dc04f2d717edbc3afa0564f8a2f19656f288c5fc5f08e6315", func := "florin/florinlaw01.NumSubs", spec := "numSubs", inPlace := ["internal/abi.NoEscape", "internal/bytealg.IndexByteString", "internal/bytealg.IndexString", "internal/bytealg.abigen_runtime_cmpstring"], named := ["unicode/utf8.first", "unicode/utf8.acceptRanges", "internal/bytealg.MaxLen"], apart := false, laid := [("unicode/utf8.acceptRanges", laid_unicode_utf8_acceptRanges), ("unicode/utf8.first", laid_unicode_utf8_first)] }
def NumSubsSaid : Prop := numSubsRow.holds Tryd.pinned (OpenSpec.ofChange numSubsSpec)

/-- ITS FALSE NEIGHBOUR: 'it returns false'. Refute it at one input. -/
def numSubsWrong : ChangeSpec := { name := "numSubs", fn := fun _ => fun
  | [d1, d2] => { results := [.lit (.bool false)], args := [d1, d2] }
  | _ => none }
def NumSubsWrongFalsely : Prop := numSubsRow.holds Tryd.pinned (OpenSpec.ofChange numSubsWrong)

/-- 'florinlaw01.NumTexts': WHATEVER THE INPUT: true; the input reads as it did. -/
def numTextsSpec : ChangeSpec := { name := "numTexts", fn := fun _ => fun
  | [d1, d2] => { results := [.lit (.bool true)], args := [d1, d2] }
  | _ => none }
def numTextsRow : OpenClaim := { program := "ytefacokhmmpiaaadoor", sum := "951e728b4fd7204dc04f2d717edbc3afa0564f8a2f19656f288c5fc5f08e6315", func := "florin/florinlaw01.NumTexts", spec := "numTexts", inPlace := ["internal/abi.NoEscape", "internal/bytealg.IndexByteString", "internal/bytealg.IndexString", "internal/bytealg.abigen_runtime_cmpstring"], named := ["unicode/utf8.first", "unicode/utf8.acceptRanges", "internal/bytealg.MaxLen"], apart := false, laid := [("unicode/utf8.acceptRanges", laid_unicode_utf8_acceptRanges), ("unicode/utf8.first", laid_unicode_utf8_first)] }
def NumTextsSaid : Prop := numTextsRow.holds Tryd.pinned (OpenSpec.ofChange numTextsSpec)

/-- ITS FALSE NEIGHBOUR: 'it returns false'. Refute it at one input. -/
def numTextsWrong : ChangeSpec := { name := "numTexts", fn := fun _ => fun
  | [d1, d2] => { results := [.lit (.bool false)], args := [d1, d2] }
  | _ => none }
def NumTextsWrongFalsely : Prop := numTextsRow.holds Tryd.pinned (OpenSpec.ofChange numTextsWrong)

/-- 'florinlaw01.NumSmall': WHATEVER THE INPUT: true; the input reads as it did. -/
def numSmallSpec : ChangeSpec := { name := "numSmall", fn := fun _ => fun
  | [d1, d2, d3] => { results := [.lit (.bool true)], args := [d1, d2, d3] }
  | _ => none }
def numSmallRow : OpenClaim := { program := "ytefacokhmmpiaaadoor", sum := "951e728b4fd7204dc04f2d717edbc3afa0564f8a2f19656f288c5fc5f08e6315", func := "florin/florinlaw01.NumSmall", spec := "numSmall", inPlace := ["internal/abi.NoEscape", "internal/bytealg.IndexByteString", "internal/bytealg.IndexString", "internal/bytealg.abigen_runtime_cmpstring"], named := ["unicode/utf8.first", "unicode/utf8.acceptRanges", "internal/bytealg.MaxLen"], apart := false, laid := [("unicode/utf8.acceptRanges", laid_unicode_utf8_acceptRanges), ("unicode/utf8.first", laid_unicode_utf8_first)] }
def NumSmallSaid : Prop := numSmallRow.holds Tryd.pinned (OpenSpec.ofChange numSmallSpec)

/-- ITS FALSE NEIGHBOUR: 'it returns false'. Refute it at one input. -/
def numSmallWrong : ChangeSpec := { name := "numSmall", fn := fun _ => fun
  | [d1, d2, d3] => { results := [.lit (.bool false)], args := [d1, d2, d3] }
  | _ => none }
def NumSmallWrongFalsely : Prop := numSmallRow.holds Tryd.pinned (OpenSpec.ofChange numSmallWrong)

/-- 'florinlaw01.NumShifts': WHATEVER THE INPUT: true; the input reads as it did. -/
def numShiftsSpec : ChangeSpec := { name := "numShifts", fn := fun _ => fun
  | [d1, d2] => { results := [.lit (.bool true)], args := [d1, d2] }
  | _ => none }
def numShiftsRow : OpenClaim := { program := "ytefacokhmmpiaaadoor", sum := "951e728b4fd7204dc04f2d717edbc3afa0564f8a2f19656f288c5fc5f08e6315", func := "florin/florinlaw01.NumShifts", spec := "numShifts", inPlace := ["internal/abi.NoEscape", "internal/bytealg.IndexByteString", "internal/bytealg.IndexString", "internal/bytealg.MakeNoZero"], named := ["unicode/utf8.first", "unicode/utf8.acceptRanges", "internal/bytealg.MaxLen"], apart := false, laid := [("unicode/utf8.acceptRanges", laid_unicode_utf8_acceptRanges), ("unicode/utf8.first", laid_unicode_utf8_first)] }
def NumShiftsSaid : Prop := numShiftsRow.holds Tryd.pinned (OpenSpec.ofChange numShiftsSpec)

/-- ITS FALSE NEIGHBOUR: 'it returns false'. Refute it at one input. -/
def numShiftsWrong : ChangeSpec := { name := "numShifts", fn := fun _ => fun
  | [d1, d2] => { results := [.lit (.bool false)], args := [d1, d2] }
  | _ => none }
def NumShiftsWrongFalsely : Prop := numShiftsRow.holds Tryd.pinned (OpenSpec.ofChange numShiftsWrong)

/-- 'florinlaw01.NumCmps': WHATEVER THE INPUT: true; the input reads as it did. -/
def numCmpsSpec : ChangeSpec := { name := "numCmps", fn := fun _ => fun
  | [d1, d2, d3] => { results := [.lit (.bool true)], args := [d1, d2, d3] }
  | _ => none }
def numCmpsRow : OpenClaim := { program := "ytefacokhmmpiaaadoor", sum := "951e728b4fd7204dc04f2d717edbc3afa0564f8a2f19656f288c5fc5f08e6315", func := "florin/florinlaw01.NumCmps", spec := "numCmps", inPlace := ["internal/abi.NoEscape", "internal/bytealg.IndexByteString", "internal/bytealg.IndexString", "internal/bytealg.MakeNoZero", "internal/bytealg.abigen_runtime_cmpstring"], named := ["unicode/utf8.first", "unicode/utf8.acceptRanges", "internal/bytealg.MaxLen"], apart := false, laid := [("unicode/utf8.acceptRanges", laid_unicode_utf8_acceptRanges), ("unicode/utf8.first", laid_unicode_utf8_first)] }
def NumCmpsSaid : Prop := numCmpsRow.holds Tryd.pinned (OpenSpec.ofChange numCmpsSpec)

/-- ITS FALSE NEIGHBOUR: 'it returns false'. Refute it at one input. -/
def numCmpsWrong : ChangeSpec := { name := "numCmps", fn := fun _ => fun
  | [d1, d2, d3] => { results := [.lit (.bool false)], args := [d1, d2, d3] }
  | _ => none }
def NumCmpsWrongFalsely : Prop := numCmpsRow.holds Tryd.pinned (OpenSpec.ofChange numCmpsWrong)

/- THE SECOND FORM. 'bulk': how many values and letters a reading holds, each counted each time it is reached (what is shared counts as often as it is met; a slice's spare places count too). A statement '..UptoSaid' is the law's where the arguments, and the package variables that the reading takes, are together of bulk at most 1048576: NARROWER than '..Said'. Prove '..Said' where nothing that the law and all that it calls make is longer than what came in: it says more and counts as full. Else prove '..UptoSaid'. A law counts once. -/
mutual
def uptoBulk {H : Type} : DataW H → Nat
  | .lit (.string bytes) => bytes.length + 1
  | .lit _ => 1
  | .nil => 1
  | .ptr d => uptoBulk d + 1
  | .slice elems spare => uptoBulkAll elems + uptoBulkAll spare + 1
  | .agg parts => uptoBulkAll parts + 1
  | .iface _ d => uptoBulk d + 1
  | .map entries => uptoBulkEntries entries + 1
  | .held _ => 1
def uptoBulkAll {H : Type} : List (DataW H) → Nat
  | [] => 0
  | d :: r => uptoBulk d + uptoBulkAll r
def uptoBulkEntries {H : Type} : List (Lit × DataW H) → Nat
  | [] => 0
  | x :: r => uptoBulkEntry x + uptoBulkEntries r
def uptoBulkEntry {H : Type} : Lit × DataW H → Nat
  | (.string bytes, d) => bytes.length + uptoBulk d + 1
  | (_, d) => uptoBulk d + 1
 end
def uptoSmall : (H : Type) → List (DataW H) → Bool := fun _ ds => decide (uptoBulkAll ds ≤ 1048576)
def OpenSpec.upto (s : _root_.Go.ChangeSpec) : _root_.Go.OpenSpec := { _root_.Go.OpenSpec.ofChange s with cond := some uptoSmall }

/-- 'florinlaw01.NumTimes', WHERE WHAT IT READS IS OF BULK AT MOST 1048576: true; the input reads as it did. -/
def numTimesUptoRow : OpenClaim := { program := "ytefacokhmmpiaaadoor", sum := "951e728b4fd7204dc04f2d717edbc3afa0564f8a2f19656f288c5fc5f08e6315", func := "florin/florinlaw01.NumTimes", spec := "numTimes", inPlace := ["internal/abi.NoEscape", "internal/bytealg.IndexByteString", "internal/bytealg.IndexString"], named := ["unicode/utf8.first", "unicode/utf8.acceptRanges", "internal/bytealg.MaxLen"], apart := false, laid := [("unicode/utf8.acceptRanges", laid_unicode_utf8_acceptRanges), ("unicode/utf8.first", laid_unicode_utf8_first)], narrowed := true }
def NumTimesUptoSaid : Prop := numTimesUptoRow.holds Tryd.pinned (OpenSpec.upto numTimesSpec)

/-- 'florinlaw01.NumInts', WHERE WHAT IT READS IS OF BULK AT MOST 1048576: true; the input reads as it did. -/
def numIntsUptoRow : OpenClaim := { program := "ytefacokhmmpiaaadoor", sum := "951e728b4fd7204dc04f2d717edbc3afa0564f8a2f19656f288c5fc5f08e6315", func := "florin/florinlaw01.NumInts", spec := "numInts", inPlace := ["internal/abi.NoEscape", "internal/bytealg.IndexByteString", "internal/bytealg.IndexString"], named := ["unicode/utf8.first", "unicode/utf8.acceptRanges", "internal/bytealg.MaxLen"], apart := false, laid := [("unicode/utf8.acceptRanges", laid_unicode_utf8_acceptRanges), ("unicode/utf8.first", laid_unicode_utf8_first)], narrowed := true }
def NumIntsUptoSaid : Prop := numIntsUptoRow.holds Tryd.pinned (OpenSpec.upto numIntsSpec)

/-- 'florinlaw01.NumDivs', WHERE WHAT IT READS IS OF BULK AT MOST 1048576: true; the input reads as it did. -/
def numDivsUptoRow : OpenClaim := { program := "ytefacokhmmpiaaadoor", sum := "951e728b4fd7204dc04f2d717edbc3afa0564f8a2f19656f288c5fc5f08e6315", func := "florin/florinlaw01.NumDivs", spec := "numDivs", inPlace := ["internal/abi.NoEscape", "internal/bytealg.IndexByteString", "internal/bytealg.IndexString"], named := ["unicode/utf8.first", "unicode/utf8.acceptRanges", "internal/bytealg.MaxLen"], apart := false, laid := [("unicode/utf8.acceptRanges", laid_unicode_utf8_acceptRanges), ("unicode/utf8.first", laid_unicode_utf8_first)], narrowed := true }
def NumDivsUptoSaid : Prop := numDivsUptoRow.holds Tryd.pinned (OpenSpec.upto numDivsSpec)

/-- 'florinlaw01.NumAdds', WHERE WHAT IT READS IS OF BULK AT MOST 1048576: true; the input reads as it did. -/
def numAddsUptoRow : OpenClaim := { program := "ytefacokhmmpiaaadoor", sum := "951e728b4fd7204dc04f2d717edbc3afa0564f8a2f19656f288c5fc5f08e6315", func := "florin/florinlaw01.NumAdds", spec := "numAdds", inPlace := ["internal/abi.NoEscape", "internal/bytealg.IndexByteString", "internal/bytealg.IndexString", "internal/bytealg.abigen_runtime_cmpstring"], named := ["unicode/utf8.first", "unicode/utf8.acceptRanges", "internal/bytealg.MaxLen"], apart := false, laid := [("unicode/utf8.acceptRanges", laid_unicode_utf8_acceptRanges), ("unicode/utf8.first", laid_unicode_utf8_first)], narrowed := true }
def NumAddsUptoSaid : Prop := numAddsUptoRow.holds Tryd.pinned (OpenSpec.upto numAddsSpec)

/-- 'florinlaw01.NumSubs', WHERE WHAT IT READS IS OF BULK AT MOST 1048576: true; the input reads as it did. -/
def numSubsUptoRow : OpenClaim := { program := "ytefacokhmmpiaaadoor", sum := "951e728b4fd7204dc04f2d717edbc3afa0564f8a2f19656f288c5fc5f08e6315", func := "florin/florinlaw01.NumSubs", spec := "numSubs", inPlace := ["internal/abi.NoEscape", "internal/bytealg.IndexByteString", "internal/bytealg.IndexString", "internal/bytealg.abigen_runtime_cmpstring"], named := ["unicode/utf8.first", "unicode/utf8.acceptRanges", "internal/bytealg.MaxLen"], apart := false, laid := [("unicode/utf8.acceptRanges", laid_unicode_utf8_acceptRanges), ("unicode/utf8.first", laid_unicode_utf8_first)], narrowed := true }
def NumSubsUptoSaid : Prop := numSubsUptoRow.holds Tryd.pinned (OpenSpec.upto numSubsSpec)

/-- 'florinlaw01.NumTexts', WHERE WHAT IT READS IS OF BULK AT MOST 1048576: true; the input reads as it did. -/
def numTextsUptoRow : OpenClaim := { program := "ytefacokhmmpiaaadoor", sum := "951e728b4fd7204dc04f2d717edbc3afa0564f8a2f19656f288c5fc5f08e6315", func := "florin/florinlaw01.NumTexts", spec := "numTexts", inPlace := ["internal/abi.NoEscape", "internal/bytealg.IndexByteString", "internal/bytealg.IndexString", "internal/bytealg.abigen_runtime_cmpstring"], named := ["unicode/utf8.first", "unicode/utf8.acceptRanges", "internal/bytealg.MaxLen"], apart := false, laid := [("unicode/utf8.acceptRanges", laid_unicode_utf8_acceptRanges), ("unicode/utf8.first", laid_unicode_utf8_first)], narrowed := true }
def NumTextsUptoSaid : Prop := numTextsUptoRow.holds Tryd.pinned (OpenSpec.upto numTextsSpec)

/-- 'florinlaw01.NumSmall', WHERE WHAT IT READS IS OF BULK AT MOST 1048576: true; the input reads as it did. -/
def numSmallUptoRow : OpenClaim := { program := "ytefacokhmmpiaaadoor", sum := "951e728b4fd7204dc04f2d717edbc3afa0564f8a2f19656f288c5fc5f08e6315", func := "florin/florinlaw01.NumSmall", spec := "numSmall", inPlace := ["internal/abi.NoEscape", "internal/bytealg.IndexByteString", "internal/bytealg.IndexString", "internal/bytealg.abigen_runtime_cmpstring"], named := ["unicode/utf8.first", "unicode/utf8.acceptRanges", "internal/bytealg.MaxLen"], apart := false, laid := [("unicode/utf8.acceptRanges", laid_unicode_utf8_acceptRanges), ("unicode/utf8.first", laid_unicode_utf8_first)], narrowed := true }
def NumSmallUptoSaid : Prop := numSmallUptoRow.holds Tryd.pinned (OpenSpec.upto numSmallSpec)

/-- 'florinlaw01.NumShifts', WHERE WHAT IT READS IS OF BULK AT MOST 1048576: true; the input reads as it did. -/
def numShiftsUptoRow : OpenClaim := { program := "ytefacokhmmpiaaadoor", sum := "951e728b4fd7204dc04f2d717edbc3afa0564f8a2f19656f288c5fc5f08e6315", func := "florin/florinlaw01.NumShifts", spec := "numShifts", inPlace := ["internal/abi.NoEscape", "internal/bytealg.IndexByteString", "internal/bytealg.IndexString", "internal/bytealg.MakeNoZero"], named := ["unicode/utf8.first", "unicode/utf8.acceptRanges", "internal/bytealg.MaxLen"], apart := false, laid := [("unicode/utf8.acceptRanges", laid_unicode_utf8_acceptRanges), ("unicode/utf8.first", laid_unicode_utf8_first)], narrowed := true }
def NumShiftsUptoSaid : Prop := numShiftsUptoRow.holds Tryd.pinned (OpenSpec.upto numShiftsSpec)

/-- 'florinlaw01.NumCmps', WHERE WHAT IT READS IS OF BULK AT MOST 1048576: true; the input reads as it did. -/
def numCmpsUptoRow : OpenClaim := { program := "ytefacokhmmpiaaadoor", sum := "951e728b4fd7204dc04f2d717edbc3afa0564f8a2f19656f288c5fc5f08e6315", func := "florin/florinlaw01.NumCmps", spec := "numCmps", inPlace := ["internal/abi.NoEscape", "internal/bytealg.IndexByteString", "internal/bytealg.IndexString", "internal/bytealg.MakeNoZero", "internal/bytealg.abigen_runtime_cmpstring"], named := ["unicode/utf8.first", "unicode/utf8.acceptRanges", "internal/bytealg.MaxLen"], apart := false, laid := [("unicode/utf8.acceptRanges", laid_unicode_utf8_acceptRanges), ("unicode/utf8.first", laid_unicode_utf8_first)], narrowed := true }
def NumCmpsUptoSaid : Prop := numCmpsUptoRow.holds Tryd.pinned (OpenSpec.upto numCmpsSpec)

end Rows
end Go.Proofs.YtefacokhmmpiaaaDoor
