/-
  NARROWER THAN 'FOR EVERY INPUT', by the rows' own cells (each row's printed sentence says how): RoundTwice: laid · RoundSigns: laid · RoundBounds: laid · RoundAt: laid · RoundSig: laid · RoundAgain: laid · RoundStep: laid.
  DERIVED. THE GIVEN ROWS OF THIS SEAT. 7 by the template 'for every input the law returns true; each argument reads behind the call as it read before'; 0 by the template 'total and deterministic' (their statements: YtoegmienlhgjnaaDoorTotals.lean).
  GIVEN WITH THE SEED: the statements are not yours to turn. If you find one false, say at which input.
  Laid BY PROGRAM, IN A SANDBOX (cutbox-rows.mjs): the forced cells as the released guide's own fill.sh prints them over the translation e230924168c9a563… (all of the seat's roots in one cut). By AI agents, Wed Nov 11 2026. No macro, syntax, notation, axiom, sorry.
-/
import Derived.Test.YtoegmienlhgjnaaDoorChecked
import GoSem.PinnedTables
import GoSem.Claim
import GoSem.ClaimJoined
import GoSem.ClaimMapViews
import Derived.JoinedTies
import Derived.KernelRfl
namespace Go.Proofs.YtoegmienlhgjnaaDoor
/- THE CELL 'sum', in the pinned program and in every row, IS THE sha256 OF THE DUMP (.gsa) THAT YtoegmienlhgjnaaDoorProg.lean LOADS. Nothing in Lean hashes anything: it is a label: what it is worth is what the hold of that sum in a sandbox is worth. -/
noncomputable def Tryd.pinned : Pinned := { name := "ytoegmienlhgjnaadoor", sum := "e230924168c9a563ff3c4d84f6d44f232d69ae29dd701cb098823dadc221967a", checked := Tryd.checked }
namespace Rows
def none {H : Type} : Left H := { results := [], args := [] }

/- WHAT THE LISTED PACKAGE-LEVEL VARIABLES READ AS WHEN THE CALL BEGINS. Each datum BY PROGRAM (the guide's laid-datum.mjs) off the statement by which the dump's own 'gosem.cut.vars' lays the variable. In a bare row this is a premise. The card (YtoegmienlhgjnaaDoorCards.lean) ties it to the program's text. -/
def laid_unicode_utf8_acceptRanges {H : Type} : DataW H := .agg [.agg [.lit (.int .u8 128), .lit (.int .u8 191)], .agg [.lit (.int .u8 160), .lit (.int .u8 191)], .agg [.lit (.int .u8 128), .lit (.int .u8 159)], .agg [.lit (.int .u8 144), .lit (.int .u8 191)], .agg [.lit (.int .u8 128), .lit (.int .u8 143)], .agg [.lit (.int .u8 0), .lit (.int .u8 0)], .agg [.lit (.int .u8 0), .lit (.int .u8 0)], .agg [.lit (.int .u8 0), .lit (.int .u8 0)], .agg [.lit (.int .u8 0), .lit (.int .u8 0)], .agg [.lit (.int .u8 0), .lit (.int .u8 0)], .agg [.lit (.int .u8 0), .lit (.int .u8 0)], .agg [.lit (.int .u8 0), .lit (.int .u8 0)], .agg [.lit (.int .u8 0), .lit (.int .u8 0)], .agg [.lit (.int .u8 0), .lit (.int .u8 0)], .agg [.lit (.int .u8 0), .lit (.int .u8 0)], .agg [.lit (.int .u8 0), .lit (.int .u8 0)]]
/-- One of Go's own tables, pinned by name: the form's constant. -/
def laid_unicode_utf8_first : DataW Unit := Go.Pinned.utf8First

/-- 'florinlaw03.RoundTwice': WHATEVER THE INPUT: true; the input reads as it did. -/
def roundTwiceSpec : ChangeSpec := { name := "roundTwice", fn := fun _ => fun
  | [d1, d2, d3, d4] => { results := [.lit (.bool true)], args := [d1, d2, d3, d4] }
  | _ => none }
def roundTwiceRow : OpenClaim := { program := "ytoegmienlhgjnaadoor", sum := "e230924168c9a563ff3c4d84f6d44f232d69ae29dd701cb098823dadc221967a", func := "florin/florinlaw03.RoundTwice", spec := "roundTwice", inPlace := ["internal/bytealg.IndexByteString", "internal/bytealg.IndexString", "internal/abi.NoEscape", "internal/bytealg.MakeNoZero"], named := ["unicode/utf8.first", "unicode/utf8.acceptRanges", "internal/bytealg.MaxLen"], apart := false, laid := [("unicode/utf8.acceptRanges", laid_unicode_utf8_acceptRanges), ("unicode/utf8.first", laid_unicode_utf8_first)] }
def RoundTwiceSaid : Prop := roundTwiceRow.holds Tryd.pinned (OpenSpec.ofChange roundTwiceSpec)

/-- ITS FALSE NEIGHBOUR: 'it returns false'. Refute it at one input. -/
def roundTwiceWrong : ChangeSpec := { name := "roundTwice", fn := fun _ => fun
  | [d1, d2, d3, d4] => { results := [.lit (.bool false)], args := [d1, d2, d3, d4] }
  | _ => none }
def RoundTwiceWrongFalsely : Prop := roundTwiceRow.holds Tryd.pinned (OpenSpec.ofChange roundTwiceWrong)

/-- 'florinlaw03.RoundSigns': WHATEVER THE INPUT: true; the input reads as it did. -/
def roundSignsSpec : ChangeSpec := { name := "roundSigns", fn := fun _ => fun
  | [d1, d2, d3] => { results := [.lit (.bool true)], args := [d1, d2, d3] }
  | _ => none }
def roundSignsRow : OpenClaim := { program := "ytoegmienlhgjnaadoor", sum := "e230924168c9a563ff3c4d84f6d44f232d69ae29dd701cb098823dadc221967a", func := "florin/florinlaw03.RoundSigns", spec := "roundSigns", inPlace := ["internal/bytealg.IndexByteString", "internal/bytealg.IndexString", "internal/abi.NoEscape", "internal/bytealg.MakeNoZero", "internal/bytealg.abigen_runtime_cmpstring"], named := ["unicode/utf8.first", "unicode/utf8.acceptRanges", "internal/bytealg.MaxLen"], apart := false, laid := [("unicode/utf8.acceptRanges", laid_unicode_utf8_acceptRanges), ("unicode/utf8.first", laid_unicode_utf8_first)] }
def RoundSignsSaid : Prop := roundSignsRow.holds Tryd.pinned (OpenSpec.ofChange roundSignsSpec)

/-- ITS FALSE NEIGHBOUR: 'it returns false'. Refute it at one input. -/
def roundSignsWrong : ChangeSpec := { name := "roundSigns", fn := fun _ => fun
  | [d1, d2, d3] => { results := [.lit (.bool false)], args := [d1, d2, d3] }
  | _ => none }
def RoundSignsWrongFalsely : Prop := roundSignsRow.holds Tryd.pinned (OpenSpec.ofChange roundSignsWrong)

/-- 'florinlaw03.RoundBounds': WHATEVER THE INPUT: true; the input reads as it did. -/
def roundBoundsSpec : ChangeSpec := { name := "roundBounds", fn := fun _ => fun
  | [d1, d2, d3] => { results := [.lit (.bool true)], args := [d1, d2, d3] }
  | _ => none }
def roundBoundsRow : OpenClaim := { program := "ytoegmienlhgjnaadoor", sum := "e230924168c9a563ff3c4d84f6d44f232d69ae29dd701cb098823dadc221967a", func := "florin/florinlaw03.RoundBounds", spec := "roundBounds", inPlace := ["internal/bytealg.IndexByteString", "internal/bytealg.IndexString", "internal/abi.NoEscape", "internal/bytealg.MakeNoZero"], named := ["unicode/utf8.first", "unicode/utf8.acceptRanges", "internal/bytealg.MaxLen"], apart := false, laid := [("unicode/utf8.acceptRanges", laid_unicode_utf8_acceptRanges), ("unicode/utf8.first", laid_unicode_utf8_first)] }
def RoundBoundsSaid : Prop := roundBoundsRow.holds Tryd.pinned (OpenSpec.ofChange roundBoundsSpec)

/-- ITS FALSE NEIGHBOUR: 'it returns false'. Refute it at one input. -/
def roundBoundsWrong : ChangeSpec := { name := "roundBounds", fn := fun _ => fun
  | [d1, d2, d3] => { results := [.lit (.bool false)], args := [d1, d2, d3] }
  | _ => none }
def RoundBoundsWrongFalsely : Prop := roundBoundsRow.holds Tryd.pinned (OpenSpec.ofChange roundBoundsWrong)

/-- 'florinlaw03.RoundAt': WHATEVER THE INPUT: true; the input reads as it did. -/
def roundAtSpec : ChangeSpec := { name := "roundAt", fn := fun _ => fun
  | [d1, d2, d3] => { results := [.lit (.bool true)], args := [d1, d2, d3] }
  | _ => none }
def roundAtRow : OpenClaim := { program := "ytoegmienlhgjnaadoor", sum := "e230924168c9a563ff3c4d84f6d44f232d69ae29dd701cb098823dadc221967a", func := "florin/florinlaw03.RoundAt", spec := "roundAt", inPlace := ["internal/bytealg.IndexByteString", "internal/bytealg.IndexString", "internal/abi.NoEscape", "internal/bytealg.MakeNoZero", "internal/bytealg.abigen_runtime_cmpstring"], named := ["unicode/utf8.first", "unicode/utf8.acceptRanges", "internal/bytealg.MaxLen"], apart := false, laid := [("unicode/utf8.acceptRanges", laid_unicode_utf8_acceptRanges), ("unicode/utf8.first", laid_unicode_utf8_first)] }
def RoundAtSaid : Prop := roundAtRow.holds Tryd.pinned (OpenSpec.ofChange roundAtSpec)

/-- ITS FALSE NEIGHBOUR: 'it returns false'. Refute it at one input. -/
def roundAtWrong : ChangeSpec := { name := "roundAt", fn := fun _ => fun
  | [d1, d2, d3] => { results := [.lit (.bool false)], args := [d1, d2, d3] }
  | _ => none }
def RoundAtWrongFalsely : Prop := roundAtRow.holds Tryd.pinned (OpenSpec.ofChange roundAtWrong)

/-- 'florinlaw03.RoundSig': WHATEVER THE INPUT: true; the input reads as it did. -/
def roundSigSpec : ChangeSpec := { name := "roundSig", fn := fun _ => fun
  | [d1, d2, d3] => { results := [.lit (.bool true)], args := [d1, d2, d3] }
  | _ => none }
def roundSigRow : OpenClaim := { program := "ytoegmienlhgjnaadoor", sum := "e230924168c9a563ff3c4d84f6d44f232d69ae29dd701cb098823dadc221967a", func := "florin/florinlaw03.RoundSig", spec := "roundSig", inPlace := ["internal/bytealg.IndexByteString", "internal/bytealg.IndexString", "internal/abi.NoEscape", "internal/bytealg.MakeNoZero", "internal/bytealg.abigen_runtime_cmpstring"], named := ["unicode/utf8.first", "unicode/utf8.acceptRanges", "internal/bytealg.MaxLen"], apart := false, laid := [("unicode/utf8.acceptRanges", laid_unicode_utf8_acceptRanges), ("unicode/utf8.first", laid_unicode_utf8_first)] }
def RoundSigSaid : Prop := roundSigRow.holds Tryd.pinned (OpenSpec.ofChange roundSigSpec)

/-- ITS FALSE NEIGHBOUR: 'it returns false'. Refute it at one input. -/
def roundSigWrong : ChangeSpec := { name := "roundSig", fn := fun _ => fun
  | [d1, d2, d3] => { results := [.lit (.bool false)], args := [d1, d2, d3] }
  | _ => none }
def RoundSigWrongFalsely : Prop := roundSigRow.holds Tryd.pinned (OpenSpec.ofChange roundSigWrong)

/-- 'florinlaw03.RoundAgain': WHATEVER THE INPUT: true; the input reads as it did. -/
def roundAgainSpec : ChangeSpec := { name := "roundAgain", fn := fun _ => fun
  | [d1, d2, d3, d4] => { results := [.lit (.bool true)], args := [d1, d2, d3, d4] }
  | _ => none }
def roundAgainRow : OpenClaim := { program := "ytoegmienlhgjnaadoor", sum := "e230924168c9a563ff3c4d84f6d44f232d69ae29dd701cb098823dadc221967a", func := "florin/florinlaw03.RoundAgain", spec := "roundAgain", inPlace := ["internal/bytealg.IndexByteString", "internal/bytealg.IndexString", "internal/abi.NoEscape", "internal/bytealg.MakeNoZero", "internal/bytealg.abigen_runtime_cmpstring"], named := ["unicode/utf8.first", "unicode/utf8.acceptRanges", "internal/bytealg.MaxLen"], apart := false, laid := [("unicode/utf8.acceptRanges", laid_unicode_utf8_acceptRanges), ("unicode/utf8.first", laid_unicode_utf8_first)] }
def RoundAgainSaid : Prop := roundAgainRow.holds Tryd.pinned (OpenSpec.ofChange roundAgainSpec)

/-- ITS FALSE NEIGHBOUR: 'it returns false'. Refute it at one input. -/
def roundAgainWrong : ChangeSpec := { name := "roundAgain", fn := fun _ => fun
  | [d1, d2, d3, d4] => { results := [.lit (.bool false)], args := [d1, d2, d3, d4] }
  | _ => none }
def RoundAgainWrongFalsely : Prop := roundAgainRow.holds Tryd.pinned (OpenSpec.ofChange roundAgainWrong)

/-- 'florinlaw03.RoundStep': WHATEVER THE INPUT: true; the input reads as it did. -/
def roundStepSpec : ChangeSpec := { name := "roundStep", fn := fun _ => fun
  | [d1, d2, d3, d4] => { results := [.lit (.bool true)], args := [d1, d2, d3, d4] }
  | _ => none }
def roundStepRow : OpenClaim := { program := "ytoegmienlhgjnaadoor", sum := "e230924168c9a563ff3c4d84f6d44f232d69ae29dd701cb098823dadc221967a", func := "florin/florinlaw03.RoundStep", spec := "roundStep", inPlace := ["internal/bytealg.IndexByteString", "internal/bytealg.IndexString", "internal/abi.NoEscape", "internal/bytealg.MakeNoZero", "internal/bytealg.abigen_runtime_cmpstring"], named := ["unicode/utf8.first", "unicode/utf8.acceptRanges", "internal/bytealg.MaxLen"], apart := false, laid := [("unicode/utf8.acceptRanges", laid_unicode_utf8_acceptRanges), ("unicode/utf8.first", laid_unicode_utf8_first)] }
def RoundStepSaid : Prop := roundStepRow.holds Tryd.pinned (OpenSpec.ofChange roundStepSpec)

/-- ITS FALSE NEIGHBOUR: 'it returns false'. Refute it at one input. -/
def roundStepWrong : ChangeSpec := { name := "roundStep", fn := fun _ => fun
  | [d1, d2, d3, d4] => { results := [.lit (.bool false)], args := [d1, d2, d3, d4] }
  | _ => none }
def RoundStepWrongFalsely : Prop := roundStepRow.holds Tryd.pinned (OpenSpec.ofChange roundStepWrong)

/- THE SECOND FORM. 'bulk': how many values and letters a reading holds, each counted each time it is reached (what is shared counts as often as it is met; a slice's spare places count too). A statement '..UptoSaid' is the law's where the arguments, and the package variables that the reading takes, are together of bulk at most 1048576: NARROWER than '..Said'. Prove '..Said' where nothing that the law and all that it calls make is longer than what came in: it says more and counts as full. Else prove '..UptoSaid'. A law counts once. -/
mutual
def uptoBulk {H : Type} : DataW H → Nat
  | .lit (.string bytes) => bytes.length + 1
  | .lit _ => 1
  | .nil => 1
  | .ptr d => uptoBulk d + 1
  | .slice elems spare => uptoBulkAll elems + uptoBulkAll spare + 1
  | .agg parts => uptoBulkAll parts + 1
  | .iface _ d => uptoBulk d + 1
  | .map entries => uptoBulkEntries entries + 1
  | .held _ => 1
def uptoBulkAll {H : Type} : List (DataW H) → Nat
  | [] => 0
  | d :: r => uptoBulk d + uptoBulkAll r
def uptoBulkEntries {H : Type} : List (Lit × DataW H) → Nat
  | [] => 0
  | x :: r => uptoBulkEntry x + uptoBulkEntries r
def uptoBulkEntry {H : Type} : Lit × DataW H → Nat
  | (.string bytes, d) => bytes.length + uptoBulk d + 1
  | (_, d) => uptoBulk d + 1
 end
def uptoSmall : (H : Type) → List (DataW H) → Bool := fun _ ds => decide (uptoBulkAll ds ≤ 1048576)
def OpenSpec.upto (s : _root_.Go.ChangeSpec) : _root_.Go.OpenSpec := { _root_.Go.OpenSpec.ofChange s with cond := some uptoSmall }

/-- 'florinlaw03.RoundTwice', WHERE WHAT IT READS IS OF BULK AT MOST 1048576: true; the input reads as it did. -/
def roundTwiceUptoRow : OpenClaim := { program := "ytoegmienlhgjnaadoor", sum := "e230924168c9a563ff3c4d84f6d44f232d69ae29dd701cb098823dadc221967a", func := "florin/florinlaw03.RoundTwice", spec := "roundTwice", inPlace := ["internal/bytealg.IndexByteString", "internal/bytealg.IndexString", "internal/abi.NoEscape", "internal/bytealg.MakeNoZero"], named := ["unicode/utf8.first", "unicode/utf8.acceptRanges", "internal/bytealg.MaxLen"], apart := false, laid := [("unicode/utf8.acceptRanges", laid_unicode_utf8_acceptRanges), ("unicode/utf8.first", laid_unicode_utf8_first)], narrowed := true }
def RoundTwiceUptoSaid : Prop := roundTwiceUptoRow.holds Tryd.pinned (OpenSpec.upto roundTwiceSpec)

/-- 'florinlaw03.RoundSigns', WHERE WHAT IT READS IS OF BULK AT MOST 1048576: true; the input reads as it did. -/
def roundSignsUptoRow : OpenClaim := { program := "ytoegmienlhgjnaadoor", sum := "e230924168c9a563ff3c4d84f6d44f232d69ae29dd701cb098823dadc221967a", func := "florin/florinlaw03.RoundSigns", spec := "roundSigns", inPlace := ["internal/bytealg.IndexByteString", "internal/bytealg.IndexString", "internal/abi.NoEscape", "internal/bytealg.MakeNoZero", "internal/bytealg.abigen_runtime_cmpstring"], named := ["unicode/utf8.first", "unicode/utf8.acceptRanges", "internal/bytealg.MaxLen"], apart := false, laid := [("unicode/utf8.acceptRanges", laid_unicode_utf8_acceptRanges), ("unicode/utf8.first", laid_unicode_utf8_first)], narrowed := true }
def RoundSignsUptoSaid : Prop := roundSignsUptoRow.holds Tryd.pinned (OpenSpec.upto roundSignsSpec)

/-- 'florinlaw03.RoundBounds', WHERE WHAT IT READS IS OF BULK AT MOST 1048576: true; the input reads as it did. -/
def roundBoundsUptoRow : OpenClaim := { program := "ytoegmienlhgjnaadoor", sum := "e230924168c9a563ff3c4d84f6d44f232d69ae29dd701cb098823dadc221967a", func := "florin/florinlaw03.RoundBounds", spec := "roundBounds", inPlace := ["internal/bytealg.IndexByteString", "internal/bytealg.IndexString", "internal/abi.NoEscape", "internal/bytealg.MakeNoZero"], named := ["unicode/utf8.first", "unicode/utf8.acceptRanges", "internal/bytealg.MaxLen"], apart := false, laid := [("unicode/utf8.acceptRanges", laid_unicode_utf8_acceptRanges), ("unicode/utf8.first", laid_unicode_utf8_first)], narrowed := true }
def RoundBoundsUptoSaid : Prop := roundBoundsUptoRow.holds Tryd.pinned (OpenSpec.upto roundBoundsSpec)

/-- 'florinlaw03.RoundAt', WHERE WHAT IT READS IS OF BULK AT MOST 1048576: true; the input reads as it did. -/
def roundAtUptoRow : OpenClaim := { program := "ytoegmienlhgjnaadoor", sum := "e230924168c9a563ff3c4d84f6d44f232d69ae29dd701cb098823dadc221967a", func := "florin/florinlaw03.RoundAt", spec := "roundAt", inPlace := ["internal/bytealg.IndexByteString", "internal/bytealg.IndexString", "internal/abi.NoEscape", "internal/bytealg.MakeNoZero", "internal/bytealg.abigen_runtime_cmpstring"], named := ["unicode/utf8.first", "unicode/utf8.acceptRanges", "internal/bytealg.MaxLen"], apart := false, laid := [("unicode/utf8.acceptRanges", laid_unicode_utf8_acceptRanges), ("unicode/utf8.first", laid_unicode_utf8_first)], narrowed := true }
def RoundAtUptoSaid : Prop := roundAtUptoRow.holds Tryd.pinned (OpenSpec.upto roundAtSpec)

/-- 'florinlaw03.RoundSig', WHERE WHAT IT READS IS OF BULK AT MOST 1048576: true; the input reads as it did. -/
def roundSigUptoRow : OpenClaim := { program := "ytoegmienlhgjnaadoor", sum := "e230924168c9a563ff3c4d84f6d44f232d69ae29dd701cb098823dadc221967a", func := "florin/florinlaw03.RoundSig", spec := "roundSig", inPlace := ["internal/bytealg.IndexByteString", "internal/bytealg.IndexString", "internal/abi.NoEscape", "internal/bytealg.MakeNoZero", "internal/bytealg.abigen_runtime_cmpstring"], named := ["unicode/utf8.first", "unicode/utf8.acceptRanges", "internal/bytealg.MaxLen"], apart := false, laid := [("unicode/utf8.acceptRanges", laid_unicode_utf8_acceptRanges), ("unicode/utf8.first", laid_unicode_utf8_first)], narrowed := true }
def RoundSigUptoSaid : Prop := roundSigUptoRow.holds Tryd.pinned (OpenSpec.upto roundSigSpec)

/-- 'florinlaw03.RoundAgain', WHERE WHAT IT READS IS OF BULK AT MOST 1048576: true; the input reads as it did. -/
def roundAgainUptoRow : OpenClaim := { program := "ytoegmienlhgjnaadoor", sum := "e230924168c9a563ff3c4d84f6d44f232d69ae29dd701cb098823dadc221967a", func := "florin/florinlaw03.RoundAgain", spec := "roundAgain", inPlace := ["internal/bytealg.IndexByteString", "internal/bytealg.IndexString", "internal/abi.NoEscape", "internal/bytealg.MakeNoZero", "internal/bytealg.abigen_runtime_cmpstring"], named := ["unicode/utf8.first", "unicode/utf8.acceptRanges", "internal/bytealg.MaxLen"], apart := false, laid := [("unicode/utf8.acceptRanges", laid_unicode_utf8_acceptRanges), ("unicode/utf8.first", laid_unicode_utf8_first)], narrowed := true }
def RoundAgainUptoSaid : Prop := roundAgainUptoRow.holds Tryd.pinned (OpenSpec.upto roundAgainSpec)

/-- 'florinlaw03.RoundStep', WHERE WHAT IT READS IS OF BULK AT MOST 1048576: true; the input reads as it did. -/
def roundStepUptoRow : OpenClaim := { program := "ytoegmienlhgjnaadoor", sum := "e230924168c9a563ff3c4d84f6d44f232d69ae29dd701cb098823dadc221967a", func := "florin/florinlaw03.RoundStep", spec := "roundStep", inPlace := ["internal/bytealg.IndexByteString", "internal/bytealg.IndexString", "internal/abi.NoEscape", "internal/bytealg.MakeNoZero", "internal/bytealg.abigen_runtime_cmpstring"], named := ["unicode/utf8.first", "unicode/utf8.acceptRanges", "internal/bytealg.MaxLen"], apart := false, laid := [("unicode/utf8.acceptRanges", laid_unicode_utf8_acceptRanges), ("unicode/utf8.first", laid_unicode_utf8_first)], narrowed := true }
def RoundStepUptoSaid : Prop := roundStepUptoRow.holds Tryd.pinned (OpenSpec.upto roundStepSpec)

end Rows
end Go.Proofs.YtoegmienlhgjnaaDoor
