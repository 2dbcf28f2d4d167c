/- Whatever is written by the grammar of classes is read as it is meant. No condition of ours: the row's own cells; the listed variables hold what the program's text lays in them (the card ties that). -/
import Derived.Test.YtnpohgoacbpcjaaGreatDoorRows
import Derived.Test.YtnpohgoacbpcjaaGreatDoorPx17
import Derived.Test.YtnpohgoacbpcjaaGreatDoorLClassGrammar
import Derived.Test.YtnpohgoacbpcjaaGreatDoorOA
import Derived.Test.YtnpohgoacbpcjaaGreatDoorTie
import Derived.Test.YtnpohgoacbpcjaaGreatDoorCards
import Derived.LaidMore
import Derived.Lay
import Derived.SevenTiedAt
import Derived.Stop.Joined
import Derived.WalkKit
import Derived.ProofKit
import Derived.OpenShut
import Derived.ShutString
import Derived.ChangeOld
import Derived.Below
import Derived.SizedLaws
import Derived.Test.YtnpohgoacbpcjaaGreatDoorWSized
import Derived.Test.YtnpohgoacbpcjaaGreatDoorOB
import Derived.Lib.LaidU8
import Derived.PinnedBridge
namespace Go.Proofs.YtnpohgoacbpcjaaGreatDoor.classGrammar
open Go.ChangeShapes Go.WideShapes Go.ChangeAt Go.RowKit Go.Proofs.YtnpohgoacbpcjaaGreatDoorW.PrintWords Go.Proofs.YtnpohgoacbpcjaaGreatDoorW.PrintLast Go.Proofs.YtnpohgoacbpcjaaGreatDoorW.PrintMore
open Go.ChangeMaps (open_string shut_string)
set_option linter.unusedVariables false
theorem own : ownKnob Tryz.prog.godebug = none := by kernel_rfl
theorem laidOut : laidOutB Tryz.prog = true := by kernel_rfl
def IsRow (k : IntKind) (w : World) (a : Option Addr) (len cap : Nat) (zs : List Int) : Prop :=
  (a = none ∧ len = 0 ∧ cap = 0 ∧ zs = []) ∨
  ∃ x, a = some x ∧ len ≤ cap ∧ cap ≤ maxLen ∧ zs.length = cap ∧ (∀ i, i < zs.length → w.cell? (x.add i) = some (.int k (zs.getD i 0))) ∧ ∀ n ∈ zs, (Lit.int k n).wf = true
set_option maxRecDepth 100000 in
theorem lifted (os : Os) (started : os.Started) (H : Type) (enc : TypeId × Value → H) :
    ReturnsInHanded {} Tryz.checked os 4 .any (fun w args => (Rows.classGrammarSpec.pre enc Tryz.prog Tryz.f4 Rows.classGrammarRow.domain false w args ∧ laidMetH Tryz.prog Rows.classGrammarRow.laid w) ∧ sizedMet enc Tryz.prog Tryz.f4 (OpenSpec.ofChange Rows.classGrammarSpec) false w args)
      (Rows.classGrammarSpec.post enc Tryz.prog Tryz.f4 false true false false) := by
  refine returnsInHanded_of_change_and (C := Tryz.checked) (X := fun w _ => laidMetH Tryz.prog Rows.classGrammarRow.laid w) (fun _ _ _ hh h => h.of_heap hh) own started (by kernel_rfl) Tryz.func4
    (ChangeSpec.witness_shaped (enc := enc) (C := Tryz.checked) (os := os) (X := fun w _ => laidMetH Tryz.prog Rows.classGrammarRow.laid w) false (World.laidAll Tryz.prog os Rows.classGrammarRow.laid) #[.slice none 0 0, .bool false] 8 (World.laidAll_os _ _ _)
      (World.shaped_of_ZipB (by kernel_rfl) (by kernel_rfl)) (by kernel_rfl) (by kernel_rfl) (by kernel_rfl)
      (by rw [MakeChecks.laidMetH_plain _ _ _ (by kernel_rfl)]; exact laidMet_laidAll _ (by kernel_rfl) (by kernel_rfl))) ?_
  intro W base args ds gs before hval0 hW hcnd hsz0 hL _
  have hsz : (DataW.weightsEach Tryz.prog (Tryz.f4.params.toList ++ Rows.classGrammarSpec.plain.varTypes Tryz.prog) (ds ++ gs)).all (· ≤ reachBytes) = true := hsz0
  have hval : ∀ (j : Nat) t v, Tryz.f4.params[j]? = some t → args[j]? = some v → Value.okWide Tryz.prog W .any base t v := hval0
  have hW' := hW
  obtain ⟨p, q, hA0, hV, rfl, hfz, hnd⟩ := hW
  have hA : DataW.TrodAll enc Tryz.prog W 0 (fun _ => true) true Tryz.f4.params.toList args.toList ds p := hA0
  rw [Tryz.params4] at hA hval hsz
  obtain ⟨v0, vs0, d0, ds0, p0, q0, hargs, rfl, rfl, h0, r0⟩ := trodAll_cons hA
  obtain ⟨v1, vs1, d1, ds1, p1, q1, rfl, rfl, rfl, h1, r1⟩ := trodAll_cons r0
  obtain ⟨rfl, rfl, rfl⟩ := trodAll_nil r1
  obtain rfl : args = #[v0, v1] := by cases args; simp_all
  obtain ⟨rfl, rfl⟩ := trodVars_none hV
  obtain ⟨A0, n0, c0, rfl⟩ := okWide_slice Tryz.underlying35 (hval 0 35 v0 rfl rfl)
  have k0 := h0
  have lt0 : ∀ x ∈ p0, x.block < W.heap.size := by obtain ⟨m, hm⟩ := k0; exact DataW.trod_lt m _ _ _ hm
  obtain ⟨fu0, hf0⟩ := h0
  obtain ⟨A0', c0', l0, e0, hl0, hr0⟩ := Rdr.row (d := P.k60) Tryz.underlying35 (show Rdr.Rdr _ Tryz.prog W P.k60 60 from (Rdr.struct (fun y_ => ⟨y_.1, y_.2.1, y_.2.2.1, y_.2.2.2⟩) (fun _ => rfl) Tryz.underlying60 (by kernel_rfl) (Rdr.cons rfl (Rdr.struct (fun y_ => ⟨y_.1, y_.2⟩) (fun _ => rfl) Tryz.underlying58 (by kernel_rfl) (Rdr.cons rfl (Rdr.int Tryz.underlying3 (by kernel_rfl)) (Rdr.last rfl (Rdr.int Tryz.underlying3 (by kernel_rfl))))) (Rdr.cons rfl (Rdr.struct (fun y_ => ⟨y_.1, y_.2⟩) (fun _ => rfl) Tryz.underlying58 (by kernel_rfl) (Rdr.cons rfl (Rdr.int Tryz.underlying3 (by kernel_rfl)) (Rdr.last rfl (Rdr.int Tryz.underlying3 (by kernel_rfl))))) (Rdr.cons rfl (Rdr.bool Tryz.underlying4 (by kernel_rfl)) (Rdr.last rfl (Rdr.int Tryz.underlying3 (by kernel_rfl)))))))) hf0
  simp only [Value.cells, List.cons.injEq, Value.slice.injEq, and_true] at e0
  obtain ⟨rfl, rfl, rfl⟩ := e0
  obtain ⟨a1, rfl, rfl, rfl⟩ := open_bool Tryz.underlying4 (hval 1 4 v1 rfl rfl) h1
  have hL2 : laidMet Tryz.prog [("math/bits.deBruijn32tab", Rows.laid_math_bits_deBruijn32tab), ("math/bits.deBruijn64tab", Rows.laid_math_bits_deBruijn64tab), ("internal/strconv.uint64pow10", Rows.laid_internal_strconv_uint64pow10), ("unicode/utf8.acceptRanges", Rows.laid_unicode_utf8_acceptRanges), ("strconv.ErrRange", Rows.laid_strconv_ErrRange), ("strconv.ErrSyntax", Rows.laid_strconv_ErrSyntax), ("unicode/utf8.first", Rows.laid_unicode_utf8_first)] W := by
    have h := hL
    rw [MakeChecks.laidMetH_plain _ _ _ (by kernel_rfl)] at h
    exact h
  have tabB : Lib.TabIs Tryz.prog W "math/bits.deBruijn64tab" .u8 P.GTabs.deB := by
    have h := Lib.laidMet.reads hL2 (n := "math/bits.deBruijn64tab") (d := Rows.laid_math_bits_deBruijn64tab) (.tail _ (.head _))
    have hd : (Rows.laid_math_bits_deBruijn64tab : DataW Unit) = Lib.tabData .u8 P.GTabs.deB := rfl
    rw [hd] at h
    exact Agg.tab_of_reads (g := 7) (t := 158) (e := 5) (n := 64) (by kernel_rfl) (by kernel_rfl) Tryz.underlying158 Tryz.underlying5 (by kernel_rfl) (by kernel_rfl) h
  have tab3 : Lib.VarReads Tryz.prog W "unicode/utf8.first" Lib.firstData := by
    have h := Lib.laidMet.reads hL2 (n := "unicode/utf8.first") (d := Rows.laid_unicode_utf8_first) (.tail _ (.tail _ (.tail _ (.tail _ (.tail _ (.tail _ (.head _)))))))
    rw [show (Rows.laid_unicode_utf8_first : DataW Unit) = Lib.firstData from Pinned.utf8First_eq] at h
    exact h
  have tab4 : Lib.VarReads Tryz.prog W "unicode/utf8.acceptRanges" Lib.acceptData := by
    have h := Lib.laidMet.reads hL2 (n := "unicode/utf8.acceptRanges") (d := Rows.laid_unicode_utf8_acceptRanges) (.tail _ (.tail _ (.tail _ (.head _))))
    have hd : (Rows.laid_unicode_utf8_acceptRanges : DataW Unit) = Lib.acceptData := by kernel_rfl
    rw [hd] at h
    exact h
  have tab : P.GTabs W := ⟨utf8Tabs_of_reads Tryz.lays260 ⟨by kernel_rfl, by kernel_rfl, by kernel_rfl, by kernel_rfl, by kernel_rfl, by kernel_rfl, by kernel_rfl⟩ tab3 tab4, tabB⟩
  clear hA0 hval0 hsz0 hsz
  obtain ⟨kk, hh⟩ := P.pureClassGrammar l0 a1
  refine (P.florinlaw10_ClassGrammar.calls kk _ _ l0 a1 true W hr0 hl0 hh tab).mono ?_
  rintro e W' ⟨rfl, bel⟩
  exact ⟨_, rfl, _, _, _, [], _, [], hW', trodAll_mk1 (shut_bool Tryz.underlying4 _), (trodAll_cons_mk (Below.trod laidOut (by kernel_rfl) (of_decide_eq_true (by kernel_rfl)) k0 bel lt0) (trodAll_cons_mk (shut_bool Tryz.underlying4 _) trodAll_mk0)), rfl, bel.frame _, fun h => by cases h⟩
theorem over : Rows.classGrammarRow.holds Tryz.pinned (OpenSpec.ofChange Rows.classGrammarSpec) :=
  OpenClaim.holds_of_wide 4 Tryz.f4 rfl rfl rfl rfl rfl rfl rfl ⟨rfl, rfl, rfl, rfl, rfl⟩ rfl rfl rfl rfl rfl (by kernel_rfl) Tryz.func4 (by kernel_rfl)
    (of_decide_eq_true (by kernel_rfl)) (by unfold Func.isWrapper; first | (rw [if_pos (by decide +kernel)]; kernel_rfl) | (rw [if_neg (by decide +kernel)]; exact ⟨rfl, rfl⟩))
    (fun os started H enc _ => lifted os started H enc)
theorem proved : Rows.ClassGrammarSaid := over
theorem card : Rows.ClassGrammarCardSaid :=
  Claim7.holds_tied_plain_at .later [] [.data, .data, .data, .data, .sentinel, .sentinel, .pinned] true (true, "717378a98ca29d693e2c05981543a26271ffc94a8503b75b93b46f3f44d122cd") true proved (fun _ h => by cases h) (by kernel_rfl) (fun _ h => by cases h) classGrammar_row_tie rfl ⟨rfl, rfl⟩ (by kernel_rfl) rfl
    (fun f fn hf hfn => by
      obtain rfl : f = 4 := Option.some.inj ((show Tryz.prog.funcNamed "florin/florinlaw10.ClassGrammar" = some 4 by kernel_rfl).symm.trans hf) |>.symm
      obtain rfl : fn = Tryz.f4 := (Option.some.inj (Tryz.func4.symm.trans hfn)).symm
      exact ⟨by kernel_rfl, fun j t ht => by
        rw [Tryz.params4] at ht
        have hm : t ∈ [35, 4] := by simpa using Array.mem_of_getElem? ht
        have hall : ([35, 4].all fun u => !Tryz.prog.wantsStandIn u) = true := by kernel_rfl
        exact (show Tryz.prog.wantsStandIn t = false by simpa using List.all_eq_true.1 hall t hm)⟩)
    (by kernel_rfl)
end Go.Proofs.YtnpohgoacbpcjaaGreatDoor.classGrammar
namespace Go.Proofs.YtnpohgoacbpcjaaGreatDoor
/-- The tied card, under a short name, for the claim. -/
theorem classGrammar_card_holds : Rows.ClassGrammarCardSaid := classGrammar.card
#print axioms classGrammar_card_holds
end Go.Proofs.YtnpohgoacbpcjaaGreatDoor
