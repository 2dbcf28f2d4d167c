/- Whatever is written by the grammar of samples is read by sample.Parse as it is meant, and all numbers of each item are gone through. No condition of ours: the row's own cells; the listed variables hold what the program's text lays in them (the card ties that). -/
import Derived.Test.YtbhhfpjiacfofaaDoorRows
import Derived.Test.YtbhhfpjiacfofaaDoorPx13
import Derived.Test.YtbhhfpjiacfofaaDoorLSampleGrammar
import Derived.Test.YtbhhfpjiacfofaaDoorOA
import Derived.Test.YtbhhfpjiacfofaaDoorTie
import Derived.Test.YtbhhfpjiacfofaaDoorCards
import Derived.LaidMore
import Derived.Lay
import Derived.SevenTiedAt
import Derived.Stop.Joined
import Derived.WalkKit
import Derived.ProofKit
import Derived.OpenShut
import Derived.ShutString
import Derived.ChangeOld
import Derived.Below
import Derived.SizedLaws
import Derived.Test.YtbhhfpjiacfofaaDoorWSized
import Derived.Test.YtbhhfpjiacfofaaDoorOB
namespace Go.Proofs.YtbhhfpjiacfofaaDoor.sampleGrammar
open Go.ChangeShapes Go.WideShapes Go.ChangeAt Go.RowKit Go.Proofs.YtbhhfpjiacfofaaDoorW.PrintWords Go.Proofs.YtbhhfpjiacfofaaDoorW.PrintLast Go.Proofs.YtbhhfpjiacfofaaDoorW.PrintMore
open Go.ChangeMaps (open_string shut_string)
set_option linter.unusedVariables false
theorem own : ownKnob Tryd.prog.godebug = none := by kernel_rfl
theorem laidOut : laidOutB Tryd.prog = true := by kernel_rfl
def IsRow (k : IntKind) (w : World) (a : Option Addr) (len cap : Nat) (zs : List Int) : Prop :=
  (a = none ∧ len = 0 ∧ cap = 0 ∧ zs = []) ∨
  ∃ x, a = some x ∧ len ≤ cap ∧ cap ≤ maxLen ∧ zs.length = cap ∧ (∀ i, i < zs.length → w.cell? (x.add i) = some (.int k (zs.getD i 0))) ∧ ∀ n ∈ zs, (Lit.int k n).wf = true
set_option maxRecDepth 100000 in
theorem lifted (os : Os) (started : os.Started) (H : Type) (enc : TypeId × Value → H) :
    ReturnsInHanded {} Tryd.checked os 3 .any (fun w args => (Rows.sampleGrammarSpec.pre enc Tryd.prog Tryd.f3 Rows.sampleGrammarRow.domain false w args ∧ laidMetH Tryd.prog Rows.sampleGrammarRow.laid w) ∧ sizedMet enc Tryd.prog Tryd.f3 (OpenSpec.ofChange Rows.sampleGrammarSpec) false w args)
      (Rows.sampleGrammarSpec.post enc Tryd.prog Tryd.f3 false true false false) := by
  refine returnsInHanded_of_change_and (C := Tryd.checked) (X := fun w _ => laidMetH Tryd.prog Rows.sampleGrammarRow.laid w) (fun _ _ _ hh h => h.of_heap hh) own started (by kernel_rfl) Tryd.func3
    (ChangeSpec.witness_shaped (enc := enc) (C := Tryd.checked) (os := os) (X := fun w _ => laidMetH Tryd.prog Rows.sampleGrammarRow.laid w) false (World.laidAll Tryd.prog os Rows.sampleGrammarRow.laid) #[.slice none 0 0] 8 (World.laidAll_os _ _ _)
      (World.shaped_of_ZipB (by kernel_rfl) (by kernel_rfl)) (by kernel_rfl) (by kernel_rfl) (by kernel_rfl)
      (by rw [MakeChecks.laidMetH_plain _ _ _ (by kernel_rfl)]; exact laidMet_laidAll _ (by kernel_rfl) (by kernel_rfl))) ?_
  intro W base args ds gs before hval0 hW hcnd hsz0 hL _
  have hsz : (DataW.weightsEach Tryd.prog (Tryd.f3.params.toList ++ Rows.sampleGrammarSpec.plain.varTypes Tryd.prog) (ds ++ gs)).all (· ≤ reachBytes) = true := hsz0
  have hval : ∀ (j : Nat) t v, Tryd.f3.params[j]? = some t → args[j]? = some v → Value.okWide Tryd.prog W .any base t v := hval0
  have hW' := hW
  obtain ⟨p, q, hA0, hV, rfl, hfz, hnd⟩ := hW
  have hA : DataW.TrodAll enc Tryd.prog W 0 (fun _ => true) true Tryd.f3.params.toList args.toList ds p := hA0
  rw [Tryd.params3] at hA hval hsz
  obtain ⟨v0, vs0, d0, ds0, p0, q0, hargs, rfl, rfl, h0, r0⟩ := trodAll_cons hA
  obtain ⟨rfl, rfl, rfl⟩ := trodAll_nil r0
  obtain rfl : args = #[v0] := by cases args; simp_all
  obtain ⟨rfl, rfl⟩ := trodVars_none hV
  obtain ⟨A0, n0, c0, rfl⟩ := okWide_slice Tryd.underlying22 (hval 0 22 v0 rfl rfl)
  have k0 := h0
  have lt0 : ∀ x ∈ p0, x.block < W.heap.size := by obtain ⟨m, hm⟩ := k0; exact DataW.trod_lt m _ _ _ hm
  obtain ⟨fu0, hf0⟩ := h0
  obtain ⟨A0', c0', l0, e0, hl0, hr0⟩ := Rdr.row (d := P.k53) Tryd.underlying22 (show Rdr.Rdr _ Tryd.prog W P.k53 53 from (Rdr.struct (fun y_ => ⟨y_.1, y_.2.1, y_.2.2.1, y_.2.2.2⟩) (fun _ => rfl) Tryd.underlying53 (by kernel_rfl) (Rdr.cons rfl (Rdr.bool Tryd.underlying4 (by kernel_rfl)) (Rdr.cons rfl (Rdr.slice Tryd.underlying51 (by kernel_rfl) (Rdr.struct (fun y_ => ⟨y_.1, y_.2.1, y_.2.2.1, y_.2.2.2⟩) (fun _ => rfl) Tryd.underlying55 (by kernel_rfl) (Rdr.cons rfl (Rdr.int Tryd.underlying3 (by kernel_rfl)) (Rdr.cons rfl (Rdr.int Tryd.underlying3 (by kernel_rfl)) (Rdr.cons rfl (Rdr.int Tryd.underlying3 (by kernel_rfl)) (Rdr.last rfl (Rdr.int Tryd.underlying3 (by kernel_rfl)))))))) (Rdr.cons rfl (Rdr.int Tryd.underlying3 (by kernel_rfl)) (Rdr.last rfl (Rdr.int Tryd.underlying3 (by kernel_rfl)))))))) hf0
  simp only [Value.cells, List.cons.injEq, Value.slice.injEq, and_true] at e0
  obtain ⟨rfl, rfl, rfl⟩ := e0
  clear hA0 hval0 hsz0 hsz
  obtain ⟨kk, hh⟩ := P.pureSampleGrammar l0
  refine (P.florinlaw08_SampleGrammar.calls kk _ _ l0 true W hr0 hl0 hh).mono ?_
  rintro e W' ⟨rfl, bel⟩
  exact ⟨_, rfl, _, _, _, [], _, [], hW', trodAll_mk1 (shut_bool Tryd.underlying4 _), (trodAll_cons_mk (Below.trod laidOut (by kernel_rfl) (of_decide_eq_true (by kernel_rfl)) k0 bel lt0) trodAll_mk0), rfl, bel.frame _, fun h => by cases h⟩
theorem over : Rows.sampleGrammarRow.holds Tryd.pinned (OpenSpec.ofChange Rows.sampleGrammarSpec) :=
  OpenClaim.holds_of_wide 3 Tryd.f3 rfl rfl rfl rfl rfl rfl rfl ⟨rfl, rfl, rfl, rfl, rfl⟩ rfl rfl rfl rfl rfl (by kernel_rfl) Tryd.func3 (by kernel_rfl)
    (of_decide_eq_true (by kernel_rfl)) (by unfold Func.isWrapper; first | (rw [if_pos (by decide +kernel)]; kernel_rfl) | (rw [if_neg (by decide +kernel)]; exact ⟨rfl, rfl⟩))
    (fun os started H enc _ => lifted os started H enc)
theorem proved : Rows.SampleGrammarSaid := over
theorem card : Rows.SampleGrammarCardSaid :=
  Claim7.holds_tied_plain_at .later [] [.data, .pinned] true (true, "340c44ab78a3c5df93dd61a26eb9047ca0421a7e11364d7851ad89e2893db0db") true proved (fun _ h => by cases h) (by kernel_rfl) (fun _ h => by cases h) sampleGrammar_row_tie rfl ⟨rfl, rfl⟩ (by kernel_rfl) rfl
    (fun f fn hf hfn => by
      obtain rfl : f = 3 := Option.some.inj ((show Tryd.prog.funcNamed "florin/florinlaw08.SampleGrammar" = some 3 by kernel_rfl).symm.trans hf) |>.symm
      obtain rfl : fn = Tryd.f3 := (Option.some.inj (Tryd.func3.symm.trans hfn)).symm
      exact ⟨by kernel_rfl, fun j t ht => by
        rw [Tryd.params3] at ht
        have hm : t ∈ [22] := by simpa using Array.mem_of_getElem? ht
        have hall : ([22].all fun u => !Tryd.prog.wantsStandIn u) = true := by kernel_rfl
        exact (show Tryd.prog.wantsStandIn t = false by simpa using List.all_eq_true.1 hall t hm)⟩)
    (by kernel_rfl)
end Go.Proofs.YtbhhfpjiacfofaaDoor.sampleGrammar
namespace Go.Proofs.YtbhhfpjiacfofaaDoor
/-- The tied card, under a short name, for the claim. -/
theorem sampleGrammar_card_holds : Rows.SampleGrammarCardSaid := sampleGrammar.card
#print axioms sampleGrammar_card_holds
end Go.Proofs.YtbhhfpjiacfofaaDoor
