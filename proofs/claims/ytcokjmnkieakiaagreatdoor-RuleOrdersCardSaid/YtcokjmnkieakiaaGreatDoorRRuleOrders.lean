/- Rules in another order are read in that order, each as it was, for every list of made rules and every turn. No condition of ours: the row's own cells; the listed variables hold what the program's text lays in them (the card ties that). -/
import Derived.Test.YtcokjmnkieakiaaGreatDoorRows
import Derived.Test.YtcokjmnkieakiaaGreatDoorPx15
import Derived.Test.YtcokjmnkieakiaaGreatDoorLRuleOrders
import Derived.Test.YtcokjmnkieakiaaGreatDoorOA
import Derived.Test.YtcokjmnkieakiaaGreatDoorTie
import Derived.Test.YtcokjmnkieakiaaGreatDoorCards
import Derived.LaidMore
import Derived.Lay
import Derived.SevenTiedAt
import Derived.Stop.Joined
import Derived.WalkKit
import Derived.ProofKit
import Derived.OpenShut
import Derived.ShutString
import Derived.ChangeOld
import Derived.Below
import Derived.SizedLaws
import Derived.Test.YtcokjmnkieakiaaGreatDoorWSized
import Derived.Test.YtcokjmnkieakiaaGreatDoorOB
namespace Go.Proofs.YtcokjmnkieakiaaGreatDoor.ruleOrders
open Go.ChangeShapes Go.WideShapes Go.ChangeAt Go.RowKit Go.Proofs.YtcokjmnkieakiaaGreatDoorW.PrintWords Go.Proofs.YtcokjmnkieakiaaGreatDoorW.PrintLast Go.Proofs.YtcokjmnkieakiaaGreatDoorW.PrintMore
open Go.ChangeMaps (open_string shut_string)
set_option linter.unusedVariables false
theorem own : ownKnob Tryz.prog.godebug = none := by kernel_rfl
theorem laidOut : laidOutB Tryz.prog = true := by kernel_rfl
def IsRow (k : IntKind) (w : World) (a : Option Addr) (len cap : Nat) (zs : List Int) : Prop :=
  (a = none ∧ len = 0 ∧ cap = 0 ∧ zs = []) ∨
  ∃ x, a = some x ∧ len ≤ cap ∧ cap ≤ maxLen ∧ zs.length = cap ∧ (∀ i, i < zs.length → w.cell? (x.add i) = some (.int k (zs.getD i 0))) ∧ ∀ n ∈ zs, (Lit.int k n).wf = true
set_option maxRecDepth 100000 in
theorem lifted (os : Os) (started : os.Started) (H : Type) (enc : TypeId × Value → H) :
    ReturnsInHanded {} Tryz.checked os 5 .any (fun w args => (Rows.ruleOrdersSpec.pre enc Tryz.prog Tryz.f5 Rows.ruleOrdersRow.domain false w args ∧ laidMetH Tryz.prog Rows.ruleOrdersRow.laid w) ∧ sizedMet enc Tryz.prog Tryz.f5 (OpenSpec.ofChange Rows.ruleOrdersSpec) false w args)
      (Rows.ruleOrdersSpec.post enc Tryz.prog Tryz.f5 false true false false) := by
  refine returnsInHanded_of_change_and (C := Tryz.checked) (X := fun w _ => laidMetH Tryz.prog Rows.ruleOrdersRow.laid w) (fun _ _ _ hh h => h.of_heap hh) own started (by kernel_rfl) Tryz.func5
    (ChangeSpec.witness_shaped (enc := enc) (C := Tryz.checked) (os := os) (X := fun w _ => laidMetH Tryz.prog Rows.ruleOrdersRow.laid w) false (World.laidAll Tryz.prog os Rows.ruleOrdersRow.laid) #[.slice none 0 0, .int .i64 0] 8 (World.laidAll_os _ _ _)
      (World.shaped_of_ZipB (by kernel_rfl) (by kernel_rfl)) (by kernel_rfl) (by kernel_rfl) (by kernel_rfl)
      (by rw [MakeChecks.laidMetH_plain _ _ _ (by kernel_rfl)]; exact laidMet_laidAll _ (by kernel_rfl) (by kernel_rfl))) ?_
  intro W base args ds gs before hval0 hW hcnd hsz0 hL _
  have hsz : (DataW.weightsEach Tryz.prog (Tryz.f5.params.toList ++ Rows.ruleOrdersSpec.plain.varTypes Tryz.prog) (ds ++ gs)).all (· ≤ reachBytes) = true := hsz0
  have hval : ∀ (j : Nat) t v, Tryz.f5.params[j]? = some t → args[j]? = some v → Value.okWide Tryz.prog W .any base t v := hval0
  have hW' := hW
  obtain ⟨p, q, hA0, hV, rfl, hfz, hnd⟩ := hW
  have hA : DataW.TrodAll enc Tryz.prog W 0 (fun _ => true) true Tryz.f5.params.toList args.toList ds p := hA0
  rw [Tryz.params5] at hA hval hsz
  obtain ⟨v0, vs0, d0, ds0, p0, q0, hargs, rfl, rfl, h0, r0⟩ := trodAll_cons hA
  obtain ⟨v1, vs1, d1, ds1, p1, q1, rfl, rfl, rfl, h1, r1⟩ := trodAll_cons r0
  obtain ⟨rfl, rfl, rfl⟩ := trodAll_nil r1
  obtain rfl : args = #[v0, v1] := by cases args; simp_all
  obtain ⟨rfl, rfl⟩ := trodVars_none hV
  obtain ⟨A0, n0, c0, rfl⟩ := okWide_slice Tryz.underlying22 (hval 0 22 v0 rfl rfl)
  have k0 := h0
  have lt0 : ∀ x ∈ p0, x.block < W.heap.size := by obtain ⟨m, hm⟩ := k0; exact DataW.trod_lt m _ _ _ hm
  obtain ⟨fu0, hf0⟩ := h0
  obtain ⟨A0', c0', l0, e0, hl0, hr0⟩ := Rdr.row (d := P.k46) Tryz.underlying22 (show Rdr.Rdr _ Tryz.prog W P.k46 46 from (Rdr.struct (fun y_ => ⟨y_.1, y_.2.1, y_.2.2.1, y_.2.2.2⟩) (fun _ => rfl) Tryz.underlying46 (by kernel_rfl) (Rdr.cons rfl (Rdr.int Tryz.underlying3 (by kernel_rfl)) (Rdr.cons rfl (Rdr.int Tryz.underlying3 (by kernel_rfl)) (Rdr.cons rfl (Rdr.int Tryz.underlying3 (by kernel_rfl)) (Rdr.last rfl (Rdr.slice Tryz.underlying44 (by kernel_rfl) (Rdr.slice Tryz.underlying47 (by kernel_rfl) (Rdr.struct (fun y_ => ⟨y_.1, y_.2.1, y_.2.2.1, y_.2.2.2.1, y_.2.2.2.2⟩) (fun _ => rfl) Tryz.underlying50 (by kernel_rfl) (Rdr.cons rfl (Rdr.int Tryz.underlying3 (by kernel_rfl)) (Rdr.cons rfl (Rdr.int Tryz.underlying3 (by kernel_rfl)) (Rdr.cons rfl (Rdr.int Tryz.underlying3 (by kernel_rfl)) (Rdr.cons rfl (Rdr.bool Tryz.underlying4 (by kernel_rfl)) (Rdr.last rfl (Rdr.slice Tryz.underlying48 (by kernel_rfl) (Rdr.struct (fun y_ => ⟨y_.1, y_.2⟩) (fun _ => rfl) Tryz.underlying85 (by kernel_rfl) (Rdr.cons rfl (Rdr.int Tryz.underlying3 (by kernel_rfl)) (Rdr.last rfl (Rdr.int Tryz.underlying3 (by kernel_rfl)))))))))))))))))))) hf0
  simp only [Value.cells, List.cons.injEq, Value.slice.injEq, and_true] at e0
  obtain ⟨rfl, rfl, rfl⟩ := e0
  obtain ⟨a1, rfl, rfl, rfl, w1⟩ := open_int Tryz.underlying3 (hval 1 3 v1 rfl rfl) h1
  have hL2 : laidMet Tryz.prog [("math/bits.deBruijn32tab", Rows.laid_math_bits_deBruijn32tab), ("math/bits.deBruijn64tab", Rows.laid_math_bits_deBruijn64tab), ("internal/strconv.uint64pow10", Rows.laid_internal_strconv_uint64pow10), ("unicode/utf8.acceptRanges", Rows.laid_unicode_utf8_acceptRanges), ("strconv.ErrRange", Rows.laid_strconv_ErrRange), ("strconv.ErrSyntax", Rows.laid_strconv_ErrSyntax), ("unicode/utf8.first", Rows.laid_unicode_utf8_first)] W := by
    have h := hL
    rw [MakeChecks.laidMetH_plain _ _ _ (by kernel_rfl)] at h
    exact h
  have tab : Lib.TabIs Tryz.prog W "internal/strconv.uint64pow10" .u64 Lib.pow10Tab := by
    have h := Lib.laidMet.reads hL2 (n := "internal/strconv.uint64pow10") (d := Rows.laid_internal_strconv_uint64pow10) (.tail _ (.tail _ (.head _)))
    have hd : (Rows.laid_internal_strconv_uint64pow10 : DataW Unit) = Lib.tabData .u64 Lib.pow10Tab := rfl
    rw [hd] at h
    exact Agg.tab_of_reads (g := 1) (t := 126) (e := 113) (n := 20) (by kernel_rfl) (by kernel_rfl) Tryz.underlying126 Tryz.underlying113 (by kernel_rfl) (by kernel_rfl) h
  clear hA0 hval0 hsz0 hsz
  obtain ⟨kk, hh⟩ := P.pureRuleOrders l0 a1 w1
  refine (P.florinlaw06_RuleOrders.calls kk _ _ l0 a1 true W hr0 hl0 hh tab).mono ?_
  rintro e W' ⟨rfl, bel⟩
  exact ⟨_, rfl, _, _, _, [], _, [], hW', trodAll_mk1 (shut_bool Tryz.underlying4 _), (trodAll_cons_mk (Below.trod laidOut (by kernel_rfl) (of_decide_eq_true (by kernel_rfl)) k0 bel lt0) (trodAll_cons_mk (shut_int Tryz.underlying3 w1) trodAll_mk0)), rfl, bel.frame _, fun h => by cases h⟩
theorem over : Rows.ruleOrdersRow.holds Tryz.pinned (OpenSpec.ofChange Rows.ruleOrdersSpec) :=
  OpenClaim.holds_of_wide 5 Tryz.f5 rfl rfl rfl rfl rfl rfl rfl ⟨rfl, rfl, rfl, rfl, rfl⟩ rfl rfl rfl rfl rfl (by kernel_rfl) Tryz.func5 (by kernel_rfl)
    (of_decide_eq_true (by kernel_rfl)) (by unfold Func.isWrapper; first | (rw [if_pos (by decide +kernel)]; kernel_rfl) | (rw [if_neg (by decide +kernel)]; exact ⟨rfl, rfl⟩))
    (fun os started H enc _ => lifted os started H enc)
theorem proved : Rows.RuleOrdersSaid := over
theorem card : Rows.RuleOrdersCardSaid :=
  Claim7.holds_tied_plain_at .later [] [.data, .data, .data, .data, .sentinel, .sentinel, .pinned] true (true, "f6dcd0d80a70d4eec639497b1a86f6e6b6f22f6bfa9ae8c70e6b01d34b5b5fbc") true proved (fun _ h => by cases h) (by kernel_rfl) (fun _ h => by cases h) ruleOrders_row_tie rfl ⟨rfl, rfl⟩ (by kernel_rfl) rfl
    (fun f fn hf hfn => by
      obtain rfl : f = 5 := Option.some.inj ((show Tryz.prog.funcNamed "florin/florinlaw06.RuleOrders" = some 5 by kernel_rfl).symm.trans hf) |>.symm
      obtain rfl : fn = Tryz.f5 := (Option.some.inj (Tryz.func5.symm.trans hfn)).symm
      exact ⟨by kernel_rfl, fun j t ht => by
        rw [Tryz.params5] at ht
        have hm : t ∈ [22, 3] := by simpa using Array.mem_of_getElem? ht
        have hall : ([22, 3].all fun u => !Tryz.prog.wantsStandIn u) = true := by kernel_rfl
        exact (show Tryz.prog.wantsStandIn t = false by simpa using List.all_eq_true.1 hall t hm)⟩)
    (by kernel_rfl)
end Go.Proofs.YtcokjmnkieakiaaGreatDoor.ruleOrders
namespace Go.Proofs.YtcokjmnkieakiaaGreatDoor
/-- The tied card, under a short name, for the claim. -/
theorem ruleOrders_card_holds : Rows.RuleOrdersCardSaid := ruleOrders.card
#print axioms ruleOrders_card_holds
end Go.Proofs.YtcokjmnkieakiaaGreatDoor
