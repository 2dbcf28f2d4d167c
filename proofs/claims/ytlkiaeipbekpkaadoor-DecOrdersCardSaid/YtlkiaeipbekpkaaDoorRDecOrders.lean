/- The law florinlaw02.DecOrders answers true for every input. No condition of ours: the row's own cells; the listed variables hold what the program's text lays in them (the card ties that). -/
import Derived.Test.YtlkiaeipbekpkaaDoorRows
import Derived.Test.YtlkiaeipbekpkaaDoorPx26
import Derived.Test.YtlkiaeipbekpkaaDoorLDecOrders
import Derived.Test.YtlkiaeipbekpkaaDoorOA
import Derived.Test.YtlkiaeipbekpkaaDoorTie
import Derived.Test.YtlkiaeipbekpkaaDoorCards
import Derived.LaidMore
import Derived.Lay
import Derived.SevenTiedAt
import Derived.Stop.Joined
import Derived.WalkKit
import Derived.ProofKit
import Derived.OpenShut
import Derived.ShutString
import Derived.ChangeOld
import Derived.Below
import Derived.SizedLaws
import Derived.Test.YtlkiaeipbekpkaaDoorWSized
namespace Go.Proofs.YtlkiaeipbekpkaaDoor.decOrders
open Go.ChangeShapes Go.WideShapes Go.ChangeAt Go.RowKit Go.Proofs.YtlkiaeipbekpkaaDoorW.PrintWords Go.Proofs.YtlkiaeipbekpkaaDoorW.PrintLast Go.Proofs.YtlkiaeipbekpkaaDoorW.PrintMore
open Go.ChangeMaps (open_string shut_string)
set_option linter.unusedVariables false
theorem own : ownKnob Tryd.prog.godebug = none := by kernel_rfl
theorem laidOut : laidOutB Tryd.prog = true := by kernel_rfl
def IsRow (k : IntKind) (w : World) (a : Option Addr) (len cap : Nat) (zs : List Int) : Prop :=
  (a = none ∧ len = 0 ∧ cap = 0 ∧ zs = []) ∨
  ∃ x, a = some x ∧ len ≤ cap ∧ cap ≤ maxLen ∧ zs.length = cap ∧ (∀ i, i < zs.length → w.cell? (x.add i) = some (.int k (zs.getD i 0))) ∧ ∀ n ∈ zs, (Lit.int k n).wf = true
set_option maxRecDepth 100000 in
theorem lifted (os : Os) (started : os.Started) (H : Type) (enc : TypeId × Value → H) :
    ReturnsInHanded {} Tryd.checked os 10 .any (fun w args => (Rows.decOrdersSpec.pre enc Tryd.prog Tryd.f10 Rows.decOrdersRow.domain false w args ∧ laidMetH Tryd.prog Rows.decOrdersRow.laid w) ∧ sizedMet enc Tryd.prog Tryd.f10 (OpenSpec.ofChange Rows.decOrdersSpec) false w args)
      (Rows.decOrdersSpec.post enc Tryd.prog Tryd.f10 false true false false) := by
  refine returnsInHanded_of_change_and (C := Tryd.checked) (X := fun w _ => laidMetH Tryd.prog Rows.decOrdersRow.laid w) (fun _ _ _ hh h => h.of_heap hh) own started (by kernel_rfl) Tryd.func10
    (ChangeSpec.witness_shaped (enc := enc) (C := Tryd.checked) (os := os) (X := fun w _ => laidMetH Tryd.prog Rows.decOrdersRow.laid w) false (World.laidAll Tryd.prog os Rows.decOrdersRow.laid) #[.agg #[.bool false, .slice none 0 0, .int .i64 0], .agg #[.bool false, .slice none 0 0, .int .i64 0], .agg #[.bool false, .slice none 0 0, .int .i64 0]] 8 (World.laidAll_os _ _ _)
      (World.shaped_of_ZipB (by kernel_rfl) (by kernel_rfl)) (by kernel_rfl) (by kernel_rfl) (by kernel_rfl)
      (by rw [MakeChecks.laidMetH_plain _ _ _ (by kernel_rfl)]; exact laidMet_laidAll _ (by kernel_rfl) (by kernel_rfl))) ?_
  intro W base args ds gs before hval0 hW hcnd hsz0 hL _
  have hsz : (DataW.weightsEach Tryd.prog (Tryd.f10.params.toList ++ Rows.decOrdersSpec.plain.varTypes Tryd.prog) (ds ++ gs)).all (· ≤ reachBytes) = true := hsz0
  have hval : ∀ (j : Nat) t v, Tryd.f10.params[j]? = some t → args[j]? = some v → Value.okWide Tryd.prog W .any base t v := hval0
  have hW' := hW
  obtain ⟨p, q, hA0, hV, rfl, hfz, hnd⟩ := hW
  have hA : DataW.TrodAll enc Tryd.prog W 0 (fun _ => true) true Tryd.f10.params.toList args.toList ds p := hA0
  rw [Tryd.params10] at hA hval hsz
  obtain ⟨v0, vs0, d0, ds0, p0, q0, hargs, rfl, rfl, h0, r0⟩ := trodAll_cons hA
  obtain ⟨v1, vs1, d1, ds1, p1, q1, rfl, rfl, rfl, h1, r1⟩ := trodAll_cons r0
  obtain ⟨v2, vs2, d2, ds2, p2, q2, rfl, rfl, rfl, h2, r2⟩ := trodAll_cons r1
  obtain ⟨rfl, rfl, rfl⟩ := trodAll_nil r2
  obtain rfl : args = #[v0, v1, v2] := by cases args; simp_all
  obtain ⟨rfl, rfl⟩ := trodVars_none hV
  obtain ⟨cs0, rfl, hcs0⟩ := okWide_struct Tryd.underlying33 (hval 0 33 v0 rfl rfl)
  have k0 := h0
  have lt0 : ∀ x ∈ p0, x.block < W.heap.size := by obtain ⟨m, hm⟩ := k0; exact DataW.trod_lt m _ _ _ hm
  rw [show Tryd.prog.cellsOf 33 = 3 by kernel_rfl] at hcs0
  obtain ⟨x0_0, x0_1, x0_2, rfl⟩ := Agg.arr3 hcs0
  obtain ⟨fu0, hf0⟩ := h0
  obtain ⟨xs0, fn0, -, hx0, -, hlen0, hfi0⟩ := DataW.trod_struct Tryd.underlying33 hf0
  obtain ⟨r0_0, r0_1, r0_2, rfl⟩ := Agg.list3 hlen0
  obtain ⟨rfl, rfl⟩ := Prod.mk.inj hx0
  have hsz0 := Agg.sized_agg hsz (j := 0) (t := 33) rfl rfl Tryd.underlying33
  have g0_0 : DataW.trod enc Tryd.prog W 0 (fun _ => true) true fn0 4 [x0_0] = some r0_0 := by
    have g : DataW.trod enc Tryd.prog W 0 (fun _ => true) true fn0 4 (([x0_0, x0_1, x0_2].drop 0).take (Tryd.prog.cellsOf 4)) = some r0_0 := hfi0 0 _ rfl
    rw [show Tryd.prog.cellsOf 4 = 1 by kernel_rfl] at g
    exact g
  have g0_1 : DataW.trod enc Tryd.prog W 0 (fun _ => true) true fn0 31 [x0_1] = some r0_1 := by
    have g : DataW.trod enc Tryd.prog W 0 (fun _ => true) true fn0 31 (([x0_0, x0_1, x0_2].drop 1).take (Tryd.prog.cellsOf 31)) = some r0_1 := hfi0 1 _ rfl
    rw [show Tryd.prog.cellsOf 31 = 1 by kernel_rfl] at g
    exact g
  have g0_2 : DataW.trod enc Tryd.prog W 0 (fun _ => true) true fn0 3 [x0_2] = some r0_2 := by
    have g : DataW.trod enc Tryd.prog W 0 (fun _ => true) true fn0 3 (([x0_0, x0_1, x0_2].drop 2).take (Tryd.prog.cellsOf 3)) = some r0_2 := hfi0 2 _ rfl
    rw [show Tryd.prog.cellsOf 3 = 1 by kernel_rfl] at g
    exact g
  obtain ⟨a0_0, e0_0, rfl⟩ := DataW.trod_bool Tryd.underlying4 g0_0
  obtain rfl := (List.cons.inj e0_0).1
  obtain ⟨A0_1, n0_1, c0_1, z0_1, e0_1, w0_1⟩ : ∃ a len cap zs, x0_1 = .slice a len cap ∧ IsRow .u8 W a len cap zs := by
    rcases open_ints Tryd.underlying31 Tryd.underlying5 (by kernel_rfl) g0_1 with ⟨hcs, _⟩ | ⟨x, l, c, zs, hcs, _, hl, hm, hz, _, hcell, hwz⟩
    · exact ⟨none, 0, 0, [], (List.cons.inj hcs).1, .inl ⟨rfl, rfl, rfl, rfl⟩⟩
    · exact ⟨some x, l, c, zs, (List.cons.inj hcs).1, .inr ⟨_, rfl, hl, hm, by simpa using hz, hcell, hwz⟩⟩
  subst e0_1
  have y0_1 : n0_1 * 1 ≤ 140737488351232 := YtlkiaeipbekpkaaDoorW.PrintWords.sized_ints (d := r0_1.1) (ps := r0_1.2) hsz0 (j := 1) (t := 31) rfl rfl Tryd.underlying31 Tryd.underlying5 (by kernel_rfl) (by kernel_rfl) ⟨_, g0_1⟩
  obtain ⟨l0_1, rfl, hr0_1, hm0_1, hw0_1, hc0_1⟩ := ReadsInt.ofRowC w0_1
  obtain ⟨a0_2, e0_2, rfl, w0_2⟩ := DataW.trod_int Tryd.underlying3 g0_2
  obtain rfl := (List.cons.inj e0_2).1
  obtain ⟨cs1, rfl, hcs1⟩ := okWide_struct Tryd.underlying33 (hval 1 33 v1 rfl rfl)
  have k1 := h1
  have lt1 : ∀ x ∈ p1, x.block < W.heap.size := by obtain ⟨m, hm⟩ := k1; exact DataW.trod_lt m _ _ _ hm
  rw [show Tryd.prog.cellsOf 33 = 3 by kernel_rfl] at hcs1
  obtain ⟨x1_0, x1_1, x1_2, rfl⟩ := Agg.arr3 hcs1
  obtain ⟨fu1, hf1⟩ := h1
  obtain ⟨xs1, fn1, -, hx1, -, hlen1, hfi1⟩ := DataW.trod_struct Tryd.underlying33 hf1
  obtain ⟨r1_0, r1_1, r1_2, rfl⟩ := Agg.list3 hlen1
  obtain ⟨rfl, rfl⟩ := Prod.mk.inj hx1
  have hsz1 := Agg.sized_agg hsz (j := 1) (t := 33) rfl rfl Tryd.underlying33
  have g1_0 : DataW.trod enc Tryd.prog W 0 (fun _ => true) true fn1 4 [x1_0] = some r1_0 := by
    have g : DataW.trod enc Tryd.prog W 0 (fun _ => true) true fn1 4 (([x1_0, x1_1, x1_2].drop 0).take (Tryd.prog.cellsOf 4)) = some r1_0 := hfi1 0 _ rfl
    rw [show Tryd.prog.cellsOf 4 = 1 by kernel_rfl] at g
    exact g
  have g1_1 : DataW.trod enc Tryd.prog W 0 (fun _ => true) true fn1 31 [x1_1] = some r1_1 := by
    have g : DataW.trod enc Tryd.prog W 0 (fun _ => true) true fn1 31 (([x1_0, x1_1, x1_2].drop 1).take (Tryd.prog.cellsOf 31)) = some r1_1 := hfi1 1 _ rfl
    rw [show Tryd.prog.cellsOf 31 = 1 by kernel_rfl] at g
    exact g
  have g1_2 : DataW.trod enc Tryd.prog W 0 (fun _ => true) true fn1 3 [x1_2] = some r1_2 := by
    have g : DataW.trod enc Tryd.prog W 0 (fun _ => true) true fn1 3 (([x1_0, x1_1, x1_2].drop 2).take (Tryd.prog.cellsOf 3)) = some r1_2 := hfi1 2 _ rfl
    rw [show Tryd.prog.cellsOf 3 = 1 by kernel_rfl] at g
    exact g
  obtain ⟨a1_0, e1_0, rfl⟩ := DataW.trod_bool Tryd.underlying4 g1_0
  obtain rfl := (List.cons.inj e1_0).1
  obtain ⟨A1_1, n1_1, c1_1, z1_1, e1_1, w1_1⟩ : ∃ a len cap zs, x1_1 = .slice a len cap ∧ IsRow .u8 W a len cap zs := by
    rcases open_ints Tryd.underlying31 Tryd.underlying5 (by kernel_rfl) g1_1 with ⟨hcs, _⟩ | ⟨x, l, c, zs, hcs, _, hl, hm, hz, _, hcell, hwz⟩
    · exact ⟨none, 0, 0, [], (List.cons.inj hcs).1, .inl ⟨rfl, rfl, rfl, rfl⟩⟩
    · exact ⟨some x, l, c, zs, (List.cons.inj hcs).1, .inr ⟨_, rfl, hl, hm, by simpa using hz, hcell, hwz⟩⟩
  subst e1_1
  have y1_1 : n1_1 * 1 ≤ 140737488351232 := YtlkiaeipbekpkaaDoorW.PrintWords.sized_ints (d := r1_1.1) (ps := r1_1.2) hsz1 (j := 1) (t := 31) rfl rfl Tryd.underlying31 Tryd.underlying5 (by kernel_rfl) (by kernel_rfl) ⟨_, g1_1⟩
  obtain ⟨l1_1, rfl, hr1_1, hm1_1, hw1_1, hc1_1⟩ := ReadsInt.ofRowC w1_1
  obtain ⟨a1_2, e1_2, rfl, w1_2⟩ := DataW.trod_int Tryd.underlying3 g1_2
  obtain rfl := (List.cons.inj e1_2).1
  obtain ⟨cs2, rfl, hcs2⟩ := okWide_struct Tryd.underlying33 (hval 2 33 v2 rfl rfl)
  have k2 := h2
  have lt2 : ∀ x ∈ p2, x.block < W.heap.size := by obtain ⟨m, hm⟩ := k2; exact DataW.trod_lt m _ _ _ hm
  rw [show Tryd.prog.cellsOf 33 = 3 by kernel_rfl] at hcs2
  obtain ⟨x2_0, x2_1, x2_2, rfl⟩ := Agg.arr3 hcs2
  obtain ⟨fu2, hf2⟩ := h2
  obtain ⟨xs2, fn2, -, hx2, -, hlen2, hfi2⟩ := DataW.trod_struct Tryd.underlying33 hf2
  obtain ⟨r2_0, r2_1, r2_2, rfl⟩ := Agg.list3 hlen2
  obtain ⟨rfl, rfl⟩ := Prod.mk.inj hx2
  have hsz2 := Agg.sized_agg hsz (j := 2) (t := 33) rfl rfl Tryd.underlying33
  have g2_0 : DataW.trod enc Tryd.prog W 0 (fun _ => true) true fn2 4 [x2_0] = some r2_0 := by
    have g : DataW.trod enc Tryd.prog W 0 (fun _ => true) true fn2 4 (([x2_0, x2_1, x2_2].drop 0).take (Tryd.prog.cellsOf 4)) = some r2_0 := hfi2 0 _ rfl
    rw [show Tryd.prog.cellsOf 4 = 1 by kernel_rfl] at g
    exact g
  have g2_1 : DataW.trod enc Tryd.prog W 0 (fun _ => true) true fn2 31 [x2_1] = some r2_1 := by
    have g : DataW.trod enc Tryd.prog W 0 (fun _ => true) true fn2 31 (([x2_0, x2_1, x2_2].drop 1).take (Tryd.prog.cellsOf 31)) = some r2_1 := hfi2 1 _ rfl
    rw [show Tryd.prog.cellsOf 31 = 1 by kernel_rfl] at g
    exact g
  have g2_2 : DataW.trod enc Tryd.prog W 0 (fun _ => true) true fn2 3 [x2_2] = some r2_2 := by
    have g : DataW.trod enc Tryd.prog W 0 (fun _ => true) true fn2 3 (([x2_0, x2_1, x2_2].drop 2).take (Tryd.prog.cellsOf 3)) = some r2_2 := hfi2 2 _ rfl
    rw [show Tryd.prog.cellsOf 3 = 1 by kernel_rfl] at g
    exact g
  obtain ⟨a2_0, e2_0, rfl⟩ := DataW.trod_bool Tryd.underlying4 g2_0
  obtain rfl := (List.cons.inj e2_0).1
  obtain ⟨A2_1, n2_1, c2_1, z2_1, e2_1, w2_1⟩ : ∃ a len cap zs, x2_1 = .slice a len cap ∧ IsRow .u8 W a len cap zs := by
    rcases open_ints Tryd.underlying31 Tryd.underlying5 (by kernel_rfl) g2_1 with ⟨hcs, _⟩ | ⟨x, l, c, zs, hcs, _, hl, hm, hz, _, hcell, hwz⟩
    · exact ⟨none, 0, 0, [], (List.cons.inj hcs).1, .inl ⟨rfl, rfl, rfl, rfl⟩⟩
    · exact ⟨some x, l, c, zs, (List.cons.inj hcs).1, .inr ⟨_, rfl, hl, hm, by simpa using hz, hcell, hwz⟩⟩
  subst e2_1
  have y2_1 : n2_1 * 1 ≤ 140737488351232 := YtlkiaeipbekpkaaDoorW.PrintWords.sized_ints (d := r2_1.1) (ps := r2_1.2) hsz2 (j := 1) (t := 31) rfl rfl Tryd.underlying31 Tryd.underlying5 (by kernel_rfl) (by kernel_rfl) ⟨_, g2_1⟩
  obtain ⟨l2_1, rfl, hr2_1, hm2_1, hw2_1, hc2_1⟩ := ReadsInt.ofRowC w2_1
  obtain ⟨a2_2, e2_2, rfl, w2_2⟩ := DataW.trod_int Tryd.underlying3 g2_2
  obtain rfl := (List.cons.inj e2_2).1
  have hL2 : laidMet Tryd.prog [("math/bits.deBruijn32tab", Rows.laid_math_bits_deBruijn32tab), ("math/bits.deBruijn64tab", Rows.laid_math_bits_deBruijn64tab), ("internal/strconv.uint64pow10", Rows.laid_internal_strconv_uint64pow10), ("unicode/utf8.acceptRanges", Rows.laid_unicode_utf8_acceptRanges), ("unicode/utf8.first", Rows.laid_unicode_utf8_first)] W := by
    have h := hL
    rw [MakeChecks.laidMetH_plain _ _ _ (by kernel_rfl)] at h
    exact h
  have tab : Lib.TabIs Tryd.prog W "internal/strconv.uint64pow10" .u64 Lib.pow10Tab := by
    have h := Lib.laidMet.reads hL2 (n := "internal/strconv.uint64pow10") (d := Rows.laid_internal_strconv_uint64pow10) (.tail _ (.tail _ (.head _)))
    have hd : (Rows.laid_internal_strconv_uint64pow10 : DataW Unit) = Lib.tabData .u64 Lib.pow10Tab := rfl
    rw [hd] at h
    exact Agg.tab_of_reads (g := 1) (t := 114) (e := 101) (n := 20) (by kernel_rfl) (by kernel_rfl) Tryd.underlying114 Tryd.underlying101 (by kernel_rfl) (by kernel_rfl) h
  clear hA0 hval0 hsz0 hsz
  obtain ⟨kk, hh⟩ := P.pureDecOrders a0_0 l0_1 a0_2 a1_0 l1_1 a1_2 a2_0 l2_1 a2_2 hm0_1 y0_1 hw0_1 w0_2 hm1_1 y1_1 hw1_1 w1_2 hm2_1 y2_1 hw2_1 w2_2
  refine (P.florinlaw02_DecOrders.calls kk a0_0 _ _ l0_1 a0_2 a1_0 _ _ l1_1 a1_2 a2_0 _ _ l2_1 a2_2 true W (Kd.C_of_reads (d := (0 : Int)) (h1 := fun _ => rfl) hr0_1) hc0_1 (Kd.C_of_reads (d := (0 : Int)) (h1 := fun _ => rfl) hr1_1) hc1_1 (Kd.C_of_reads (d := (0 : Int)) (h1 := fun _ => rfl) hr2_1) hc2_1 hh tab).mono ?_
  rintro e W' ⟨rfl, bel⟩
  exact ⟨_, rfl, _, _, _, [], _, [], hW', trodAll_mk1 (shut_bool Tryd.underlying4 _), (trodAll_cons_mk (Below.trod laidOut (by kernel_rfl) (of_decide_eq_true (by kernel_rfl)) k0 bel lt0) (trodAll_cons_mk (Below.trod laidOut (by kernel_rfl) (of_decide_eq_true (by kernel_rfl)) k1 bel lt1) (trodAll_cons_mk (Below.trod laidOut (by kernel_rfl) (of_decide_eq_true (by kernel_rfl)) k2 bel lt2) trodAll_mk0))), rfl, bel.frame _, fun h => by cases h⟩
theorem over : Rows.decOrdersRow.holds Tryd.pinned (OpenSpec.ofChange Rows.decOrdersSpec) :=
  OpenClaim.holds_of_wide 10 Tryd.f10 rfl rfl rfl rfl rfl rfl rfl ⟨rfl, rfl, rfl, rfl, rfl⟩ rfl rfl rfl rfl rfl (by kernel_rfl) Tryd.func10 (by kernel_rfl)
    (of_decide_eq_true (by kernel_rfl)) (by unfold Func.isWrapper; first | (rw [if_pos (by decide +kernel)]; kernel_rfl) | (rw [if_neg (by decide +kernel)]; exact ⟨rfl, rfl⟩))
    (fun os started H enc _ => lifted os started H enc)
theorem proved : Rows.DecOrdersSaid := over
theorem card : Rows.DecOrdersCardSaid :=
  Claim7.holds_tied_plain_at .later [] [.data, .data, .data, .data, .pinned] true (true, "ba527f9d43c411ae93c673961607b094a77507acba8335fbf03757c1c07f7c12") false proved (fun _ h => by cases h) (by kernel_rfl) (fun _ h => by cases h) decOrders_row_tie rfl ⟨rfl, rfl⟩ (by kernel_rfl) rfl
    (fun f fn hf hfn => by
      obtain rfl : f = 10 := Option.some.inj ((show Tryd.prog.funcNamed "florin/florinlaw02.DecOrders" = some 10 by kernel_rfl).symm.trans hf) |>.symm
      obtain rfl : fn = Tryd.f10 := (Option.some.inj (Tryd.func10.symm.trans hfn)).symm
      exact ⟨by kernel_rfl, fun j t ht => by
        rw [Tryd.params10] at ht
        have hm : t ∈ [33, 33, 33] := by simpa using Array.mem_of_getElem? ht
        have hall : ([33, 33, 33].all fun u => !Tryd.prog.wantsStandIn u) = true := by kernel_rfl
        exact (show Tryd.prog.wantsStandIn t = false by simpa using List.all_eq_true.1 hall t hm)⟩)
    (by kernel_rfl)
end Go.Proofs.YtlkiaeipbekpkaaDoor.decOrders
namespace Go.Proofs.YtlkiaeipbekpkaaDoor
/-- The tied card, under a short name, for the claim. -/
theorem decOrders_card_holds : Rows.DecOrdersCardSaid := decOrders.card
#print axioms decOrders_card_holds
end Go.Proofs.YtlkiaeipbekpkaaDoor
