/- The law florinlaw04.ShowAgain answers true for every input. No condition of ours: the row's own cells; the listed variables hold what the program's text lays in them (the card ties that). -/
import Derived.Test.YthkpmiajcmihjaaDoorRows
import Derived.Test.YthkpmiajcmihjaaDoorPx22
import Derived.Test.YthkpmiajcmihjaaDoorLShowAgain
import Derived.Test.YthkpmiajcmihjaaDoorOA
import Derived.Test.YthkpmiajcmihjaaDoorTie
import Derived.Test.YthkpmiajcmihjaaDoorCards
import Derived.LaidMore
import Derived.Lay
import Derived.SevenTiedAt
import Derived.Stop.Joined
import Derived.WalkKit
import Derived.ProofKit
import Derived.OpenShut
import Derived.ShutString
import Derived.ChangeOld
import Derived.Below
import Derived.SizedLaws
import Derived.Test.YthkpmiajcmihjaaDoorWSized
namespace Go.Proofs.YthkpmiajcmihjaaDoor.showAgain
open Go.ChangeShapes Go.WideShapes Go.ChangeAt Go.RowKit Go.Proofs.YthkpmiajcmihjaaDoorW.PrintWords Go.Proofs.YthkpmiajcmihjaaDoorW.PrintLast Go.Proofs.YthkpmiajcmihjaaDoorW.PrintMore
open Go.ChangeMaps (open_string shut_string)
set_option linter.unusedVariables false
theorem own : ownKnob Tryd.prog.godebug = none := by kernel_rfl
theorem laidOut : laidOutB Tryd.prog = true := by kernel_rfl
def IsRow (k : IntKind) (w : World) (a : Option Addr) (len cap : Nat) (zs : List Int) : Prop :=
  (a = none ∧ len = 0 ∧ cap = 0 ∧ zs = []) ∨
  ∃ x, a = some x ∧ len ≤ cap ∧ cap ≤ maxLen ∧ zs.length = cap ∧ (∀ i, i < zs.length → w.cell? (x.add i) = some (.int k (zs.getD i 0))) ∧ ∀ n ∈ zs, (Lit.int k n).wf = true
set_option maxRecDepth 100000 in
theorem lifted (os : Os) (started : os.Started) (H : Type) (enc : TypeId × Value → H) :
    ReturnsInHanded {} Tryd.checked os 7 .any (fun w args => (Rows.showAgainSpec.pre enc Tryd.prog Tryd.f7 Rows.showAgainRow.domain false w args ∧ laidMetH Tryd.prog Rows.showAgainRow.laid w) ∧ sizedMet enc Tryd.prog Tryd.f7 (OpenSpec.ofChange Rows.showAgainSpec) false w args)
      (Rows.showAgainSpec.post enc Tryd.prog Tryd.f7 false true false false) := by
  refine returnsInHanded_of_change_and (C := Tryd.checked) (X := fun w _ => laidMetH Tryd.prog Rows.showAgainRow.laid w) (fun _ _ _ hh h => h.of_heap hh) own started (by kernel_rfl) Tryd.func7
    (ChangeSpec.witness_shaped (enc := enc) (C := Tryd.checked) (os := os) (X := fun w _ => laidMetH Tryd.prog Rows.showAgainRow.laid w) false (World.laidAll Tryd.prog os Rows.showAgainRow.laid) #[.agg #[.bool false, .slice none 0 0, .int .i64 0], .agg #[.bool false, .slice none 0 0, .int .i64 0], .agg #[.int .i64 0, .int .i64 0, .int .i64 0, .int .i64 0, .int .i64 0, .int .i64 0, .int .i64 0]] 8 (World.laidAll_os _ _ _)
      (World.shaped_of_ZipB (by kernel_rfl) (by kernel_rfl)) (by kernel_rfl) (by kernel_rfl) (by kernel_rfl)
      (by rw [MakeChecks.laidMetH_plain _ _ _ (by kernel_rfl)]; exact laidMet_laidAll _ (by kernel_rfl) (by kernel_rfl))) ?_
  intro W base args ds gs before hval0 hW hcnd hsz0 hL _
  have hsz : (DataW.weightsEach Tryd.prog (Tryd.f7.params.toList ++ Rows.showAgainSpec.plain.varTypes Tryd.prog) (ds ++ gs)).all (· ≤ reachBytes) = true := hsz0
  have hval : ∀ (j : Nat) t v, Tryd.f7.params[j]? = some t → args[j]? = some v → Value.okWide Tryd.prog W .any base t v := hval0
  have hW' := hW
  obtain ⟨p, q, hA0, hV, rfl, hfz, hnd⟩ := hW
  have hA : DataW.TrodAll enc Tryd.prog W 0 (fun _ => true) true Tryd.f7.params.toList args.toList ds p := hA0
  rw [Tryd.params7] at hA hval hsz
  obtain ⟨v0, vs0, d0, ds0, p0, q0, hargs, rfl, rfl, h0, r0⟩ := trodAll_cons hA
  obtain ⟨v1, vs1, d1, ds1, p1, q1, rfl, rfl, rfl, h1, r1⟩ := trodAll_cons r0
  obtain ⟨v2, vs2, d2, ds2, p2, q2, rfl, rfl, rfl, h2, r2⟩ := trodAll_cons r1
  obtain ⟨rfl, rfl, rfl⟩ := trodAll_nil r2
  obtain rfl : args = #[v0, v1, v2] := by cases args; simp_all
  obtain ⟨rfl, rfl⟩ := trodVars_none hV
  obtain ⟨cs0, rfl, hcs0⟩ := okWide_struct Tryd.underlying24 (hval 0 24 v0 rfl rfl)
  have k0 := h0
  have lt0 : ∀ x ∈ p0, x.block < W.heap.size := by obtain ⟨m, hm⟩ := k0; exact DataW.trod_lt m _ _ _ hm
  rw [show Tryd.prog.cellsOf 24 = 3 by kernel_rfl] at hcs0
  obtain ⟨x0_0, x0_1, x0_2, rfl⟩ := Agg.arr3 hcs0
  obtain ⟨fu0, hf0⟩ := h0
  obtain ⟨xs0, fn0, -, hx0, -, hlen0, hfi0⟩ := DataW.trod_struct Tryd.underlying24 hf0
  obtain ⟨r0_0, r0_1, r0_2, rfl⟩ := Agg.list3 hlen0
  obtain ⟨rfl, rfl⟩ := Prod.mk.inj hx0
  have hsz0 := Agg.sized_agg hsz (j := 0) (t := 24) rfl rfl Tryd.underlying24
  have g0_0 : DataW.trod enc Tryd.prog W 0 (fun _ => true) true fn0 4 [x0_0] = some r0_0 := by
    have g : DataW.trod enc Tryd.prog W 0 (fun _ => true) true fn0 4 (([x0_0, x0_1, x0_2].drop 0).take (Tryd.prog.cellsOf 4)) = some r0_0 := hfi0 0 _ rfl
    rw [show Tryd.prog.cellsOf 4 = 1 by kernel_rfl] at g
    exact g
  have g0_1 : DataW.trod enc Tryd.prog W 0 (fun _ => true) true fn0 22 [x0_1] = some r0_1 := by
    have g : DataW.trod enc Tryd.prog W 0 (fun _ => true) true fn0 22 (([x0_0, x0_1, x0_2].drop 1).take (Tryd.prog.cellsOf 22)) = some r0_1 := hfi0 1 _ rfl
    rw [show Tryd.prog.cellsOf 22 = 1 by kernel_rfl] at g
    exact g
  have g0_2 : DataW.trod enc Tryd.prog W 0 (fun _ => true) true fn0 3 [x0_2] = some r0_2 := by
    have g : DataW.trod enc Tryd.prog W 0 (fun _ => true) true fn0 3 (([x0_0, x0_1, x0_2].drop 2).take (Tryd.prog.cellsOf 3)) = some r0_2 := hfi0 2 _ rfl
    rw [show Tryd.prog.cellsOf 3 = 1 by kernel_rfl] at g
    exact g
  obtain ⟨a0_0, e0_0, rfl⟩ := DataW.trod_bool Tryd.underlying4 g0_0
  obtain rfl := (List.cons.inj e0_0).1
  obtain ⟨A0_1, n0_1, c0_1, z0_1, e0_1, w0_1⟩ : ∃ a len cap zs, x0_1 = .slice a len cap ∧ IsRow .u8 W a len cap zs := by
    rcases open_ints Tryd.underlying22 Tryd.underlying5 (by kernel_rfl) g0_1 with ⟨hcs, _⟩ | ⟨x, l, c, zs, hcs, _, hl, hm, hz, _, hcell, hwz⟩
    · exact ⟨none, 0, 0, [], (List.cons.inj hcs).1, .inl ⟨rfl, rfl, rfl, rfl⟩⟩
    · exact ⟨some x, l, c, zs, (List.cons.inj hcs).1, .inr ⟨_, rfl, hl, hm, by simpa using hz, hcell, hwz⟩⟩
  subst e0_1
  have y0_1 : n0_1 * 1 ≤ 140737488351232 := YthkpmiajcmihjaaDoorW.PrintWords.sized_ints (d := r0_1.1) (ps := r0_1.2) hsz0 (j := 1) (t := 22) rfl rfl Tryd.underlying22 Tryd.underlying5 (by kernel_rfl) (by kernel_rfl) ⟨_, g0_1⟩
  obtain ⟨l0_1, rfl, hr0_1, hm0_1, hw0_1, hc0_1⟩ := ReadsInt.ofRowC w0_1
  obtain ⟨a0_2, e0_2, rfl, w0_2⟩ := DataW.trod_int Tryd.underlying3 g0_2
  obtain rfl := (List.cons.inj e0_2).1
  obtain ⟨cs1, rfl, hcs1⟩ := okWide_struct Tryd.underlying24 (hval 1 24 v1 rfl rfl)
  have k1 := h1
  have lt1 : ∀ x ∈ p1, x.block < W.heap.size := by obtain ⟨m, hm⟩ := k1; exact DataW.trod_lt m _ _ _ hm
  rw [show Tryd.prog.cellsOf 24 = 3 by kernel_rfl] at hcs1
  obtain ⟨x1_0, x1_1, x1_2, rfl⟩ := Agg.arr3 hcs1
  obtain ⟨fu1, hf1⟩ := h1
  obtain ⟨xs1, fn1, -, hx1, -, hlen1, hfi1⟩ := DataW.trod_struct Tryd.underlying24 hf1
  obtain ⟨r1_0, r1_1, r1_2, rfl⟩ := Agg.list3 hlen1
  obtain ⟨rfl, rfl⟩ := Prod.mk.inj hx1
  have hsz1 := Agg.sized_agg hsz (j := 1) (t := 24) rfl rfl Tryd.underlying24
  have g1_0 : DataW.trod enc Tryd.prog W 0 (fun _ => true) true fn1 4 [x1_0] = some r1_0 := by
    have g : DataW.trod enc Tryd.prog W 0 (fun _ => true) true fn1 4 (([x1_0, x1_1, x1_2].drop 0).take (Tryd.prog.cellsOf 4)) = some r1_0 := hfi1 0 _ rfl
    rw [show Tryd.prog.cellsOf 4 = 1 by kernel_rfl] at g
    exact g
  have g1_1 : DataW.trod enc Tryd.prog W 0 (fun _ => true) true fn1 22 [x1_1] = some r1_1 := by
    have g : DataW.trod enc Tryd.prog W 0 (fun _ => true) true fn1 22 (([x1_0, x1_1, x1_2].drop 1).take (Tryd.prog.cellsOf 22)) = some r1_1 := hfi1 1 _ rfl
    rw [show Tryd.prog.cellsOf 22 = 1 by kernel_rfl] at g
    exact g
  have g1_2 : DataW.trod enc Tryd.prog W 0 (fun _ => true) true fn1 3 [x1_2] = some r1_2 := by
    have g : DataW.trod enc Tryd.prog W 0 (fun _ => true) true fn1 3 (([x1_0, x1_1, x1_2].drop 2).take (Tryd.prog.cellsOf 3)) = some r1_2 := hfi1 2 _ rfl
    rw [show Tryd.prog.cellsOf 3 = 1 by kernel_rfl] at g
    exact g
  obtain ⟨a1_0, e1_0, rfl⟩ := DataW.trod_bool Tryd.underlying4 g1_0
  obtain rfl := (List.cons.inj e1_0).1
  obtain ⟨A1_1, n1_1, c1_1, z1_1, e1_1, w1_1⟩ : ∃ a len cap zs, x1_1 = .slice a len cap ∧ IsRow .u8 W a len cap zs := by
    rcases open_ints Tryd.underlying22 Tryd.underlying5 (by kernel_rfl) g1_1 with ⟨hcs, _⟩ | ⟨x, l, c, zs, hcs, _, hl, hm, hz, _, hcell, hwz⟩
    · exact ⟨none, 0, 0, [], (List.cons.inj hcs).1, .inl ⟨rfl, rfl, rfl, rfl⟩⟩
    · exact ⟨some x, l, c, zs, (List.cons.inj hcs).1, .inr ⟨_, rfl, hl, hm, by simpa using hz, hcell, hwz⟩⟩
  subst e1_1
  have y1_1 : n1_1 * 1 ≤ 140737488351232 := YthkpmiajcmihjaaDoorW.PrintWords.sized_ints (d := r1_1.1) (ps := r1_1.2) hsz1 (j := 1) (t := 22) rfl rfl Tryd.underlying22 Tryd.underlying5 (by kernel_rfl) (by kernel_rfl) ⟨_, g1_1⟩
  obtain ⟨l1_1, rfl, hr1_1, hm1_1, hw1_1, hc1_1⟩ := ReadsInt.ofRowC w1_1
  obtain ⟨a1_2, e1_2, rfl, w1_2⟩ := DataW.trod_int Tryd.underlying3 g1_2
  obtain rfl := (List.cons.inj e1_2).1
  obtain ⟨cs2, rfl, hcs2⟩ := okWide_struct Tryd.underlying42 (hval 2 42 v2 rfl rfl)
  have k2 := h2
  have lt2 : ∀ x ∈ p2, x.block < W.heap.size := by obtain ⟨m, hm⟩ := k2; exact DataW.trod_lt m _ _ _ hm
  rw [show Tryd.prog.cellsOf 42 = 7 by kernel_rfl] at hcs2
  obtain ⟨x2_0, x2_1, x2_2, x2_3, x2_4, x2_5, x2_6, rfl⟩ := Agg.arr7 hcs2
  obtain ⟨fu2, hf2⟩ := h2
  obtain ⟨xs2, fn2, -, hx2, -, hlen2, hfi2⟩ := DataW.trod_struct Tryd.underlying42 hf2
  obtain ⟨r2_0, r2_1, r2_2, r2_3, r2_4, r2_5, r2_6, rfl⟩ := Agg.list7 hlen2
  obtain ⟨rfl, rfl⟩ := Prod.mk.inj hx2
  have hsz2 := Agg.sized_agg hsz (j := 2) (t := 42) rfl rfl Tryd.underlying42
  have g2_0 : DataW.trod enc Tryd.prog W 0 (fun _ => true) true fn2 3 [x2_0] = some r2_0 := by
    have g : DataW.trod enc Tryd.prog W 0 (fun _ => true) true fn2 3 (([x2_0, x2_1, x2_2, x2_3, x2_4, x2_5, x2_6].drop 0).take (Tryd.prog.cellsOf 3)) = some r2_0 := hfi2 0 _ rfl
    rw [show Tryd.prog.cellsOf 3 = 1 by kernel_rfl] at g
    exact g
  have g2_1 : DataW.trod enc Tryd.prog W 0 (fun _ => true) true fn2 3 [x2_1] = some r2_1 := by
    have g : DataW.trod enc Tryd.prog W 0 (fun _ => true) true fn2 3 (([x2_0, x2_1, x2_2, x2_3, x2_4, x2_5, x2_6].drop 1).take (Tryd.prog.cellsOf 3)) = some r2_1 := hfi2 1 _ rfl
    rw [show Tryd.prog.cellsOf 3 = 1 by kernel_rfl] at g
    exact g
  have g2_2 : DataW.trod enc Tryd.prog W 0 (fun _ => true) true fn2 3 [x2_2] = some r2_2 := by
    have g : DataW.trod enc Tryd.prog W 0 (fun _ => true) true fn2 3 (([x2_0, x2_1, x2_2, x2_3, x2_4, x2_5, x2_6].drop 2).take (Tryd.prog.cellsOf 3)) = some r2_2 := hfi2 2 _ rfl
    rw [show Tryd.prog.cellsOf 3 = 1 by kernel_rfl] at g
    exact g
  have g2_3 : DataW.trod enc Tryd.prog W 0 (fun _ => true) true fn2 3 [x2_3] = some r2_3 := by
    have g : DataW.trod enc Tryd.prog W 0 (fun _ => true) true fn2 3 (([x2_0, x2_1, x2_2, x2_3, x2_4, x2_5, x2_6].drop 3).take (Tryd.prog.cellsOf 3)) = some r2_3 := hfi2 3 _ rfl
    rw [show Tryd.prog.cellsOf 3 = 1 by kernel_rfl] at g
    exact g
  have g2_4 : DataW.trod enc Tryd.prog W 0 (fun _ => true) true fn2 3 [x2_4] = some r2_4 := by
    have g : DataW.trod enc Tryd.prog W 0 (fun _ => true) true fn2 3 (([x2_0, x2_1, x2_2, x2_3, x2_4, x2_5, x2_6].drop 4).take (Tryd.prog.cellsOf 3)) = some r2_4 := hfi2 4 _ rfl
    rw [show Tryd.prog.cellsOf 3 = 1 by kernel_rfl] at g
    exact g
  have g2_5 : DataW.trod enc Tryd.prog W 0 (fun _ => true) true fn2 3 [x2_5] = some r2_5 := by
    have g : DataW.trod enc Tryd.prog W 0 (fun _ => true) true fn2 3 (([x2_0, x2_1, x2_2, x2_3, x2_4, x2_5, x2_6].drop 5).take (Tryd.prog.cellsOf 3)) = some r2_5 := hfi2 5 _ rfl
    rw [show Tryd.prog.cellsOf 3 = 1 by kernel_rfl] at g
    exact g
  have g2_6 : DataW.trod enc Tryd.prog W 0 (fun _ => true) true fn2 3 [x2_6] = some r2_6 := by
    have g : DataW.trod enc Tryd.prog W 0 (fun _ => true) true fn2 3 (([x2_0, x2_1, x2_2, x2_3, x2_4, x2_5, x2_6].drop 6).take (Tryd.prog.cellsOf 3)) = some r2_6 := hfi2 6 _ rfl
    rw [show Tryd.prog.cellsOf 3 = 1 by kernel_rfl] at g
    exact g
  obtain ⟨a2_0, e2_0, rfl, w2_0⟩ := DataW.trod_int Tryd.underlying3 g2_0
  obtain rfl := (List.cons.inj e2_0).1
  obtain ⟨a2_1, e2_1, rfl, w2_1⟩ := DataW.trod_int Tryd.underlying3 g2_1
  obtain rfl := (List.cons.inj e2_1).1
  obtain ⟨a2_2, e2_2, rfl, w2_2⟩ := DataW.trod_int Tryd.underlying3 g2_2
  obtain rfl := (List.cons.inj e2_2).1
  obtain ⟨a2_3, e2_3, rfl, w2_3⟩ := DataW.trod_int Tryd.underlying3 g2_3
  obtain rfl := (List.cons.inj e2_3).1
  obtain ⟨a2_4, e2_4, rfl, w2_4⟩ := DataW.trod_int Tryd.underlying3 g2_4
  obtain rfl := (List.cons.inj e2_4).1
  obtain ⟨a2_5, e2_5, rfl, w2_5⟩ := DataW.trod_int Tryd.underlying3 g2_5
  obtain rfl := (List.cons.inj e2_5).1
  obtain ⟨a2_6, e2_6, rfl, w2_6⟩ := DataW.trod_int Tryd.underlying3 g2_6
  obtain rfl := (List.cons.inj e2_6).1
  clear hA0 hval0 hsz0 hsz
  obtain ⟨kk, hh⟩ := P.pureShowAgain a0_0 l0_1 a0_2 a1_0 l1_1 a1_2 a2_0 a2_1 a2_2 a2_3 a2_4 a2_5 a2_6 hm0_1 y0_1 hw0_1 w0_2 hm1_1 y1_1 hw1_1 w1_2 w2_0 w2_1 w2_2 w2_3 w2_4 w2_5 w2_6
  refine (P.florinlaw04_ShowAgain.calls kk a0_0 _ _ l0_1 a0_2 a1_0 _ _ l1_1 a1_2 a2_0 a2_1 a2_2 a2_3 a2_4 a2_5 a2_6 true W (Kd.C_of_reads (d := (0 : Int)) (h1 := fun _ => rfl) hr0_1) hc0_1 (Kd.C_of_reads (d := (0 : Int)) (h1 := fun _ => rfl) hr1_1) hc1_1 hh).mono ?_
  rintro e W' ⟨rfl, bel⟩
  exact ⟨_, rfl, _, _, _, [], _, [], hW', trodAll_mk1 (shut_bool Tryd.underlying4 _), (trodAll_cons_mk (Below.trod laidOut (by kernel_rfl) (of_decide_eq_true (by kernel_rfl)) k0 bel lt0) (trodAll_cons_mk (Below.trod laidOut (by kernel_rfl) (of_decide_eq_true (by kernel_rfl)) k1 bel lt1) (trodAll_cons_mk (Below.trod laidOut (by kernel_rfl) (of_decide_eq_true (by kernel_rfl)) k2 bel lt2) trodAll_mk0))), rfl, bel.frame _, fun h => by cases h⟩
theorem over : Rows.showAgainRow.holds Tryd.pinned (OpenSpec.ofChange Rows.showAgainSpec) :=
  OpenClaim.holds_of_wide 7 Tryd.f7 rfl rfl rfl rfl rfl rfl rfl ⟨rfl, rfl, rfl, rfl, rfl⟩ rfl rfl rfl rfl rfl (by kernel_rfl) Tryd.func7 (by kernel_rfl)
    (of_decide_eq_true (by kernel_rfl)) (by unfold Func.isWrapper; first | (rw [if_pos (by decide +kernel)]; kernel_rfl) | (rw [if_neg (by decide +kernel)]; exact ⟨rfl, rfl⟩))
    (fun os started H enc _ => lifted os started H enc)
theorem proved : Rows.ShowAgainSaid := over
theorem card : Rows.ShowAgainCardSaid :=
  Claim7.holds_tied_plain_at .later [] [.data, .pinned] true (true, "cf4d3ca5655829118dd9bc664cc9619f3eef95d3c572f43b5ad1aef6a31da5e2") false proved (fun _ h => by cases h) (by kernel_rfl) (fun _ h => by cases h) showAgain_row_tie rfl ⟨rfl, rfl⟩ (by kernel_rfl) rfl
    (fun f fn hf hfn => by
      obtain rfl : f = 7 := Option.some.inj ((show Tryd.prog.funcNamed "florin/florinlaw04.ShowAgain" = some 7 by kernel_rfl).symm.trans hf) |>.symm
      obtain rfl : fn = Tryd.f7 := (Option.some.inj (Tryd.func7.symm.trans hfn)).symm
      exact ⟨by kernel_rfl, fun j t ht => by
        rw [Tryd.params7] at ht
        have hm : t ∈ [24, 24, 42] := by simpa using Array.mem_of_getElem? ht
        have hall : ([24, 24, 42].all fun u => !Tryd.prog.wantsStandIn u) = true := by kernel_rfl
        exact (show Tryd.prog.wantsStandIn t = false by simpa using List.all_eq_true.1 hall t hm)⟩)
    (by kernel_rfl)
end Go.Proofs.YthkpmiajcmihjaaDoor.showAgain
namespace Go.Proofs.YthkpmiajcmihjaaDoor
/-- The tied card, under a short name, for the claim. -/
theorem showAgain_card_holds : Rows.ShowAgainCardSaid := showAgain.card
#print axioms showAgain_card_holds
end Go.Proofs.YthkpmiajcmihjaaDoor
