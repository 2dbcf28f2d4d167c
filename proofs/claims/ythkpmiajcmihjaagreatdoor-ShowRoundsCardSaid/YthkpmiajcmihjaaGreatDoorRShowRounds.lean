/- The law florinlaw04.ShowRounds answers true for every input. No condition of ours: the row's own cells; the listed variables hold what the program's text lays in them (the card ties that). -/
import Derived.Test.YthkpmiajcmihjaaGreatDoorRows
import Derived.Test.YthkpmiajcmihjaaGreatDoorPx16
import Derived.Test.YthkpmiajcmihjaaGreatDoorLShowRounds
import Derived.Test.YthkpmiajcmihjaaGreatDoorOA
import Derived.Test.YthkpmiajcmihjaaGreatDoorTie
import Derived.Test.YthkpmiajcmihjaaGreatDoorCards
import Derived.LaidMore
import Derived.Lay
import Derived.SevenTiedAt
import Derived.Stop.Joined
import Derived.WalkKit
import Derived.ProofKit
import Derived.OpenShut
import Derived.ShutString
import Derived.ChangeOld
import Derived.Below
import Derived.SizedLaws
import Derived.Test.YthkpmiajcmihjaaGreatDoorWSized
namespace Go.Proofs.YthkpmiajcmihjaaGreatDoor.showRounds
open Go.ChangeShapes Go.WideShapes Go.ChangeAt Go.RowKit Go.Proofs.YthkpmiajcmihjaaGreatDoorW.PrintWords Go.Proofs.YthkpmiajcmihjaaGreatDoorW.PrintLast Go.Proofs.YthkpmiajcmihjaaGreatDoorW.PrintMore
open Go.ChangeMaps (open_string shut_string)
set_option linter.unusedVariables false
theorem own : ownKnob Tryz.prog.godebug = none := by kernel_rfl
theorem laidOut : laidOutB Tryz.prog = true := by kernel_rfl
def IsRow (k : IntKind) (w : World) (a : Option Addr) (len cap : Nat) (zs : List Int) : Prop :=
  (a = none ∧ len = 0 ∧ cap = 0 ∧ zs = []) ∨
  ∃ x, a = some x ∧ len ≤ cap ∧ cap ≤ maxLen ∧ zs.length = cap ∧ (∀ i, i < zs.length → w.cell? (x.add i) = some (.int k (zs.getD i 0))) ∧ ∀ n ∈ zs, (Lit.int k n).wf = true
set_option maxRecDepth 100000 in
theorem lifted (os : Os) (started : os.Started) (H : Type) (enc : TypeId × Value → H) :
    ReturnsInHanded {} Tryz.checked os 3 .any (fun w args => (Rows.showRoundsSpec.pre enc Tryz.prog Tryz.f3 Rows.showRoundsRow.domain false w args ∧ laidMetH Tryz.prog Rows.showRoundsRow.laid w) ∧ sizedMet enc Tryz.prog Tryz.f3 (OpenSpec.ofChange Rows.showRoundsSpec) false w args)
      (Rows.showRoundsSpec.post enc Tryz.prog Tryz.f3 false true false false) := by
  refine returnsInHanded_of_change_and (C := Tryz.checked) (X := fun w _ => laidMetH Tryz.prog Rows.showRoundsRow.laid w) (fun _ _ _ hh h => h.of_heap hh) own started (by kernel_rfl) Tryz.func3
    (ChangeSpec.witness_shaped (enc := enc) (C := Tryz.checked) (os := os) (X := fun w _ => laidMetH Tryz.prog Rows.showRoundsRow.laid w) false (World.laidAll Tryz.prog os Rows.showRoundsRow.laid) #[.agg #[.bool false, .slice none 0 0, .int .i64 0], .agg #[.int .i64 0, .int .i64 0, .int .i64 0, .int .i64 0, .int .i64 0, .int .i64 0, .int .i64 0]] 8 (World.laidAll_os _ _ _)
      (World.shaped_of_ZipB (by kernel_rfl) (by kernel_rfl)) (by kernel_rfl) (by kernel_rfl) (by kernel_rfl)
      (by rw [MakeChecks.laidMetH_plain _ _ _ (by kernel_rfl)]; exact laidMet_laidAll _ (by kernel_rfl) (by kernel_rfl))) ?_
  intro W base args ds gs before hval0 hW hcnd hsz0 hL _
  have hsz : (DataW.weightsEach Tryz.prog (Tryz.f3.params.toList ++ Rows.showRoundsSpec.plain.varTypes Tryz.prog) (ds ++ gs)).all (· ≤ reachBytes) = true := hsz0
  have hval : ∀ (j : Nat) t v, Tryz.f3.params[j]? = some t → args[j]? = some v → Value.okWide Tryz.prog W .any base t v := hval0
  have hW' := hW
  obtain ⟨p, q, hA0, hV, rfl, hfz, hnd⟩ := hW
  have hA : DataW.TrodAll enc Tryz.prog W 0 (fun _ => true) true Tryz.f3.params.toList args.toList ds p := hA0
  rw [Tryz.params3] at hA hval hsz
  obtain ⟨v0, vs0, d0, ds0, p0, q0, hargs, rfl, rfl, h0, r0⟩ := trodAll_cons hA
  obtain ⟨v1, vs1, d1, ds1, p1, q1, rfl, rfl, rfl, h1, r1⟩ := trodAll_cons r0
  obtain ⟨rfl, rfl, rfl⟩ := trodAll_nil r1
  obtain rfl : args = #[v0, v1] := by cases args; simp_all
  obtain ⟨rfl, rfl⟩ := trodVars_none hV
  obtain ⟨cs0, rfl, hcs0⟩ := okWide_struct Tryz.underlying24 (hval 0 24 v0 rfl rfl)
  have k0 := h0
  have lt0 : ∀ x ∈ p0, x.block < W.heap.size := by obtain ⟨m, hm⟩ := k0; exact DataW.trod_lt m _ _ _ hm
  rw [show Tryz.prog.cellsOf 24 = 3 by kernel_rfl] at hcs0
  obtain ⟨x0_0, x0_1, x0_2, rfl⟩ := Agg.arr3 hcs0
  obtain ⟨fu0, hf0⟩ := h0
  obtain ⟨xs0, fn0, -, hx0, -, hlen0, hfi0⟩ := DataW.trod_struct Tryz.underlying24 hf0
  obtain ⟨r0_0, r0_1, r0_2, rfl⟩ := Agg.list3 hlen0
  obtain ⟨rfl, rfl⟩ := Prod.mk.inj hx0
  have hsz0 := Agg.sized_agg hsz (j := 0) (t := 24) rfl rfl Tryz.underlying24
  have g0_0 : DataW.trod enc Tryz.prog W 0 (fun _ => true) true fn0 4 [x0_0] = some r0_0 := by
    have g : DataW.trod enc Tryz.prog W 0 (fun _ => true) true fn0 4 (([x0_0, x0_1, x0_2].drop 0).take (Tryz.prog.cellsOf 4)) = some r0_0 := hfi0 0 _ rfl
    rw [show Tryz.prog.cellsOf 4 = 1 by kernel_rfl] at g
    exact g
  have g0_1 : DataW.trod enc Tryz.prog W 0 (fun _ => true) true fn0 22 [x0_1] = some r0_1 := by
    have g : DataW.trod enc Tryz.prog W 0 (fun _ => true) true fn0 22 (([x0_0, x0_1, x0_2].drop 1).take (Tryz.prog.cellsOf 22)) = some r0_1 := hfi0 1 _ rfl
    rw [show Tryz.prog.cellsOf 22 = 1 by kernel_rfl] at g
    exact g
  have g0_2 : DataW.trod enc Tryz.prog W 0 (fun _ => true) true fn0 3 [x0_2] = some r0_2 := by
    have g : DataW.trod enc Tryz.prog W 0 (fun _ => true) true fn0 3 (([x0_0, x0_1, x0_2].drop 2).take (Tryz.prog.cellsOf 3)) = some r0_2 := hfi0 2 _ rfl
    rw [show Tryz.prog.cellsOf 3 = 1 by kernel_rfl] at g
    exact g
  obtain ⟨a0_0, e0_0, rfl⟩ := DataW.trod_bool Tryz.underlying4 g0_0
  obtain rfl := (List.cons.inj e0_0).1
  obtain ⟨A0_1, n0_1, c0_1, z0_1, e0_1, w0_1⟩ : ∃ a len cap zs, x0_1 = .slice a len cap ∧ IsRow .u8 W a len cap zs := by
    rcases open_ints Tryz.underlying22 Tryz.underlying5 (by kernel_rfl) g0_1 with ⟨hcs, _⟩ | ⟨x, l, c, zs, hcs, _, hl, hm, hz, _, hcell, hwz⟩
    · exact ⟨none, 0, 0, [], (List.cons.inj hcs).1, .inl ⟨rfl, rfl, rfl, rfl⟩⟩
    · exact ⟨some x, l, c, zs, (List.cons.inj hcs).1, .inr ⟨_, rfl, hl, hm, by simpa using hz, hcell, hwz⟩⟩
  subst e0_1
  have y0_1 : n0_1 * 1 ≤ 140737488351232 := YthkpmiajcmihjaaGreatDoorW.PrintWords.sized_ints (d := r0_1.1) (ps := r0_1.2) hsz0 (j := 1) (t := 22) rfl rfl Tryz.underlying22 Tryz.underlying5 (by kernel_rfl) (by kernel_rfl) ⟨_, g0_1⟩
  obtain ⟨l0_1, rfl, hr0_1, hm0_1, hw0_1, hc0_1⟩ := ReadsInt.ofRowC w0_1
  obtain ⟨a0_2, e0_2, rfl, w0_2⟩ := DataW.trod_int Tryz.underlying3 g0_2
  obtain rfl := (List.cons.inj e0_2).1
  obtain ⟨cs1, rfl, hcs1⟩ := okWide_struct Tryz.underlying26 (hval 1 26 v1 rfl rfl)
  have k1 := h1
  have lt1 : ∀ x ∈ p1, x.block < W.heap.size := by obtain ⟨m, hm⟩ := k1; exact DataW.trod_lt m _ _ _ hm
  rw [show Tryz.prog.cellsOf 26 = 7 by kernel_rfl] at hcs1
  obtain ⟨x1_0, x1_1, x1_2, x1_3, x1_4, x1_5, x1_6, rfl⟩ := Agg.arr7 hcs1
  obtain ⟨fu1, hf1⟩ := h1
  obtain ⟨xs1, fn1, -, hx1, -, hlen1, hfi1⟩ := DataW.trod_struct Tryz.underlying26 hf1
  obtain ⟨r1_0, r1_1, r1_2, r1_3, r1_4, r1_5, r1_6, rfl⟩ := Agg.list7 hlen1
  obtain ⟨rfl, rfl⟩ := Prod.mk.inj hx1
  have hsz1 := Agg.sized_agg hsz (j := 1) (t := 26) rfl rfl Tryz.underlying26
  have g1_0 : DataW.trod enc Tryz.prog W 0 (fun _ => true) true fn1 3 [x1_0] = some r1_0 := by
    have g : DataW.trod enc Tryz.prog W 0 (fun _ => true) true fn1 3 (([x1_0, x1_1, x1_2, x1_3, x1_4, x1_5, x1_6].drop 0).take (Tryz.prog.cellsOf 3)) = some r1_0 := hfi1 0 _ rfl
    rw [show Tryz.prog.cellsOf 3 = 1 by kernel_rfl] at g
    exact g
  have g1_1 : DataW.trod enc Tryz.prog W 0 (fun _ => true) true fn1 3 [x1_1] = some r1_1 := by
    have g : DataW.trod enc Tryz.prog W 0 (fun _ => true) true fn1 3 (([x1_0, x1_1, x1_2, x1_3, x1_4, x1_5, x1_6].drop 1).take (Tryz.prog.cellsOf 3)) = some r1_1 := hfi1 1 _ rfl
    rw [show Tryz.prog.cellsOf 3 = 1 by kernel_rfl] at g
    exact g
  have g1_2 : DataW.trod enc Tryz.prog W 0 (fun _ => true) true fn1 3 [x1_2] = some r1_2 := by
    have g : DataW.trod enc Tryz.prog W 0 (fun _ => true) true fn1 3 (([x1_0, x1_1, x1_2, x1_3, x1_4, x1_5, x1_6].drop 2).take (Tryz.prog.cellsOf 3)) = some r1_2 := hfi1 2 _ rfl
    rw [show Tryz.prog.cellsOf 3 = 1 by kernel_rfl] at g
    exact g
  have g1_3 : DataW.trod enc Tryz.prog W 0 (fun _ => true) true fn1 3 [x1_3] = some r1_3 := by
    have g : DataW.trod enc Tryz.prog W 0 (fun _ => true) true fn1 3 (([x1_0, x1_1, x1_2, x1_3, x1_4, x1_5, x1_6].drop 3).take (Tryz.prog.cellsOf 3)) = some r1_3 := hfi1 3 _ rfl
    rw [show Tryz.prog.cellsOf 3 = 1 by kernel_rfl] at g
    exact g
  have g1_4 : DataW.trod enc Tryz.prog W 0 (fun _ => true) true fn1 3 [x1_4] = some r1_4 := by
    have g : DataW.trod enc Tryz.prog W 0 (fun _ => true) true fn1 3 (([x1_0, x1_1, x1_2, x1_3, x1_4, x1_5, x1_6].drop 4).take (Tryz.prog.cellsOf 3)) = some r1_4 := hfi1 4 _ rfl
    rw [show Tryz.prog.cellsOf 3 = 1 by kernel_rfl] at g
    exact g
  have g1_5 : DataW.trod enc Tryz.prog W 0 (fun _ => true) true fn1 3 [x1_5] = some r1_5 := by
    have g : DataW.trod enc Tryz.prog W 0 (fun _ => true) true fn1 3 (([x1_0, x1_1, x1_2, x1_3, x1_4, x1_5, x1_6].drop 5).take (Tryz.prog.cellsOf 3)) = some r1_5 := hfi1 5 _ rfl
    rw [show Tryz.prog.cellsOf 3 = 1 by kernel_rfl] at g
    exact g
  have g1_6 : DataW.trod enc Tryz.prog W 0 (fun _ => true) true fn1 3 [x1_6] = some r1_6 := by
    have g : DataW.trod enc Tryz.prog W 0 (fun _ => true) true fn1 3 (([x1_0, x1_1, x1_2, x1_3, x1_4, x1_5, x1_6].drop 6).take (Tryz.prog.cellsOf 3)) = some r1_6 := hfi1 6 _ rfl
    rw [show Tryz.prog.cellsOf 3 = 1 by kernel_rfl] at g
    exact g
  obtain ⟨a1_0, e1_0, rfl, w1_0⟩ := DataW.trod_int Tryz.underlying3 g1_0
  obtain rfl := (List.cons.inj e1_0).1
  obtain ⟨a1_1, e1_1, rfl, w1_1⟩ := DataW.trod_int Tryz.underlying3 g1_1
  obtain rfl := (List.cons.inj e1_1).1
  obtain ⟨a1_2, e1_2, rfl, w1_2⟩ := DataW.trod_int Tryz.underlying3 g1_2
  obtain rfl := (List.cons.inj e1_2).1
  obtain ⟨a1_3, e1_3, rfl, w1_3⟩ := DataW.trod_int Tryz.underlying3 g1_3
  obtain rfl := (List.cons.inj e1_3).1
  obtain ⟨a1_4, e1_4, rfl, w1_4⟩ := DataW.trod_int Tryz.underlying3 g1_4
  obtain rfl := (List.cons.inj e1_4).1
  obtain ⟨a1_5, e1_5, rfl, w1_5⟩ := DataW.trod_int Tryz.underlying3 g1_5
  obtain rfl := (List.cons.inj e1_5).1
  obtain ⟨a1_6, e1_6, rfl, w1_6⟩ := DataW.trod_int Tryz.underlying3 g1_6
  obtain rfl := (List.cons.inj e1_6).1
  clear hA0 hval0 hsz0 hsz
  obtain ⟨kk, hh⟩ := P.pureShowRounds a0_0 l0_1 a0_2 a1_0 a1_1 a1_2 a1_3 a1_4 a1_5 a1_6 hm0_1 y0_1 hw0_1 w0_2 w1_0 w1_1 w1_2 w1_3 w1_4 w1_5 w1_6
  refine (P.florinlaw04_ShowRounds.calls kk a0_0 _ _ l0_1 a0_2 a1_0 a1_1 a1_2 a1_3 a1_4 a1_5 a1_6 true W (Kd.C_of_reads (d := (0 : Int)) (h1 := fun _ => rfl) hr0_1) hc0_1 hh).mono ?_
  rintro e W' ⟨rfl, bel⟩
  exact ⟨_, rfl, _, _, _, [], _, [], hW', trodAll_mk1 (shut_bool Tryz.underlying4 _), (trodAll_cons_mk (Below.trod laidOut (by kernel_rfl) (of_decide_eq_true (by kernel_rfl)) k0 bel lt0) (trodAll_cons_mk (Below.trod laidOut (by kernel_rfl) (of_decide_eq_true (by kernel_rfl)) k1 bel lt1) trodAll_mk0)), rfl, bel.frame _, fun h => by cases h⟩
theorem over : Rows.showRoundsRow.holds Tryz.pinned (OpenSpec.ofChange Rows.showRoundsSpec) :=
  OpenClaim.holds_of_wide 3 Tryz.f3 rfl rfl rfl rfl rfl rfl rfl ⟨rfl, rfl, rfl, rfl, rfl⟩ rfl rfl rfl rfl rfl (by kernel_rfl) Tryz.func3 (by kernel_rfl)
    (of_decide_eq_true (by kernel_rfl)) (by unfold Func.isWrapper; first | (rw [if_pos (by decide +kernel)]; kernel_rfl) | (rw [if_neg (by decide +kernel)]; exact ⟨rfl, rfl⟩))
    (fun os started H enc _ => lifted os started H enc)
theorem proved : Rows.ShowRoundsSaid := over
theorem card : Rows.ShowRoundsCardSaid :=
  Claim7.holds_tied_plain_at .later [] [.data, .pinned] true (true, "bcd254b66884432e1dd3c74c178470ccb96f8b9cec695088ad6109954ce594b8") false proved (fun _ h => by cases h) (by kernel_rfl) (fun _ h => by cases h) showRounds_row_tie rfl ⟨rfl, rfl⟩ (by kernel_rfl) rfl
    (fun f fn hf hfn => by
      obtain rfl : f = 3 := Option.some.inj ((show Tryz.prog.funcNamed "florin/florinlaw04.ShowRounds" = some 3 by kernel_rfl).symm.trans hf) |>.symm
      obtain rfl : fn = Tryz.f3 := (Option.some.inj (Tryz.func3.symm.trans hfn)).symm
      exact ⟨by kernel_rfl, fun j t ht => by
        rw [Tryz.params3] at ht
        have hm : t ∈ [24, 26] := by simpa using Array.mem_of_getElem? ht
        have hall : ([24, 26].all fun u => !Tryz.prog.wantsStandIn u) = true := by kernel_rfl
        exact (show Tryz.prog.wantsStandIn t = false by simpa using List.all_eq_true.1 hall t hm)⟩)
    (by kernel_rfl)
end Go.Proofs.YthkpmiajcmihjaaGreatDoor.showRounds
namespace Go.Proofs.YthkpmiajcmihjaaGreatDoor
/-- The tied card, under a short name, for the claim. -/
theorem showRounds_card_holds : Rows.ShowRoundsCardSaid := showRounds.card
#print axioms showRounds_card_holds
end Go.Proofs.YthkpmiajcmihjaaGreatDoor
