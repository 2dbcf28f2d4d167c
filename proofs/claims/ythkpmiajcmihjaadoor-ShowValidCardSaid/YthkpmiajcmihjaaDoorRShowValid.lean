/- The law florinlaw04.ShowValid answers true for every input. No condition of ours: the row's own cells; the listed variables hold what the program's text lays in them (the card ties that). -/
import Derived.Test.YthkpmiajcmihjaaDoorRows
import Derived.Test.YthkpmiajcmihjaaDoorPx11
import Derived.Test.YthkpmiajcmihjaaDoorLShowValid
import Derived.Test.YthkpmiajcmihjaaDoorOA
import Derived.Test.YthkpmiajcmihjaaDoorTie
import Derived.Test.YthkpmiajcmihjaaDoorCards
import Derived.LaidMore
import Derived.Lay
import Derived.SevenTiedAt
import Derived.Stop.Joined
import Derived.WalkKit
import Derived.ProofKit
import Derived.OpenShut
import Derived.ShutString
import Derived.ChangeOld
import Derived.Below
import Derived.SizedLaws
import Derived.Test.YthkpmiajcmihjaaDoorWSized
namespace Go.Proofs.YthkpmiajcmihjaaDoor.showValid
open Go.ChangeShapes Go.WideShapes Go.ChangeAt Go.RowKit Go.Proofs.YthkpmiajcmihjaaDoorW.PrintWords Go.Proofs.YthkpmiajcmihjaaDoorW.PrintLast Go.Proofs.YthkpmiajcmihjaaDoorW.PrintMore
open Go.ChangeMaps (open_string shut_string)
set_option linter.unusedVariables false
theorem own : ownKnob Tryd.prog.godebug = none := by kernel_rfl
theorem laidOut : laidOutB Tryd.prog = true := by kernel_rfl
def IsRow (k : IntKind) (w : World) (a : Option Addr) (len cap : Nat) (zs : List Int) : Prop :=
  (a = none ∧ len = 0 ∧ cap = 0 ∧ zs = []) ∨
  ∃ x, a = some x ∧ len ≤ cap ∧ cap ≤ maxLen ∧ zs.length = cap ∧ (∀ i, i < zs.length → w.cell? (x.add i) = some (.int k (zs.getD i 0))) ∧ ∀ n ∈ zs, (Lit.int k n).wf = true
set_option maxRecDepth 100000 in
theorem lifted (os : Os) (started : os.Started) (H : Type) (enc : TypeId × Value → H) :
    ReturnsInHanded {} Tryd.checked os 3 .any (fun w args => (Rows.showValidSpec.pre enc Tryd.prog Tryd.f3 Rows.showValidRow.domain false w args ∧ laidMetH Tryd.prog Rows.showValidRow.laid w) ∧ sizedMet enc Tryd.prog Tryd.f3 (OpenSpec.ofChange Rows.showValidSpec) false w args)
      (Rows.showValidSpec.post enc Tryd.prog Tryd.f3 false true false false) := by
  refine returnsInHanded_of_change_and (C := Tryd.checked) (X := fun w _ => laidMetH Tryd.prog Rows.showValidRow.laid w) (fun _ _ _ hh h => h.of_heap hh) own started (by kernel_rfl) Tryd.func3
    (ChangeSpec.witness_shaped (enc := enc) (C := Tryd.checked) (os := os) (X := fun w _ => laidMetH Tryd.prog Rows.showValidRow.laid w) false (World.laidAll Tryd.prog os Rows.showValidRow.laid) #[.int .i64 0, .int .i64 0, .int .i64 0, .int .i64 0, .int .i64 0, .agg #[.bool false, .slice none 0 0, .int .i64 0]] 8 (World.laidAll_os _ _ _)
      (World.shaped_of_ZipB (by kernel_rfl) (by kernel_rfl)) (by kernel_rfl) (by kernel_rfl) (by kernel_rfl)
      (by rw [MakeChecks.laidMetH_plain _ _ _ (by kernel_rfl)]; exact laidMet_laidAll _ (by kernel_rfl) (by kernel_rfl))) ?_
  intro W base args ds gs before hval0 hW hcnd hsz0 hL _
  have hsz : (DataW.weightsEach Tryd.prog (Tryd.f3.params.toList ++ Rows.showValidSpec.plain.varTypes Tryd.prog) (ds ++ gs)).all (· ≤ reachBytes) = true := hsz0
  have hval : ∀ (j : Nat) t v, Tryd.f3.params[j]? = some t → args[j]? = some v → Value.okWide Tryd.prog W .any base t v := hval0
  have hW' := hW
  obtain ⟨p, q, hA0, hV, rfl, hfz, hnd⟩ := hW
  have hA : DataW.TrodAll enc Tryd.prog W 0 (fun _ => true) true Tryd.f3.params.toList args.toList ds p := hA0
  rw [Tryd.params3] at hA hval hsz
  obtain ⟨v0, vs0, d0, ds0, p0, q0, hargs, rfl, rfl, h0, r0⟩ := trodAll_cons hA
  obtain ⟨v1, vs1, d1, ds1, p1, q1, rfl, rfl, rfl, h1, r1⟩ := trodAll_cons r0
  obtain ⟨v2, vs2, d2, ds2, p2, q2, rfl, rfl, rfl, h2, r2⟩ := trodAll_cons r1
  obtain ⟨v3, vs3, d3, ds3, p3, q3, rfl, rfl, rfl, h3, r3⟩ := trodAll_cons r2
  obtain ⟨v4, vs4, d4, ds4, p4, q4, rfl, rfl, rfl, h4, r4⟩ := trodAll_cons r3
  obtain ⟨v5, vs5, d5, ds5, p5, q5, rfl, rfl, rfl, h5, r5⟩ := trodAll_cons r4
  obtain ⟨rfl, rfl, rfl⟩ := trodAll_nil r5
  obtain rfl : args = #[v0, v1, v2, v3, v4, v5] := by cases args; simp_all
  obtain ⟨rfl, rfl⟩ := trodVars_none hV
  obtain ⟨a0, rfl, rfl, rfl, w0⟩ := open_int Tryd.underlying3 (hval 0 3 v0 rfl rfl) h0
  obtain ⟨a1, rfl, rfl, rfl, w1⟩ := open_int Tryd.underlying3 (hval 1 3 v1 rfl rfl) h1
  obtain ⟨a2, rfl, rfl, rfl, w2⟩ := open_int Tryd.underlying3 (hval 2 3 v2 rfl rfl) h2
  obtain ⟨a3, rfl, rfl, rfl, w3⟩ := open_int Tryd.underlying3 (hval 3 3 v3 rfl rfl) h3
  obtain ⟨a4, rfl, rfl, rfl, w4⟩ := open_int Tryd.underlying3 (hval 4 3 v4 rfl rfl) h4
  obtain ⟨cs5, rfl, hcs5⟩ := okWide_struct Tryd.underlying24 (hval 5 24 v5 rfl rfl)
  have k5 := h5
  have lt5 : ∀ x ∈ p5, x.block < W.heap.size := by obtain ⟨m, hm⟩ := k5; exact DataW.trod_lt m _ _ _ hm
  rw [show Tryd.prog.cellsOf 24 = 3 by kernel_rfl] at hcs5
  obtain ⟨x5_0, x5_1, x5_2, rfl⟩ := Agg.arr3 hcs5
  obtain ⟨fu5, hf5⟩ := h5
  obtain ⟨xs5, fn5, -, hx5, -, hlen5, hfi5⟩ := DataW.trod_struct Tryd.underlying24 hf5
  obtain ⟨r5_0, r5_1, r5_2, rfl⟩ := Agg.list3 hlen5
  obtain ⟨rfl, rfl⟩ := Prod.mk.inj hx5
  have hsz5 := Agg.sized_agg hsz (j := 5) (t := 24) rfl rfl Tryd.underlying24
  have g5_0 : DataW.trod enc Tryd.prog W 0 (fun _ => true) true fn5 4 [x5_0] = some r5_0 := by
    have g : DataW.trod enc Tryd.prog W 0 (fun _ => true) true fn5 4 (([x5_0, x5_1, x5_2].drop 0).take (Tryd.prog.cellsOf 4)) = some r5_0 := hfi5 0 _ rfl
    rw [show Tryd.prog.cellsOf 4 = 1 by kernel_rfl] at g
    exact g
  have g5_1 : DataW.trod enc Tryd.prog W 0 (fun _ => true) true fn5 22 [x5_1] = some r5_1 := by
    have g : DataW.trod enc Tryd.prog W 0 (fun _ => true) true fn5 22 (([x5_0, x5_1, x5_2].drop 1).take (Tryd.prog.cellsOf 22)) = some r5_1 := hfi5 1 _ rfl
    rw [show Tryd.prog.cellsOf 22 = 1 by kernel_rfl] at g
    exact g
  have g5_2 : DataW.trod enc Tryd.prog W 0 (fun _ => true) true fn5 3 [x5_2] = some r5_2 := by
    have g : DataW.trod enc Tryd.prog W 0 (fun _ => true) true fn5 3 (([x5_0, x5_1, x5_2].drop 2).take (Tryd.prog.cellsOf 3)) = some r5_2 := hfi5 2 _ rfl
    rw [show Tryd.prog.cellsOf 3 = 1 by kernel_rfl] at g
    exact g
  obtain ⟨a5_0, e5_0, rfl⟩ := DataW.trod_bool Tryd.underlying4 g5_0
  obtain rfl := (List.cons.inj e5_0).1
  obtain ⟨A5_1, n5_1, c5_1, z5_1, e5_1, w5_1⟩ : ∃ a len cap zs, x5_1 = .slice a len cap ∧ IsRow .u8 W a len cap zs := by
    rcases open_ints Tryd.underlying22 Tryd.underlying5 (by kernel_rfl) g5_1 with ⟨hcs, _⟩ | ⟨x, l, c, zs, hcs, _, hl, hm, hz, _, hcell, hwz⟩
    · exact ⟨none, 0, 0, [], (List.cons.inj hcs).1, .inl ⟨rfl, rfl, rfl, rfl⟩⟩
    · exact ⟨some x, l, c, zs, (List.cons.inj hcs).1, .inr ⟨_, rfl, hl, hm, by simpa using hz, hcell, hwz⟩⟩
  subst e5_1
  have y5_1 : n5_1 * 1 ≤ 140737488351232 := YthkpmiajcmihjaaDoorW.PrintWords.sized_ints (d := r5_1.1) (ps := r5_1.2) hsz5 (j := 1) (t := 22) rfl rfl Tryd.underlying22 Tryd.underlying5 (by kernel_rfl) (by kernel_rfl) ⟨_, g5_1⟩
  obtain ⟨l5_1, rfl, hr5_1, hm5_1, hw5_1, hc5_1⟩ := ReadsInt.ofRowC w5_1
  obtain ⟨a5_2, e5_2, rfl, w5_2⟩ := DataW.trod_int Tryd.underlying3 g5_2
  obtain rfl := (List.cons.inj e5_2).1
  clear hA0 hval0 hsz0 hsz
  obtain ⟨kk, hh⟩ := P.pureShowValid a0 a1 a2 a3 a4 a5_0 l5_1 a5_2 w0 w1 w2 w3 w4 hm5_1 y5_1 hw5_1 w5_2
  refine (P.florinlaw04_ShowValid.calls kk a0 a1 a2 a3 a4 a5_0 _ _ l5_1 a5_2 true W (Kd.C_of_reads (d := (0 : Int)) (h1 := fun _ => rfl) hr5_1) hc5_1 hh).mono ?_
  rintro e W' ⟨rfl, bel⟩
  exact ⟨_, rfl, _, _, _, [], _, [], hW', trodAll_mk1 (shut_bool Tryd.underlying4 _), (trodAll_cons_mk (shut_int Tryd.underlying3 w0) (trodAll_cons_mk (shut_int Tryd.underlying3 w1) (trodAll_cons_mk (shut_int Tryd.underlying3 w2) (trodAll_cons_mk (shut_int Tryd.underlying3 w3) (trodAll_cons_mk (shut_int Tryd.underlying3 w4) (trodAll_cons_mk (Below.trod laidOut (by kernel_rfl) (of_decide_eq_true (by kernel_rfl)) k5 bel lt5) trodAll_mk0)))))), rfl, bel.frame _, fun h => by cases h⟩
theorem over : Rows.showValidRow.holds Tryd.pinned (OpenSpec.ofChange Rows.showValidSpec) :=
  OpenClaim.holds_of_wide 3 Tryd.f3 rfl rfl rfl rfl rfl rfl rfl ⟨rfl, rfl, rfl, rfl, rfl⟩ rfl rfl rfl rfl rfl (by kernel_rfl) Tryd.func3 (by kernel_rfl)
    (of_decide_eq_true (by kernel_rfl)) (by unfold Func.isWrapper; first | (rw [if_pos (by decide +kernel)]; kernel_rfl) | (rw [if_neg (by decide +kernel)]; exact ⟨rfl, rfl⟩))
    (fun os started H enc _ => lifted os started H enc)
theorem proved : Rows.ShowValidSaid := over
theorem card : Rows.ShowValidCardSaid :=
  Claim7.holds_tied_plain_at .later [] [.data, .pinned] true (true, "cf4d3ca5655829118dd9bc664cc9619f3eef95d3c572f43b5ad1aef6a31da5e2") false proved (fun _ h => by cases h) (by kernel_rfl) (fun _ h => by cases h) showValid_row_tie rfl ⟨rfl, rfl⟩ (by kernel_rfl) rfl
    (fun f fn hf hfn => by
      obtain rfl : f = 3 := Option.some.inj ((show Tryd.prog.funcNamed "florin/florinlaw04.ShowValid" = some 3 by kernel_rfl).symm.trans hf) |>.symm
      obtain rfl : fn = Tryd.f3 := (Option.some.inj (Tryd.func3.symm.trans hfn)).symm
      exact ⟨by kernel_rfl, fun j t ht => by
        rw [Tryd.params3] at ht
        have hm : t ∈ [3, 3, 3, 3, 3, 24] := by simpa using Array.mem_of_getElem? ht
        have hall : ([3, 3, 3, 3, 3, 24].all fun u => !Tryd.prog.wantsStandIn u) = true := by kernel_rfl
        exact (show Tryd.prog.wantsStandIn t = false by simpa using List.all_eq_true.1 hall t hm)⟩)
    (by kernel_rfl)
end Go.Proofs.YthkpmiajcmihjaaDoor.showValid
namespace Go.Proofs.YthkpmiajcmihjaaDoor
/-- The tied card, under a short name, for the claim. -/
theorem showValid_card_holds : Rows.ShowValidCardSaid := showValid.card
#print axioms showValid_card_holds
end Go.Proofs.YthkpmiajcmihjaaDoor
