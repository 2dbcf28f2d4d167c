/- With = and != changed about, a made relation holds just where it did not, and with one range more it holds where either holds, for every made relation and every number of up to forty digits on either side of the point. No condition of ours: the row's own cells; the listed variables hold what the program's text lays in them (the card ties that). -/
import Derived.Test.YtadagjgkanlmdaaGreatDoorRows
import Derived.Test.YtadagjgkanlmdaaGreatDoorPx15
import Derived.Test.YtadagjgkanlmdaaGreatDoorLEvalNots
import Derived.Test.YtadagjgkanlmdaaGreatDoorOA
import Derived.Test.YtadagjgkanlmdaaGreatDoorTie
import Derived.Test.YtadagjgkanlmdaaGreatDoorCards
import Derived.LaidMore
import Derived.Lay
import Derived.SevenTiedAt
import Derived.Stop.Joined
import Derived.WalkKit
import Derived.ProofKit
import Derived.OpenShut
import Derived.ShutString
import Derived.ChangeOld
import Derived.Below
import Derived.SizedLaws
import Derived.Test.YtadagjgkanlmdaaGreatDoorWSized
import Derived.Test.YtadagjgkanlmdaaGreatDoorOB
namespace Go.Proofs.YtadagjgkanlmdaaGreatDoor.evalNots
open Go.ChangeShapes Go.WideShapes Go.ChangeAt Go.RowKit Go.Proofs.YtadagjgkanlmdaaGreatDoorW.PrintWords Go.Proofs.YtadagjgkanlmdaaGreatDoorW.PrintLast Go.Proofs.YtadagjgkanlmdaaGreatDoorW.PrintMore
open Go.ChangeMaps (open_string shut_string)
set_option linter.unusedVariables false
theorem own : ownKnob Tryz.prog.godebug = none := by kernel_rfl
theorem laidOut : laidOutB Tryz.prog = true := by kernel_rfl
def IsRow (k : IntKind) (w : World) (a : Option Addr) (len cap : Nat) (zs : List Int) : Prop :=
  (a = none ∧ len = 0 ∧ cap = 0 ∧ zs = []) ∨
  ∃ x, a = some x ∧ len ≤ cap ∧ cap ≤ maxLen ∧ zs.length = cap ∧ (∀ i, i < zs.length → w.cell? (x.add i) = some (.int k (zs.getD i 0))) ∧ ∀ n ∈ zs, (Lit.int k n).wf = true
set_option maxRecDepth 100000 in
theorem lifted (os : Os) (started : os.Started) (H : Type) (enc : TypeId × Value → H) :
    ReturnsInHanded {} Tryz.checked os 4 .any (fun w args => (Rows.evalNotsSpec.pre enc Tryz.prog Tryz.f4 Rows.evalNotsRow.domain false w args ∧ laidMetH Tryz.prog Rows.evalNotsRow.laid w) ∧ sizedMet enc Tryz.prog Tryz.f4 (OpenSpec.ofChange Rows.evalNotsSpec) false w args)
      (Rows.evalNotsSpec.post enc Tryz.prog Tryz.f4 false true false false) := by
  refine returnsInHanded_of_change_and (C := Tryz.checked) (X := fun w _ => laidMetH Tryz.prog Rows.evalNotsRow.laid w) (fun _ _ _ hh h => h.of_heap hh) own started (by kernel_rfl) Tryz.func4
    (ChangeSpec.witness_shaped (enc := enc) (C := Tryz.checked) (os := os) (X := fun w _ => laidMetH Tryz.prog Rows.evalNotsRow.laid w) false (World.laidAll Tryz.prog os Rows.evalNotsRow.laid) #[.agg #[.int .i64 0, .int .i64 0, .int .i64 0, .bool false, .slice none 0 0], .int .i64 0, .int .i64 0, .slice none 0 0, .slice none 0 0, .int .i64 0] 8 (World.laidAll_os _ _ _)
      (World.shaped_of_ZipB (by kernel_rfl) (by kernel_rfl)) (by kernel_rfl) (by kernel_rfl) (by kernel_rfl)
      (by rw [MakeChecks.laidMetH_plain _ _ _ (by kernel_rfl)]; exact laidMet_laidAll _ (by kernel_rfl) (by kernel_rfl))) ?_
  intro W base args ds gs before hval0 hW hcnd hsz0 hL _
  have hsz : (DataW.weightsEach Tryz.prog (Tryz.f4.params.toList ++ Rows.evalNotsSpec.plain.varTypes Tryz.prog) (ds ++ gs)).all (· ≤ reachBytes) = true := hsz0
  have hval : ∀ (j : Nat) t v, Tryz.f4.params[j]? = some t → args[j]? = some v → Value.okWide Tryz.prog W .any base t v := hval0
  have hW' := hW
  obtain ⟨p, q, hA0, hV, rfl, hfz, hnd⟩ := hW
  have hA : DataW.TrodAll enc Tryz.prog W 0 (fun _ => true) true Tryz.f4.params.toList args.toList ds p := hA0
  rw [Tryz.params4] at hA hval hsz
  obtain ⟨v0, vs0, d0, ds0, p0, q0, hargs, rfl, rfl, h0, r0⟩ := trodAll_cons hA
  obtain ⟨v1, vs1, d1, ds1, p1, q1, rfl, rfl, rfl, h1, r1⟩ := trodAll_cons r0
  obtain ⟨v2, vs2, d2, ds2, p2, q2, rfl, rfl, rfl, h2, r2⟩ := trodAll_cons r1
  obtain ⟨v3, vs3, d3, ds3, p3, q3, rfl, rfl, rfl, h3, r3⟩ := trodAll_cons r2
  obtain ⟨v4, vs4, d4, ds4, p4, q4, rfl, rfl, rfl, h4, r4⟩ := trodAll_cons r3
  obtain ⟨v5, vs5, d5, ds5, p5, q5, rfl, rfl, rfl, h5, r5⟩ := trodAll_cons r4
  obtain ⟨rfl, rfl, rfl⟩ := trodAll_nil r5
  obtain rfl : args = #[v0, v1, v2, v3, v4, v5] := by cases args; simp_all
  obtain ⟨rfl, rfl⟩ := trodVars_none hV
  obtain ⟨cs0, rfl, hcs0⟩ := okWide_struct Tryz.underlying46 (hval 0 46 v0 rfl rfl)
  have k0 := h0
  have lt0 : ∀ x ∈ p0, x.block < W.heap.size := by obtain ⟨m, hm⟩ := k0; exact DataW.trod_lt m _ _ _ hm
  rw [show Tryz.prog.cellsOf 46 = 5 by kernel_rfl] at hcs0
  obtain ⟨x0_0, x0_1, x0_2, x0_3, x0_4, rfl⟩ := Agg.arr5 hcs0
  obtain ⟨fu0, hf0⟩ := h0
  obtain ⟨xs0, fn0, -, hx0, -, hlen0, hfi0⟩ := DataW.trod_struct Tryz.underlying46 hf0
  obtain ⟨r0_0, r0_1, r0_2, r0_3, r0_4, rfl⟩ := Agg.list5 hlen0
  obtain ⟨rfl, rfl⟩ := Prod.mk.inj hx0
  have hsz0 := Agg.sized_agg hsz (j := 0) (t := 46) rfl rfl Tryz.underlying46
  have g0_0 : DataW.trod enc Tryz.prog W 0 (fun _ => true) true fn0 3 [x0_0] = some r0_0 := by
    have g : DataW.trod enc Tryz.prog W 0 (fun _ => true) true fn0 3 (([x0_0, x0_1, x0_2, x0_3, x0_4].drop 0).take (Tryz.prog.cellsOf 3)) = some r0_0 := hfi0 0 _ rfl
    rw [show Tryz.prog.cellsOf 3 = 1 by kernel_rfl] at g
    exact g
  have g0_1 : DataW.trod enc Tryz.prog W 0 (fun _ => true) true fn0 3 [x0_1] = some r0_1 := by
    have g : DataW.trod enc Tryz.prog W 0 (fun _ => true) true fn0 3 (([x0_0, x0_1, x0_2, x0_3, x0_4].drop 1).take (Tryz.prog.cellsOf 3)) = some r0_1 := hfi0 1 _ rfl
    rw [show Tryz.prog.cellsOf 3 = 1 by kernel_rfl] at g
    exact g
  have g0_2 : DataW.trod enc Tryz.prog W 0 (fun _ => true) true fn0 3 [x0_2] = some r0_2 := by
    have g : DataW.trod enc Tryz.prog W 0 (fun _ => true) true fn0 3 (([x0_0, x0_1, x0_2, x0_3, x0_4].drop 2).take (Tryz.prog.cellsOf 3)) = some r0_2 := hfi0 2 _ rfl
    rw [show Tryz.prog.cellsOf 3 = 1 by kernel_rfl] at g
    exact g
  have g0_3 : DataW.trod enc Tryz.prog W 0 (fun _ => true) true fn0 4 [x0_3] = some r0_3 := by
    have g : DataW.trod enc Tryz.prog W 0 (fun _ => true) true fn0 4 (([x0_0, x0_1, x0_2, x0_3, x0_4].drop 3).take (Tryz.prog.cellsOf 4)) = some r0_3 := hfi0 3 _ rfl
    rw [show Tryz.prog.cellsOf 4 = 1 by kernel_rfl] at g
    exact g
  have g0_4 : DataW.trod enc Tryz.prog W 0 (fun _ => true) true fn0 44 [x0_4] = some r0_4 := by
    have g : DataW.trod enc Tryz.prog W 0 (fun _ => true) true fn0 44 (([x0_0, x0_1, x0_2, x0_3, x0_4].drop 4).take (Tryz.prog.cellsOf 44)) = some r0_4 := hfi0 4 _ rfl
    rw [show Tryz.prog.cellsOf 44 = 1 by kernel_rfl] at g
    exact g
  obtain ⟨a0_0, e0_0, rfl, w0_0⟩ := DataW.trod_int Tryz.underlying3 g0_0
  obtain rfl := (List.cons.inj e0_0).1
  obtain ⟨a0_1, e0_1, rfl, w0_1⟩ := DataW.trod_int Tryz.underlying3 g0_1
  obtain rfl := (List.cons.inj e0_1).1
  obtain ⟨a0_2, e0_2, rfl, w0_2⟩ := DataW.trod_int Tryz.underlying3 g0_2
  obtain rfl := (List.cons.inj e0_2).1
  obtain ⟨a0_3, e0_3, rfl⟩ := DataW.trod_bool Tryz.underlying4 g0_3
  obtain rfl := (List.cons.inj e0_3).1
  obtain ⟨A0_4, c0_4, l0_4, e0_4, hl0_4, hr0_4⟩ := Rdr.row (d := P.k139) Tryz.underlying44 (show Rdr.Rdr _ Tryz.prog W P.k139 139 from (Rdr.struct (fun y_ => ⟨y_.1, y_.2⟩) (fun _ => rfl) Tryz.underlying139 (by kernel_rfl) (Rdr.cons rfl (Rdr.int Tryz.underlying3 (by kernel_rfl)) (Rdr.last rfl (Rdr.int Tryz.underlying3 (by kernel_rfl)))))) g0_4
  obtain rfl := (List.cons.inj e0_4).1
  obtain ⟨a1, rfl, rfl, rfl, w1⟩ := open_int Tryz.underlying3 (hval 1 3 v1 rfl rfl) h1
  obtain ⟨a2, rfl, rfl, rfl, w2⟩ := open_int Tryz.underlying3 (hval 2 3 v2 rfl rfl) h2
  obtain ⟨A3, n3, c3, rfl⟩ := okWide_slice Tryz.underlying23 (hval 3 23 v3 rfl rfl)
  have k3 := h3
  have lt3 : ∀ x ∈ p3, x.block < W.heap.size := by obtain ⟨m, hm⟩ := k3; exact DataW.trod_lt m _ _ _ hm
  have y3 : n3 * 1 ≤ 140737488351232 := YtadagjgkanlmdaaGreatDoorW.PrintWords.sized_ints hsz (j := 3) (t := 23) rfl rfl Tryz.underlying23 Tryz.underlying5 (by kernel_rfl) (by kernel_rfl) h3
  obtain ⟨z3, w3⟩ : ∃ zs, IsRow .u8 W A3 n3 c3 zs := by
    obtain ⟨fuel, hf⟩ := h3
    rcases open_ints Tryz.underlying23 Tryz.underlying5 (by kernel_rfl) hf with ⟨hcs, _⟩ | ⟨x, l, c, zs, hcs, _, hl, hm, hz, _, hcell, hwz⟩
    · simp [Value.cells] at hcs
      obtain ⟨rfl, rfl, rfl⟩ := hcs
      exact ⟨[], .inl ⟨rfl, rfl, rfl, rfl⟩⟩
    · simp [Value.cells] at hcs
      obtain ⟨rfl, rfl, rfl⟩ := hcs
      exact ⟨zs, .inr ⟨_, rfl, hl, hm, by simpa using hz, hcell, hwz⟩⟩
  obtain ⟨l3, rfl, hr3, hm3, hw3, hc3⟩ := ReadsInt.ofRowC w3
  obtain ⟨A4, n4, c4, rfl⟩ := okWide_slice Tryz.underlying23 (hval 4 23 v4 rfl rfl)
  have k4 := h4
  have lt4 : ∀ x ∈ p4, x.block < W.heap.size := by obtain ⟨m, hm⟩ := k4; exact DataW.trod_lt m _ _ _ hm
  have y4 : n4 * 1 ≤ 140737488351232 := YtadagjgkanlmdaaGreatDoorW.PrintWords.sized_ints hsz (j := 4) (t := 23) rfl rfl Tryz.underlying23 Tryz.underlying5 (by kernel_rfl) (by kernel_rfl) h4
  obtain ⟨z4, w4⟩ : ∃ zs, IsRow .u8 W A4 n4 c4 zs := by
    obtain ⟨fuel, hf⟩ := h4
    rcases open_ints Tryz.underlying23 Tryz.underlying5 (by kernel_rfl) hf with ⟨hcs, _⟩ | ⟨x, l, c, zs, hcs, _, hl, hm, hz, _, hcell, hwz⟩
    · simp [Value.cells] at hcs
      obtain ⟨rfl, rfl, rfl⟩ := hcs
      exact ⟨[], .inl ⟨rfl, rfl, rfl, rfl⟩⟩
    · simp [Value.cells] at hcs
      obtain ⟨rfl, rfl, rfl⟩ := hcs
      exact ⟨zs, .inr ⟨_, rfl, hl, hm, by simpa using hz, hcell, hwz⟩⟩
  obtain ⟨l4, rfl, hr4, hm4, hw4, hc4⟩ := ReadsInt.ofRowC w4
  obtain ⟨a5, rfl, rfl, rfl, w5⟩ := open_int Tryz.underlying3 (hval 5 3 v5 rfl rfl) h5
  clear hA0 hval0 hsz0 hsz
  obtain ⟨kk, hh⟩ := P.pureEvalNots a0_0 a0_1 a0_2 a0_3 l0_4 a1 a2 l3 l4 a5 w0_0 w0_1 w0_2 w1 w2 hm3 y3 hw3 hm4 y4 hw4 w5
  refine (P.florinlaw07_EvalNots.calls kk a0_0 a0_1 a0_2 a0_3 (fun k_ => k_ < W.heap.size) _ _ l0_4 a1 a2 _ _ l3 _ _ l4 a5 true W (Rdr.shared (Kd.heap_iso _ (Kd.heap_pair (Kd.heap_int _) (Kd.heap_int _))) hl0_4 hr0_4) (Kd.C_of_reads (d := (0 : Int)) (h1 := fun _ => rfl) hr3) hc3 (Kd.C_of_reads (d := (0 : Int)) (h1 := fun _ => rfl) hr4) hc4 hh).mono ?_
  rintro e W' ⟨rfl, bel⟩
  exact ⟨_, rfl, _, _, _, [], _, [], hW', trodAll_mk1 (shut_bool Tryz.underlying4 _), (trodAll_cons_mk (Below.trod laidOut (by kernel_rfl) (of_decide_eq_true (by kernel_rfl)) k0 bel lt0) (trodAll_cons_mk (shut_int Tryz.underlying3 w1) (trodAll_cons_mk (shut_int Tryz.underlying3 w2) (trodAll_cons_mk (Below.trod laidOut (by kernel_rfl) (of_decide_eq_true (by kernel_rfl)) k3 bel lt3) (trodAll_cons_mk (Below.trod laidOut (by kernel_rfl) (of_decide_eq_true (by kernel_rfl)) k4 bel lt4) (trodAll_cons_mk (shut_int Tryz.underlying3 w5) trodAll_mk0)))))), rfl, bel.frame _, fun h => by cases h⟩
theorem over : Rows.evalNotsRow.holds Tryz.pinned (OpenSpec.ofChange Rows.evalNotsSpec) :=
  OpenClaim.holds_of_wide 4 Tryz.f4 rfl rfl rfl rfl rfl rfl rfl ⟨rfl, rfl, rfl, rfl, rfl⟩ rfl rfl rfl rfl rfl (by kernel_rfl) Tryz.func4 (by kernel_rfl)
    (of_decide_eq_true (by kernel_rfl)) (by unfold Func.isWrapper; first | (rw [if_pos (by decide +kernel)]; kernel_rfl) | (rw [if_neg (by decide +kernel)]; exact ⟨rfl, rfl⟩))
    (fun os started H enc _ => lifted os started H enc)
theorem proved : Rows.EvalNotsSaid := over
theorem card : Rows.EvalNotsCardSaid :=
  Claim7.holds_tied_plain_at .later [] [.data, .data, .data, .data, .sentinel, .sentinel, .pinned] true (true, "cb670a35c9a0894f69f949e65426166a60378a9ee7222ab0d1f3e46fa97b18e7") true proved (fun _ h => by cases h) (by kernel_rfl) (fun _ h => by cases h) evalNots_row_tie rfl ⟨rfl, rfl⟩ (by kernel_rfl) rfl
    (fun f fn hf hfn => by
      obtain rfl : f = 4 := Option.some.inj ((show Tryz.prog.funcNamed "florin/florinlaw07.EvalNots" = some 4 by kernel_rfl).symm.trans hf) |>.symm
      obtain rfl : fn = Tryz.f4 := (Option.some.inj (Tryz.func4.symm.trans hfn)).symm
      exact ⟨by kernel_rfl, fun j t ht => by
        rw [Tryz.params4] at ht
        have hm : t ∈ [46, 3, 3, 23, 23, 3] := by simpa using Array.mem_of_getElem? ht
        have hall : ([46, 3, 3, 23, 23, 3].all fun u => !Tryz.prog.wantsStandIn u) = true := by kernel_rfl
        exact (show Tryz.prog.wantsStandIn t = false by simpa using List.all_eq_true.1 hall t hm)⟩)
    (by kernel_rfl)
end Go.Proofs.YtadagjgkanlmdaaGreatDoor.evalNots
namespace Go.Proofs.YtadagjgkanlmdaaGreatDoor
/-- The tied card, under a short name, for the claim. -/
theorem evalNots_card_holds : Rows.EvalNotsCardSaid := evalNots.card
#print axioms evalNots_card_holds
end Go.Proofs.YtadagjgkanlmdaaGreatDoor
