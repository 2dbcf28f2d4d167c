/- The law florinlaw07.EvalHolds answers true at every input. No condition of ours: the row's own cells; the listed variables hold what the program's text lays in them (the card ties that). -/
import Derived.Test.YtadagjgkanlmdaaGreatDoorRows
import Derived.Test.YtadagjgkanlmdaaGreatDoorPx19
import Derived.Test.YtadagjgkanlmdaaGreatDoorLEvalHolds
import Derived.Test.YtadagjgkanlmdaaGreatDoorOA
import Derived.Test.YtadagjgkanlmdaaGreatDoorTie
import Derived.Test.YtadagjgkanlmdaaGreatDoorCards
import Derived.LaidMore
import Derived.Lay
import Derived.SevenTiedAt
import Derived.Stop.Joined
import Derived.WalkKit
import Derived.ProofKit
import Derived.OpenShut
import Derived.ShutString
import Derived.ChangeOld
import Derived.Below
import Derived.SizedLaws
import Derived.Test.YtadagjgkanlmdaaGreatDoorWSized
import Derived.Test.YtadagjgkanlmdaaGreatDoorOB
namespace Go.Proofs.YtadagjgkanlmdaaGreatDoor.evalHolds
open Go.ChangeShapes Go.WideShapes Go.ChangeAt Go.RowKit Go.Proofs.YtadagjgkanlmdaaGreatDoorW.PrintWords Go.Proofs.YtadagjgkanlmdaaGreatDoorW.PrintLast Go.Proofs.YtadagjgkanlmdaaGreatDoorW.PrintMore
open Go.ChangeMaps (open_string shut_string)
set_option linter.unusedVariables false
theorem own : ownKnob Tryz.prog.godebug = none := by kernel_rfl
theorem laidOut : laidOutB Tryz.prog = true := by kernel_rfl
def IsRow (k : IntKind) (w : World) (a : Option Addr) (len cap : Nat) (zs : List Int) : Prop :=
  (a = none ∧ len = 0 ∧ cap = 0 ∧ zs = []) ∨
  ∃ x, a = some x ∧ len ≤ cap ∧ cap ≤ maxLen ∧ zs.length = cap ∧ (∀ i, i < zs.length → w.cell? (x.add i) = some (.int k (zs.getD i 0))) ∧ ∀ n ∈ zs, (Lit.int k n).wf = true
set_option maxRecDepth 100000 in
theorem lifted (os : Os) (started : os.Started) (H : Type) (enc : TypeId × Value → H) :
    ReturnsInHanded {} Tryz.checked os 7 .any (fun w args => (Rows.evalHoldsSpec.pre enc Tryz.prog Tryz.f7 Rows.evalHoldsRow.domain false w args ∧ laidMetH Tryz.prog Rows.evalHoldsRow.laid w) ∧ sizedMet enc Tryz.prog Tryz.f7 (OpenSpec.ofChange Rows.evalHoldsSpec) false w args)
      (Rows.evalHoldsSpec.post enc Tryz.prog Tryz.f7 false true false false) := by
  refine returnsInHanded_of_change_and (C := Tryz.checked) (X := fun w _ => laidMetH Tryz.prog Rows.evalHoldsRow.laid w) (fun _ _ _ hh h => h.of_heap hh) own started (by kernel_rfl) Tryz.func7
    (ChangeSpec.witness_shaped (enc := enc) (C := Tryz.checked) (os := os) (X := fun w _ => laidMetH Tryz.prog Rows.evalHoldsRow.laid w) false (World.laidAll Tryz.prog os Rows.evalHoldsRow.laid) #[.slice none 0 0, .slice none 0 0, .slice none 0 0, .int .i64 0] 8 (World.laidAll_os _ _ _)
      (World.shaped_of_ZipB (by kernel_rfl) (by kernel_rfl)) (by kernel_rfl) (by kernel_rfl) (by kernel_rfl)
      (by rw [MakeChecks.laidMetH_plain _ _ _ (by kernel_rfl)]; exact laidMet_laidAll _ (by kernel_rfl) (by kernel_rfl))) ?_
  intro W base args ds gs before hval0 hW hcnd hsz0 hL _
  have hsz : (DataW.weightsEach Tryz.prog (Tryz.f7.params.toList ++ Rows.evalHoldsSpec.plain.varTypes Tryz.prog) (ds ++ gs)).all (· ≤ reachBytes) = true := hsz0
  have hval : ∀ (j : Nat) t v, Tryz.f7.params[j]? = some t → args[j]? = some v → Value.okWide Tryz.prog W .any base t v := hval0
  have hW' := hW
  obtain ⟨p, q, hA0, hV, rfl, hfz, hnd⟩ := hW
  have hA : DataW.TrodAll enc Tryz.prog W 0 (fun _ => true) true Tryz.f7.params.toList args.toList ds p := hA0
  rw [Tryz.params7] at hA hval hsz
  obtain ⟨v0, vs0, d0, ds0, p0, q0, hargs, rfl, rfl, h0, r0⟩ := trodAll_cons hA
  obtain ⟨v1, vs1, d1, ds1, p1, q1, rfl, rfl, rfl, h1, r1⟩ := trodAll_cons r0
  obtain ⟨v2, vs2, d2, ds2, p2, q2, rfl, rfl, rfl, h2, r2⟩ := trodAll_cons r1
  obtain ⟨v3, vs3, d3, ds3, p3, q3, rfl, rfl, rfl, h3, r3⟩ := trodAll_cons r2
  obtain ⟨rfl, rfl, rfl⟩ := trodAll_nil r3
  obtain rfl : args = #[v0, v1, v2, v3] := by cases args; simp_all
  obtain ⟨rfl, rfl⟩ := trodVars_none hV
  obtain ⟨A0, n0, c0, rfl⟩ := okWide_slice Tryz.underlying22 (hval 0 22 v0 rfl rfl)
  have k0 := h0
  have lt0 : ∀ x ∈ p0, x.block < W.heap.size := by obtain ⟨m, hm⟩ := k0; exact DataW.trod_lt m _ _ _ hm
  obtain ⟨fu0, hf0⟩ := h0
  obtain ⟨A0', c0', l0, e0, hl0, hr0⟩ := Rdr.row (d := P.k50) Tryz.underlying22 (show Rdr.Rdr _ Tryz.prog W P.k50 50 from (Rdr.struct (fun y_ => ⟨y_.1, y_.2.1, y_.2.2.1, y_.2.2.2⟩) (fun _ => rfl) Tryz.underlying50 (by kernel_rfl) (Rdr.cons rfl (Rdr.int Tryz.underlying3 (by kernel_rfl)) (Rdr.cons rfl (Rdr.int Tryz.underlying3 (by kernel_rfl)) (Rdr.cons rfl (Rdr.int Tryz.underlying3 (by kernel_rfl)) (Rdr.last rfl (Rdr.slice Tryz.underlying48 (by kernel_rfl) (Rdr.slice Tryz.underlying47 (by kernel_rfl) (Rdr.struct (fun y_ => ⟨y_.1, y_.2.1, y_.2.2.1, y_.2.2.2.1, y_.2.2.2.2⟩) (fun _ => rfl) Tryz.underlying46 (by kernel_rfl) (Rdr.cons rfl (Rdr.int Tryz.underlying3 (by kernel_rfl)) (Rdr.cons rfl (Rdr.int Tryz.underlying3 (by kernel_rfl)) (Rdr.cons rfl (Rdr.int Tryz.underlying3 (by kernel_rfl)) (Rdr.cons rfl (Rdr.bool Tryz.underlying4 (by kernel_rfl)) (Rdr.last rfl (Rdr.slice Tryz.underlying44 (by kernel_rfl) (Rdr.struct (fun y_ => ⟨y_.1, y_.2⟩) (fun _ => rfl) Tryz.underlying139 (by kernel_rfl) (Rdr.cons rfl (Rdr.int Tryz.underlying3 (by kernel_rfl)) (Rdr.last rfl (Rdr.int Tryz.underlying3 (by kernel_rfl)))))))))))))))))))) hf0
  simp only [Value.cells, List.cons.injEq, Value.slice.injEq, and_true] at e0
  obtain ⟨rfl, rfl, rfl⟩ := e0
  obtain ⟨A1, n1, c1, rfl⟩ := okWide_slice Tryz.underlying23 (hval 1 23 v1 rfl rfl)
  have k1 := h1
  have lt1 : ∀ x ∈ p1, x.block < W.heap.size := by obtain ⟨m, hm⟩ := k1; exact DataW.trod_lt m _ _ _ hm
  have y1 : n1 * 1 ≤ 140737488351232 := YtadagjgkanlmdaaGreatDoorW.PrintWords.sized_ints hsz (j := 1) (t := 23) rfl rfl Tryz.underlying23 Tryz.underlying5 (by kernel_rfl) (by kernel_rfl) h1
  obtain ⟨z1, w1⟩ : ∃ zs, IsRow .u8 W A1 n1 c1 zs := by
    obtain ⟨fuel, hf⟩ := h1
    rcases open_ints Tryz.underlying23 Tryz.underlying5 (by kernel_rfl) hf with ⟨hcs, _⟩ | ⟨x, l, c, zs, hcs, _, hl, hm, hz, _, hcell, hwz⟩
    · simp [Value.cells] at hcs
      obtain ⟨rfl, rfl, rfl⟩ := hcs
      exact ⟨[], .inl ⟨rfl, rfl, rfl, rfl⟩⟩
    · simp [Value.cells] at hcs
      obtain ⟨rfl, rfl, rfl⟩ := hcs
      exact ⟨zs, .inr ⟨_, rfl, hl, hm, by simpa using hz, hcell, hwz⟩⟩
  obtain ⟨l1, rfl, hr1, hm1, hw1, hc1⟩ := ReadsInt.ofRowC w1
  obtain ⟨A2, n2, c2, rfl⟩ := okWide_slice Tryz.underlying23 (hval 2 23 v2 rfl rfl)
  have k2 := h2
  have lt2 : ∀ x ∈ p2, x.block < W.heap.size := by obtain ⟨m, hm⟩ := k2; exact DataW.trod_lt m _ _ _ hm
  have y2 : n2 * 1 ≤ 140737488351232 := YtadagjgkanlmdaaGreatDoorW.PrintWords.sized_ints hsz (j := 2) (t := 23) rfl rfl Tryz.underlying23 Tryz.underlying5 (by kernel_rfl) (by kernel_rfl) h2
  obtain ⟨z2, w2⟩ : ∃ zs, IsRow .u8 W A2 n2 c2 zs := by
    obtain ⟨fuel, hf⟩ := h2
    rcases open_ints Tryz.underlying23 Tryz.underlying5 (by kernel_rfl) hf with ⟨hcs, _⟩ | ⟨x, l, c, zs, hcs, _, hl, hm, hz, _, hcell, hwz⟩
    · simp [Value.cells] at hcs
      obtain ⟨rfl, rfl, rfl⟩ := hcs
      exact ⟨[], .inl ⟨rfl, rfl, rfl, rfl⟩⟩
    · simp [Value.cells] at hcs
      obtain ⟨rfl, rfl, rfl⟩ := hcs
      exact ⟨zs, .inr ⟨_, rfl, hl, hm, by simpa using hz, hcell, hwz⟩⟩
  obtain ⟨l2, rfl, hr2, hm2, hw2, hc2⟩ := ReadsInt.ofRowC w2
  obtain ⟨a3, rfl, rfl, rfl, w3⟩ := open_int Tryz.underlying3 (hval 3 3 v3 rfl rfl) h3
  clear hA0 hval0 hsz0 hsz
  obtain ⟨kk, hh⟩ := P.pureEvalHolds l0 l1 l2 a3 hm1 y1 hw1 hm2 y2 hw2 w3
  refine (P.florinlaw07_EvalHolds.calls kk _ _ l0 _ _ l1 _ _ l2 a3 true W hr0 hl0 (Kd.C_of_reads (d := (0 : Int)) (h1 := fun _ => rfl) hr1) hc1 (Kd.C_of_reads (d := (0 : Int)) (h1 := fun _ => rfl) hr2) hc2 hh).mono ?_
  rintro e W' ⟨rfl, bel⟩
  exact ⟨_, rfl, _, _, _, [], _, [], hW', trodAll_mk1 (shut_bool Tryz.underlying4 _), (trodAll_cons_mk (Below.trod laidOut (by kernel_rfl) (of_decide_eq_true (by kernel_rfl)) k0 bel lt0) (trodAll_cons_mk (Below.trod laidOut (by kernel_rfl) (of_decide_eq_true (by kernel_rfl)) k1 bel lt1) (trodAll_cons_mk (Below.trod laidOut (by kernel_rfl) (of_decide_eq_true (by kernel_rfl)) k2 bel lt2) (trodAll_cons_mk (shut_int Tryz.underlying3 w3) trodAll_mk0)))), rfl, bel.frame _, fun h => by cases h⟩
theorem over : Rows.evalHoldsRow.holds Tryz.pinned (OpenSpec.ofChange Rows.evalHoldsSpec) :=
  OpenClaim.holds_of_wide 7 Tryz.f7 rfl rfl rfl rfl rfl rfl rfl ⟨rfl, rfl, rfl, rfl, rfl⟩ rfl rfl rfl rfl rfl (by kernel_rfl) Tryz.func7 (by kernel_rfl)
    (of_decide_eq_true (by kernel_rfl)) (by unfold Func.isWrapper; first | (rw [if_pos (by decide +kernel)]; kernel_rfl) | (rw [if_neg (by decide +kernel)]; exact ⟨rfl, rfl⟩))
    (fun os started H enc _ => lifted os started H enc)
theorem proved : Rows.EvalHoldsSaid := over
theorem card : Rows.EvalHoldsCardSaid :=
  Claim7.holds_tied_plain_at .later [] [.data, .data, .data, .data, .sentinel, .sentinel, .pinned] true (true, "cb670a35c9a0894f69f949e65426166a60378a9ee7222ab0d1f3e46fa97b18e7") true proved (fun _ h => by cases h) (by kernel_rfl) (fun _ h => by cases h) evalHolds_row_tie rfl ⟨rfl, rfl⟩ (by kernel_rfl) rfl
    (fun f fn hf hfn => by
      obtain rfl : f = 7 := Option.some.inj ((show Tryz.prog.funcNamed "florin/florinlaw07.EvalHolds" = some 7 by kernel_rfl).symm.trans hf) |>.symm
      obtain rfl : fn = Tryz.f7 := (Option.some.inj (Tryz.func7.symm.trans hfn)).symm
      exact ⟨by kernel_rfl, fun j t ht => by
        rw [Tryz.params7] at ht
        have hm : t ∈ [22, 23, 23, 3] := by simpa using Array.mem_of_getElem? ht
        have hall : ([22, 23, 23, 3].all fun u => !Tryz.prog.wantsStandIn u) = true := by kernel_rfl
        exact (show Tryz.prog.wantsStandIn t = false by simpa using List.all_eq_true.1 hall t hm)⟩)
    (by kernel_rfl)
end Go.Proofs.YtadagjgkanlmdaaGreatDoor.evalHolds
namespace Go.Proofs.YtadagjgkanlmdaaGreatDoor
/-- The tied card, under a short name, for the claim. -/
theorem evalHolds_card_holds : Rows.EvalHoldsCardSaid := evalHolds.card
#print axioms evalHolds_card_holds
end Go.Proofs.YtadagjgkanlmdaaGreatDoor
