/- The law florinlaw03.RoundBounds answers true for every input. No condition of ours: the row's own cells; the listed variables hold what the program's text lays in them (the card ties that). -/
import Derived.Test.YtoegmienlhgjnaaDoorRows
import Derived.Test.YtoegmienlhgjnaaDoorPx15
import Derived.Test.YtoegmienlhgjnaaDoorLRoundBounds
import Derived.Test.YtoegmienlhgjnaaDoorOA
import Derived.Test.YtoegmienlhgjnaaDoorTie
import Derived.Test.YtoegmienlhgjnaaDoorCards
import Derived.LaidMore
import Derived.Lay
import Derived.SevenTiedAt
import Derived.Stop.Joined
import Derived.WalkKit
import Derived.ProofKit
import Derived.OpenShut
import Derived.ShutString
import Derived.ChangeOld
import Derived.Below
import Derived.SizedLaws
import Derived.Test.YtoegmienlhgjnaaDoorWSized
namespace Go.Proofs.YtoegmienlhgjnaaDoor.roundBounds
open Go.ChangeShapes Go.WideShapes Go.ChangeAt Go.RowKit Go.Proofs.YtoegmienlhgjnaaDoorW.PrintWords Go.Proofs.YtoegmienlhgjnaaDoorW.PrintLast Go.Proofs.YtoegmienlhgjnaaDoorW.PrintMore
open Go.ChangeMaps (open_string shut_string)
set_option linter.unusedVariables false
theorem own : ownKnob Tryd.prog.godebug = none := by kernel_rfl
theorem laidOut : laidOutB Tryd.prog = true := by kernel_rfl
def IsRow (k : IntKind) (w : World) (a : Option Addr) (len cap : Nat) (zs : List Int) : Prop :=
  (a = none ∧ len = 0 ∧ cap = 0 ∧ zs = []) ∨
  ∃ x, a = some x ∧ len ≤ cap ∧ cap ≤ maxLen ∧ zs.length = cap ∧ (∀ i, i < zs.length → w.cell? (x.add i) = some (.int k (zs.getD i 0))) ∧ ∀ n ∈ zs, (Lit.int k n).wf = true
set_option maxRecDepth 100000 in
theorem lifted (os : Os) (started : os.Started) (H : Type) (enc : TypeId × Value → H) :
    ReturnsInHanded {} Tryd.checked os 5 .any (fun w args => (Rows.roundBoundsSpec.pre enc Tryd.prog Tryd.f5 Rows.roundBoundsRow.domain false w args ∧ laidMetH Tryd.prog Rows.roundBoundsRow.laid w) ∧ sizedMet enc Tryd.prog Tryd.f5 (OpenSpec.ofChange Rows.roundBoundsSpec) false w args)
      (Rows.roundBoundsSpec.post enc Tryd.prog Tryd.f5 false true false false) := by
  refine returnsInHanded_of_change_and (C := Tryd.checked) (X := fun w _ => laidMetH Tryd.prog Rows.roundBoundsRow.laid w) (fun _ _ _ hh h => h.of_heap hh) own started (by kernel_rfl) Tryd.func5
    (ChangeSpec.witness_shaped (enc := enc) (C := Tryd.checked) (os := os) (X := fun w _ => laidMetH Tryd.prog Rows.roundBoundsRow.laid w) false (World.laidAll Tryd.prog os Rows.roundBoundsRow.laid) #[.agg #[.bool false, .slice none 0 0, .int .i64 0], .int .i64 0, .int .i64 0] 8 (World.laidAll_os _ _ _)
      (World.shaped_of_ZipB (by kernel_rfl) (by kernel_rfl)) (by kernel_rfl) (by kernel_rfl) (by kernel_rfl)
      (by rw [MakeChecks.laidMetH_plain _ _ _ (by kernel_rfl)]; exact laidMet_laidAll _ (by kernel_rfl) (by kernel_rfl))) ?_
  intro W base args ds gs before hval0 hW hcnd hsz0 hL _
  have hsz : (DataW.weightsEach Tryd.prog (Tryd.f5.params.toList ++ Rows.roundBoundsSpec.plain.varTypes Tryd.prog) (ds ++ gs)).all (· ≤ reachBytes) = true := hsz0
  have hval : ∀ (j : Nat) t v, Tryd.f5.params[j]? = some t → args[j]? = some v → Value.okWide Tryd.prog W .any base t v := hval0
  have hW' := hW
  obtain ⟨p, q, hA0, hV, rfl, hfz, hnd⟩ := hW
  have hA : DataW.TrodAll enc Tryd.prog W 0 (fun _ => true) true Tryd.f5.params.toList args.toList ds p := hA0
  rw [Tryd.params5] at hA hval hsz
  obtain ⟨v0, vs0, d0, ds0, p0, q0, hargs, rfl, rfl, h0, r0⟩ := trodAll_cons hA
  obtain ⟨v1, vs1, d1, ds1, p1, q1, rfl, rfl, rfl, h1, r1⟩ := trodAll_cons r0
  obtain ⟨v2, vs2, d2, ds2, p2, q2, rfl, rfl, rfl, h2, r2⟩ := trodAll_cons r1
  obtain ⟨rfl, rfl, rfl⟩ := trodAll_nil r2
  obtain rfl : args = #[v0, v1, v2] := by cases args; simp_all
  obtain ⟨rfl, rfl⟩ := trodVars_none hV
  obtain ⟨cs0, rfl, hcs0⟩ := okWide_struct Tryd.underlying24 (hval 0 24 v0 rfl rfl)
  have k0 := h0
  have lt0 : ∀ x ∈ p0, x.block < W.heap.size := by obtain ⟨m, hm⟩ := k0; exact DataW.trod_lt m _ _ _ hm
  rw [show Tryd.prog.cellsOf 24 = 3 by kernel_rfl] at hcs0
  obtain ⟨x0_0, x0_1, x0_2, rfl⟩ := Agg.arr3 hcs0
  obtain ⟨fu0, hf0⟩ := h0
  obtain ⟨xs0, fn0, -, hx0, -, hlen0, hfi0⟩ := DataW.trod_struct Tryd.underlying24 hf0
  obtain ⟨r0_0, r0_1, r0_2, rfl⟩ := Agg.list3 hlen0
  obtain ⟨rfl, rfl⟩ := Prod.mk.inj hx0
  have hsz0 := Agg.sized_agg hsz (j := 0) (t := 24) rfl rfl Tryd.underlying24
  have g0_0 : DataW.trod enc Tryd.prog W 0 (fun _ => true) true fn0 4 [x0_0] = some r0_0 := by
    have g : DataW.trod enc Tryd.prog W 0 (fun _ => true) true fn0 4 (([x0_0, x0_1, x0_2].drop 0).take (Tryd.prog.cellsOf 4)) = some r0_0 := hfi0 0 _ rfl
    rw [show Tryd.prog.cellsOf 4 = 1 by kernel_rfl] at g
    exact g
  have g0_1 : DataW.trod enc Tryd.prog W 0 (fun _ => true) true fn0 22 [x0_1] = some r0_1 := by
    have g : DataW.trod enc Tryd.prog W 0 (fun _ => true) true fn0 22 (([x0_0, x0_1, x0_2].drop 1).take (Tryd.prog.cellsOf 22)) = some r0_1 := hfi0 1 _ rfl
    rw [show Tryd.prog.cellsOf 22 = 1 by kernel_rfl] at g
    exact g
  have g0_2 : DataW.trod enc Tryd.prog W 0 (fun _ => true) true fn0 3 [x0_2] = some r0_2 := by
    have g : DataW.trod enc Tryd.prog W 0 (fun _ => true) true fn0 3 (([x0_0, x0_1, x0_2].drop 2).take (Tryd.prog.cellsOf 3)) = some r0_2 := hfi0 2 _ rfl
    rw [show Tryd.prog.cellsOf 3 = 1 by kernel_rfl] at g
    exact g
  obtain ⟨a0_0, e0_0, rfl⟩ := DataW.trod_bool Tryd.underlying4 g0_0
  obtain rfl := (List.cons.inj e0_0).1
  obtain ⟨A0_1, n0_1, c0_1, z0_1, e0_1, w0_1⟩ : ∃ a len cap zs, x0_1 = .slice a len cap ∧ IsRow .u8 W a len cap zs := by
    rcases open_ints Tryd.underlying22 Tryd.underlying5 (by kernel_rfl) g0_1 with ⟨hcs, _⟩ | ⟨x, l, c, zs, hcs, _, hl, hm, hz, _, hcell, hwz⟩
    · exact ⟨none, 0, 0, [], (List.cons.inj hcs).1, .inl ⟨rfl, rfl, rfl, rfl⟩⟩
    · exact ⟨some x, l, c, zs, (List.cons.inj hcs).1, .inr ⟨_, rfl, hl, hm, by simpa using hz, hcell, hwz⟩⟩
  subst e0_1
  have y0_1 : n0_1 * 1 ≤ 140737488351232 := YtoegmienlhgjnaaDoorW.PrintWords.sized_ints (d := r0_1.1) (ps := r0_1.2) hsz0 (j := 1) (t := 22) rfl rfl Tryd.underlying22 Tryd.underlying5 (by kernel_rfl) (by kernel_rfl) ⟨_, g0_1⟩
  obtain ⟨l0_1, rfl, hr0_1, hm0_1, hw0_1, hc0_1⟩ := ReadsInt.ofRowC w0_1
  obtain ⟨a0_2, e0_2, rfl, w0_2⟩ := DataW.trod_int Tryd.underlying3 g0_2
  obtain rfl := (List.cons.inj e0_2).1
  obtain ⟨a1, rfl, rfl, rfl, w1⟩ := open_int Tryd.underlying3 (hval 1 3 v1 rfl rfl) h1
  obtain ⟨a2, rfl, rfl, rfl, w2⟩ := open_int Tryd.underlying3 (hval 2 3 v2 rfl rfl) h2
  clear hA0 hval0 hsz0 hsz
  obtain ⟨kk, hh⟩ := P.pureRoundBounds a0_0 l0_1 a0_2 a1 a2 hm0_1 y0_1 hw0_1 w0_2 w1 w2
  refine (P.florinlaw03_RoundBounds.calls kk a0_0 _ _ l0_1 a0_2 a1 a2 true W (Kd.C_of_reads (d := (0 : Int)) (h1 := fun _ => rfl) hr0_1) hc0_1 hh).mono ?_
  rintro e W' ⟨rfl, bel⟩
  exact ⟨_, rfl, _, _, _, [], _, [], hW', trodAll_mk1 (shut_bool Tryd.underlying4 _), (trodAll_cons_mk (Below.trod laidOut (by kernel_rfl) (of_decide_eq_true (by kernel_rfl)) k0 bel lt0) (trodAll_cons_mk (shut_int Tryd.underlying3 w1) (trodAll_cons_mk (shut_int Tryd.underlying3 w2) trodAll_mk0))), rfl, bel.frame _, fun h => by cases h⟩
theorem over : Rows.roundBoundsRow.holds Tryd.pinned (OpenSpec.ofChange Rows.roundBoundsSpec) :=
  OpenClaim.holds_of_wide 5 Tryd.f5 rfl rfl rfl rfl rfl rfl rfl ⟨rfl, rfl, rfl, rfl, rfl⟩ rfl rfl rfl rfl rfl (by kernel_rfl) Tryd.func5 (by kernel_rfl)
    (of_decide_eq_true (by kernel_rfl)) (by unfold Func.isWrapper; first | (rw [if_pos (by decide +kernel)]; kernel_rfl) | (rw [if_neg (by decide +kernel)]; exact ⟨rfl, rfl⟩))
    (fun os started H enc _ => lifted os started H enc)
theorem proved : Rows.RoundBoundsSaid := over
theorem card : Rows.RoundBoundsCardSaid :=
  Claim7.holds_tied_plain_at .later [] [.data, .pinned] true (true, "1171046edadb17c077e4da3e5ff8de7e615ce416fadb93d587cadbcdb7396bc4") false proved (fun _ h => by cases h) (by kernel_rfl) (fun _ h => by cases h) roundBounds_row_tie rfl ⟨rfl, rfl⟩ (by kernel_rfl) rfl
    (fun f fn hf hfn => by
      obtain rfl : f = 5 := Option.some.inj ((show Tryd.prog.funcNamed "florin/florinlaw03.RoundBounds" = some 5 by kernel_rfl).symm.trans hf) |>.symm
      obtain rfl : fn = Tryd.f5 := (Option.some.inj (Tryd.func5.symm.trans hfn)).symm
      exact ⟨by kernel_rfl, fun j t ht => by
        rw [Tryd.params5] at ht
        have hm : t ∈ [24, 3, 3] := by simpa using Array.mem_of_getElem? ht
        have hall : ([24, 3, 3].all fun u => !Tryd.prog.wantsStandIn u) = true := by kernel_rfl
        exact (show Tryd.prog.wantsStandIn t = false by simpa using List.all_eq_true.1 hall t hm)⟩)
    (by kernel_rfl)
end Go.Proofs.YtoegmienlhgjnaaDoor.roundBounds
namespace Go.Proofs.YtoegmienlhgjnaaDoor
/-- The tied card, under a short name, for the claim. -/
theorem roundBounds_card_holds : Rows.RoundBoundsCardSaid := roundBounds.card
#print axioms roundBounds_card_holds
end Go.Proofs.YtoegmienlhgjnaaDoor
