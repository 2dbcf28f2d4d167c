-- written by a program of this session (wip/p2)
import Derived.Test.YtoegmienlhgjnaaDoorPx0
import Derived.Test.YtoegmienlhgjnaaDoorPx1
import Derived.Test.YtoegmienlhgjnaaDoorPx2
import Derived.Test.YtoegmienlhgjnaaDoorPx4
import Derived.Test.YtoegmienlhgjnaaDoorPx5
import Derived.Test.YtoegmienlhgjnaaDoorPx7
import Derived.Test.YtoegmienlhgjnaaDoorPx9
import Derived.Test.YtoegmienlhgjnaaDoorPx11
import Derived.Test.YtoegmienlhgjnaaDoorPx14
namespace Go.Proofs.YtoegmienlhgjnaaDoor.P
open Go.RowKit Go.Proofs.YtoegmienlhgjnaaDoorW.PrintWords Go.Proofs.YtoegmienlhgjnaaDoorW.PrintLast Go.Proofs.YtoegmienlhgjnaaDoorW.PrintMore
attribute [local go_sem] max2_int min2_int max_two min_two max_three min_three max_four min_four   -- for this text's walks alone
set_option linter.unusedVariables false
set_option linter.unusedSimpArgs false

attribute [local go_sem high] eqA30
/-! ### florinlaw03_RoundAgain: function 8 -/
mutual
def florinlaw03_RoundAgain.j0 : Nat → Int → Int → Bool → Bool → List Int → Int → Bool → List Int → Int → Option (Bool)
 | 0, _, _, _, _, _, _, _, _, _ => none
 | k + 1, x2, x3, x27, x578000, x578001, x578002, x579000, x579001, x579002 => if x27 = true then (some true) else ((florinlaw03_Mode.f x3).bind fun t582 => ((florinlaw02_Raw_Make.f k x578000 x578001 x578002).bind fun bt583 => ((florinlaw02_Raw_Make.f k x579000 x579001 x579002).bind fun bt587 => ((round_At.f k bt583.1 bt583.2.1 bt583.2.2 (wrap64 ((Int.tmod x2 60) - (wrap64 (Int.tdiv (Int.tmod x2 60) 2)))) t582).bind fun bt591 => ((round_At.f k bt587.1 bt587.2.1 bt587.2.2 (wrap64 ((Int.tmod x2 60) - (wrap64 (Int.tdiv (Int.tmod x2 60) 2)))) t582).bind fun bt595 => ((dec_Made.f k false (⟨#[50, 53]⟩ : ByteArray) (wrap64 ((Int.tmod x2 60) - (wrap64 (Int.tdiv (Int.tmod x2 60) 2))))).bind fun bt599 => ((round_Step.f k bt583.1 bt583.2.1 bt583.2.2 bt599.1 bt599.2.1 bt599.2.2 t582).bind fun bt603 => ((round_Step.f k bt587.1 bt587.2.1 bt587.2.2 bt599.1 bt599.2.1 bt599.2.2 t582).bind fun bt607 => ((dec_Cmp.f k bt583.1 bt583.2.1 bt583.2.2 bt587.1 bt587.2.1 bt587.2.2).bind fun t611 => ((round_At.f k bt591.1 bt591.2.1 bt591.2.2 (wrap64 ((Int.tmod x2 60) - (wrap64 (Int.tdiv (Int.tmod x2 60) 2)))) t582).bind fun bt612 => (if (!(bt612.1 == bt591.1) || (!(bt612.2.1.toList == bt591.2.1.toList) || (!(bt612.2.2 == bt591.2.2)))) = true then (florinlaw03_RoundAgain.j1 k t611 true bt591.1 bt591.2.1 bt591.2.2 bt595.1 bt595.2.1 bt595.2.2 bt603.1 bt603.2.1 bt603.2.2 bt607.1 bt607.2.1 bt607.2.2) else ((round_Step.f k bt603.1 bt603.2.1 bt603.2.2 bt599.1 bt599.2.1 bt599.2.2 t582).bind fun bt615 => (florinlaw03_RoundAgain.j1 k t611 (!(bt615.1 == bt603.1) || (!(bt615.2.1.toList == bt603.2.1.toList) || (!(bt615.2.2 == bt603.2.2)))) bt591.1 bt591.2.1 bt591.2.2 bt595.1 bt595.2.1 bt595.2.2 bt603.1 bt603.2.1 bt603.2.2 bt607.1 bt607.2.1 bt607.2.2)))))))))))))
def florinlaw03_RoundAgain.j1 : Nat → Int → Bool → Bool → ByteArray → Int → Bool → ByteArray → Int → Bool → ByteArray → Int → Bool → ByteArray → Int → Option (Bool)
 | 0, _, _, _, _, _, _, _, _, _, _, _, _, _, _ => none
 | k + 1, x17, x74, x595000, x595001, x595002, x599000, x599001, x599002, x607000, x607001, x607002, x611000, x611001, x611002 => if x74 = true then (some false) else (if x17 = 0 then (if (x595000 == x599000 && (x595001.toList == x599001.toList && (x595002 == x599002))) = true then (some (x607000 == x611000 && (x607001.toList == x611001.toList && (x607002 == x611002)))) else (some false)) else ((dec_Cmp.f k x595000 x595001 x595002 x599000 x599001 x599002).bind fun t618 => (if (wrap64 (t618 * x17)) ≥ 0 then ((dec_Cmp.f k x607000 x607001 x607002 x611000 x611001 x611002).bind fun t619 => (some (decide ((wrap64 (t619 * x17)) ≥ 0)))) else (some false))))
end
def florinlaw03_RoundAgain.f (k : Nat) (a0_0 : Bool) (l0_1 : List Int) (a0_2 : Int) (a1_0 : Bool) (l1_1 : List Int) (a1_2 : Int) (a2 : Int) (a3 : Int) : Option (Bool) := (florinlaw03_head.f k).bind fun t579 => (if t579 = true then ((florinlaw02_Raw_Few.f a0_0 l0_1 a0_2 40).bind fun t580 => (if t580 = true then ((florinlaw02_Raw_Few.f a1_0 l1_1 a1_2 40).bind fun t581 => (florinlaw03_RoundAgain.j0 k a2 a3 (!t581) a0_0 l0_1 a0_2 a1_0 l1_1 a1_2)) else (florinlaw03_RoundAgain.j0 k a2 a3 true a0_0 l0_1 a0_2 a1_0 l1_1 a1_2))) else (some false))
theorem florinlaw03_RoundAgain.mono_l : ∀ k, (∀ y0 y1 y2 y3 y4 y5 y6 y7 y8, LeO (florinlaw03_RoundAgain.j0 k y0 y1 y2 y3 y4 y5 y6 y7 y8) (florinlaw03_RoundAgain.j0 (k + 1) y0 y1 y2 y3 y4 y5 y6 y7 y8)) ∧ (∀ y0 y1 y2 y3 y4 y5 y6 y7 y8 y9 y10 y11 y12 y13, LeO (florinlaw03_RoundAgain.j1 k y0 y1 y2 y3 y4 y5 y6 y7 y8 y9 y10 y11 y12 y13) (florinlaw03_RoundAgain.j1 (k + 1) y0 y1 y2 y3 y4 y5 y6 y7 y8 y9 y10 y11 y12 y13))
 | 0 => ⟨fun _ _ _ _ _ _ _ _ _ r h => by simp [florinlaw03_RoundAgain.j0] at h, fun _ _ _ _ _ _ _ _ _ _ _ _ _ _ r h => by simp [florinlaw03_RoundAgain.j1] at h⟩
 | k + 1 => by
  obtain ⟨ih0, ih1⟩ := florinlaw03_RoundAgain.mono_l k
  refine ⟨?_, ?_⟩
  ·intro y0 y1 y2 y3 y4 y5 y6 y7 y8
   unfold florinlaw03_RoundAgain.j0
   repeat' first
   | (with_reducible exact ih0 _ _ _ _ _ _ _ _ _)
   | (with_reducible exact ih1 _ _ _ _ _ _ _ _ _ _ _ _ _ _)
   | (with_reducible exact dec_Cmp.mono _ _ _ _ _ _ _)
   | (with_reducible exact dec_Made.mono _ _ _ _)
   | (with_reducible exact florinlaw02_Raw_Make.mono _ _ _ _)
   | (with_reducible exact florinlaw03_head.mono _)
   | (with_reducible exact round_At.mono _ _ _ _ _ _)
   | (with_reducible exact round_Step.mono _ _ _ _ _ _ _ _)
   | (with_reducible exact LeO.refl _)
   | (with_reducible exact LeO.none _)
   | (with_reducible refine LeO.ite ?_ ?_)
   | (with_reducible refine LeO.bind ?_ (fun _ => ?_))
   | exact ih0 _ _ _ _ _ _ _ _ _
   | exact ih1 _ _ _ _ _ _ _ _ _ _ _ _ _ _
   | exact dec_Cmp.mono _ _ _ _ _ _ _
   | exact dec_Made.mono _ _ _ _
   | exact florinlaw02_Raw_Make.mono _ _ _ _
   | exact florinlaw03_head.mono _
   | exact round_At.mono _ _ _ _ _ _
   | exact round_Step.mono _ _ _ _ _ _ _ _
   | exact LeO.none _
   | refine LeO.ite ?_ ?_
   | refine LeO.bind ?_ (fun _ => ?_)
  ·intro y0 y1 y2 y3 y4 y5 y6 y7 y8 y9 y10 y11 y12 y13
   unfold florinlaw03_RoundAgain.j1
   repeat' first
   | (with_reducible exact ih0 _ _ _ _ _ _ _ _ _)
   | (with_reducible exact ih1 _ _ _ _ _ _ _ _ _ _ _ _ _ _)
   | (with_reducible exact dec_Cmp.mono _ _ _ _ _ _ _)
   | (with_reducible exact dec_Made.mono _ _ _ _)
   | (with_reducible exact florinlaw02_Raw_Make.mono _ _ _ _)
   | (with_reducible exact florinlaw03_head.mono _)
   | (with_reducible exact round_At.mono _ _ _ _ _ _)
   | (with_reducible exact round_Step.mono _ _ _ _ _ _ _ _)
   | (with_reducible exact LeO.refl _)
   | (with_reducible exact LeO.none _)
   | (with_reducible refine LeO.ite ?_ ?_)
   | (with_reducible refine LeO.bind ?_ (fun _ => ?_))
   | exact ih0 _ _ _ _ _ _ _ _ _
   | exact ih1 _ _ _ _ _ _ _ _ _ _ _ _ _ _
   | exact dec_Cmp.mono _ _ _ _ _ _ _
   | exact dec_Made.mono _ _ _ _
   | exact florinlaw02_Raw_Make.mono _ _ _ _
   | exact florinlaw03_head.mono _
   | exact round_At.mono _ _ _ _ _ _
   | exact round_Step.mono _ _ _ _ _ _ _ _
   | exact LeO.none _
   | refine LeO.ite ?_ ?_
   | refine LeO.bind ?_ (fun _ => ?_)
theorem florinlaw03_RoundAgain.mono : ∀ a0 a1 a2 a3 a4 a5 a6 a7 k, LeO (florinlaw03_RoundAgain.f k a0 a1 a2 a3 a4 a5 a6 a7) (florinlaw03_RoundAgain.f (k + 1) a0 a1 a2 a3 a4 a5 a6 a7) := by
 intro a0 a1 a2 a3 a4 a5 a6 a7 k
 obtain ⟨ih0, ih1⟩ := florinlaw03_RoundAgain.mono_l k
 unfold florinlaw03_RoundAgain.f
 repeat' first
   | (with_reducible exact ih0 _ _ _ _ _ _ _ _ _)
   | (with_reducible exact ih1 _ _ _ _ _ _ _ _ _ _ _ _ _ _)
   | (with_reducible exact dec_Cmp.mono _ _ _ _ _ _ _)
   | (with_reducible exact dec_Made.mono _ _ _ _)
   | (with_reducible exact florinlaw02_Raw_Make.mono _ _ _ _)
   | (with_reducible exact florinlaw03_head.mono _)
   | (with_reducible exact round_At.mono _ _ _ _ _ _)
   | (with_reducible exact round_Step.mono _ _ _ _ _ _ _ _)
   | (with_reducible exact LeO.refl _)
   | (with_reducible exact LeO.none _)
   | (with_reducible refine LeO.ite ?_ ?_)
   | (with_reducible refine LeO.bind ?_ (fun _ => ?_))
   | exact ih0 _ _ _ _ _ _ _ _ _
   | exact ih1 _ _ _ _ _ _ _ _ _ _ _ _ _ _
   | exact dec_Cmp.mono _ _ _ _ _ _ _
   | exact dec_Made.mono _ _ _ _
   | exact florinlaw02_Raw_Make.mono _ _ _ _
   | exact florinlaw03_head.mono _
   | exact round_At.mono _ _ _ _ _ _
   | exact round_Step.mono _ _ _ _ _ _ _ _
   | exact LeO.none _
   | refine LeO.ite ?_ ?_
   | refine LeO.bind ?_ (fun _ => ?_)
def florinlaw03_RoundAgain.T15 : Bool × List (List Nat × List Nat) := (true, [([], []), ([], []), ([], []), ([0, 1, 2], [0, 1, 2]), ([], []), ([3, 4], [3, 4]), ([5, 3], [5]), ([6], [6]), ([6], [6]), ([6], [6]), ([7, 8, 9, 6, 6], [6, 7, 8, 9]), ([6], [6]), ([10, 11, 6], [6, 10, 11]), ([6, 12], [6, 12])])
def florinlaw03_RoundAgain.B15 : List Nat := [0, 0, 0, 7, 0, 31, 63, 127, 127, 127, 1023, 127, 4095, 8191]
theorem florinlaw03_RoundAgain.tab15 : rtab .any (opsOf Tryd.f8 15) = florinlaw03_RoundAgain.T15 := by kernel_rfl
theorem florinlaw03_RoundAgain.bits15 : waitsOk florinlaw03_RoundAgain.T15.2 florinlaw03_RoundAgain.B15 = true := by kernel_rfl
set_option maxHeartbeats 8000000 in
set_option maxRecDepth 100000 in
theorem florinlaw03_RoundAgain.calls (k : Nat) (a0_0 : Bool) (A0_1 : Option Addr) (c0_1 : Nat) (l0_1 : List Int) (a0_2 : Int) (a1_0 : Bool) (A1_1 : Option Addr) (c1_1 : Nat) (l1_1 : List Int) (a1_2 : Int) (a2 : Int) (a3 : Int) (r : Bool) (w : World) (hr0_1 : Kd.C (Kd.int .u8) w A0_1 l0_1.length l0_1) (hc0_1 : l0_1.length ≤ c0_1) (hr1_1 : Kd.C (Kd.int .u8) w A1_1 l1_1.length l1_1) (hc1_1 : l1_1.length ≤ c1_1) (h : florinlaw03_RoundAgain.f k a0_0 l0_1 a0_2 a1_0 l1_1 a1_2 a2 a3 = some r) :
  Calls Tryd.prog 8 #[.agg #[.bool a0_0, .slice A0_1 l0_1.length c0_1, .int .i64 a0_2], .agg #[.bool a1_0, .slice A1_1 l1_1.length c1_1, .int .i64 a1_2], .int .i64 a2, .int .i64 a3] w fun e w' => e = .returned (.bool r) ∧ Below w.heap.size w w' := by
 have hu24 := Tryd.underlying24
 have hu30 := Tryd.underlying30
 have HR0_1 := Aside0.mk hr0_1
 have HC0_1 := Aside0.mk hc0_1
 clear hr0_1 hc0_1
 have HR1_1 := Aside0.mk hr1_1
 have HC1_1 := Aside0.mk hc1_1
 clear hr1_1 hc1_1
 have HB := Aside0.mk (Below.refl w.heap.size w)
 have H : ((florinlaw03_head.f k).bind fun t579 => (if t579 = true then ((florinlaw02_Raw_Few.f a0_0 l0_1 a0_2 40).bind fun t580 => (if t580 = true then ((florinlaw02_Raw_Few.f a1_0 l1_1 a1_2 40).bind fun t581 => (florinlaw03_RoundAgain.j0 k a2 a3 (!t581) a0_0 l0_1 a0_2 a1_0 l1_1 a1_2)) else (florinlaw03_RoundAgain.j0 k a2 a3 true a0_0 l0_1 a0_2 a1_0 l1_1 a1_2))) else (some false))) = some r := h
 clear h
 replace H := Option.bind_eq_some_iff.mp H
 obtain ⟨t579, A50, H⟩ := H
 replace H : (if t579 = true then ((florinlaw02_Raw_Few.f a0_0 l0_1 a0_2 40).bind fun t580 => (if t580 = true then ((florinlaw02_Raw_Few.f a1_0 l1_1 a1_2 40).bind fun t581 => (florinlaw03_RoundAgain.j0 k a2 a3 (!t581) a0_0 l0_1 a0_2 a1_0 l1_1 a1_2)) else (florinlaw03_RoundAgain.j0 k a2 a3 true a0_0 l0_1 a0_2 a1_0 l1_1 a1_2))) else (some false)) = some r := H
 have A5 := Aside0.mk A50
 clear A50
 by_cases c6 : t579 = true
 ·subst c6
  have H1 : ((florinlaw02_Raw_Few.f a0_0 l0_1 a0_2 40).bind fun t580 => (if t580 = true then ((florinlaw02_Raw_Few.f a1_0 l1_1 a1_2 40).bind fun t581 => (florinlaw03_RoundAgain.j0 k a2 a3 (!t581) a0_0 l0_1 a0_2 a1_0 l1_1 a1_2)) else (florinlaw03_RoundAgain.j0 k a2 a3 true a0_0 l0_1 a0_2 a1_0 l1_1 a1_2))) = some r := by rw [if_pos rfl] at H; exact H
  clear H
  have H := H1
  clear H1
  have HC7 := Aside0.mk H
  clear H
  go_enter Tryd.func8, Tryd.ntmps8
  go_upto_region 3 with (first | ((with_reducible refine gate_dst (N := 4) rfl ?_); refine box_event ?hg (N := 4) ?hd (cs := #[.bool a0_0, .slice A0_1 l0_1.length c0_1, .int .i64 a0_2]) (t := 24) ?hr ?_; (case hd => rfl); (case hg => rfl); (case hr => first | (go_simp; done) | (go_simp; rfl)); intro gb577 hg w8 hbox hb; have n0_ := Aside0.mk (below_step (bl_ HB).out hb); have n1_ := Aside0.mk (hbox); have n2_ := Aside0.mk ((by rw [hg]; exact (below_size (bl_ HB).out) : w.heap.size ≤ gb577)); have n3_ := Aside0.mk ((by rw [hg]; exact (below_size (bl_ HB).out) : w.heap.size ≤ gb577)); clear HB; have HB := n0_; have BK577 := n1_; have GW577 := n2_; have GE577 := n3_; clear n0_ n1_ n2_ n3_; clear hb hbox hg) | ((with_reducible refine gate_dst (N := 5) rfl ?_); refine box_event ?hg (N := 5) ?hd (cs := #[.bool a1_0, .slice A1_1 l1_1.length c1_1, .int .i64 a1_2]) (t := 24) ?hr ?_; (case hd => rfl); (case hg => rfl); (case hr => first | (go_simp; done) | (go_simp; rfl)); intro gb578 hg w9 hbox hb; have n0_ := bb_ BK577 hb; have n1_ := Aside0.mk (below_step (bl_ HB).out hb); have n2_ := Aside0.mk (hbox); have n3_ := Aside0.mk ((by rw [hg]; exact (below_size (bl_ HB).out) : w.heap.size ≤ gb578)); have n4_ := Aside0.mk ((by rw [hg]; exact (below_size (bl_ HB).out) : w.heap.size ≤ gb578)); have n5_ := Aside0.mk ((by rw [hg]; exact Nat.ne_of_lt (blk_lt (g := gb577) (o := .cells #[.bool a0_0, .slice A0_1 l0_1.length c0_1, .int .i64 a0_2] 24 (0, 0)) (by (with_reducible repeat (first | refine blk_drewN ?_ _ | refine blk_drew ?_ | refine blk_alloc ?_ _)); exact BK577.out)) : gb577 ≠ gb578)); have n6_ := Aside0.mk ((by rw [hg]; exact Nat.ne_of_gt (blk_lt (g := gb577) (o := .cells #[.bool a0_0, .slice A0_1 l0_1.length c0_1, .int .i64 a0_2] 24 (0, 0)) (by (with_reducible repeat (first | refine blk_drewN ?_ _ | refine blk_drew ?_ | refine blk_alloc ?_ _)); exact BK577.out)) : gb578 ≠ gb577)); clear BK577; clear HB; have BK577 := n0_; have HB := n1_; have BK578 := n2_; have GW578 := n3_; have GE578 := n4_; have NB577_578 := n5_; have NB578_577 := n6_; clear n0_ n1_ n2_ n3_ n4_ n5_ n6_; clear hb hbox hg) | ((with_reducible refine gate_callee (f := 10) rfl ?_); refine goesL_ (some 18) rfl rfl Tryd.func10 (by kernel_rfl) rfl #[] rfl (by (try simp only [List.map_toArray, List.map_cons, List.map_nil]); first | done | rfl | (simp only [List.length_drop, List.length_take]; rfl) | (have z_ : ∀ s_ : ByteArray, s_.size ≤ 9223372036854775807 → -(s_.size : Int) = wrap64 (-(s_.size : Int)) := (fun s_ h_ => by unfold wrap64; omega); rw [← z_ _ (by omega)]; rfl) | (simp only [ByteArray.size_append]; rfl)) ?_; (with_reducible refine (florinlaw03_head.calls k  true _ A5.out).mono ?_); rintro e w10 ⟨rfl, hb⟩; refine ⟨_, rfl, ?_⟩; have n0_ := bb_ BK577 hb; have n1_ := bb_ BK578 hb; have n2_ := Aside0.mk (below_step (bl_ HB).out hb); clear BK577; clear BK578; clear HB; have BK577 := n0_; have BK578 := n1_; have HB := n2_; clear n0_ n1_ n2_; (try clear hb); (try clear hb2); (try clear hk); (try clear hi)))
  (try simp only [Act.put, List.setIfInBounds_toArray, List.set_cons_zero, List.set_cons_succ])
  go_cut [27] (fun v27 wc => ∃ (kq : Nat) (x27_6 : Bool), v27 = .bool x27_6 ∧ Aside0 (florinlaw03_RoundAgain.j0 kq a2 a3 x27_6 a0_0 l0_1 a0_2 a1_0 l1_1 a1_2 = some r) ∧ Aside0 (kq ≤ k) ∧ Aside0 (wc.heap[gb577]? = some (.cells #[.bool a0_0, (.slice A0_1 l0_1.length c0_1), .int .i64 a0_2] 24 (0, 0))) ∧ Aside0 (wc.heap[gb578]? = some (.cells #[.bool a1_0, (.slice A1_1 l1_1.length c1_1), .int .i64 a1_2] 24 (0, 0))) ∧ Aside0 (Below w.heap.size w wc))
  case first =>
   have H := HC7.out
   clear HC7
   replace H := Option.bind_eq_some_iff.mp H
   obtain ⟨t580, A110, H⟩ := H
   replace H : (if t580 = true then ((florinlaw02_Raw_Few.f a1_0 l1_1 a1_2 40).bind fun t581 => (florinlaw03_RoundAgain.j0 k a2 a3 (!t581) a0_0 l0_1 a0_2 a1_0 l1_1 a1_2)) else (florinlaw03_RoundAgain.j0 k a2 a3 true a0_0 l0_1 a0_2 a1_0 l1_1 a1_2)) = some r := H
   have A11 := Aside0.mk A110
   clear A110
   by_cases c12 : t580 = true
   ·subst c12
    have H1 : ((florinlaw02_Raw_Few.f a1_0 l1_1 a1_2 40).bind fun t581 => (florinlaw03_RoundAgain.j0 k a2 a3 (!t581) a0_0 l0_1 a0_2 a1_0 l1_1 a1_2)) = some r := by rw [if_pos rfl] at H; exact H
    clear H
    have H := H1
    clear H1
    replace H := Option.bind_eq_some_iff.mp H
    obtain ⟨t581, A130, H⟩ := H
    replace H : (florinlaw03_RoundAgain.j0 k a2 a3 (!t581) a0_0 l0_1 a0_2 a1_0 l1_1 a1_2) = some r := H
    have A13 := Aside0.mk A130
    clear A130
    have H' := Aside0.mk H
    clear H
    have hnb14 := NB577_578.out
    have hnc14 := NB578_577.out
    have hcz15_0 : w10.cell? ⟨gb577, 0, none⟩ = some (.bool a0_0) := bc_ BK577 0
    have hcz15_1 : w10.cell? ⟨gb577, 1, none⟩ = some (.slice A0_1 l0_1.length c0_1) := bc_ BK577 1
    have hcz15_2 : w10.cell? ⟨gb577, 2, none⟩ = some (.int .i64 a0_2) := bc_ BK577 2
    have hfz15_0 := blk_frozen BK577.out 0
    have hfz15_1 := blk_frozen BK577.out 1
    have hfz15_2 := blk_frozen BK577.out 2
    go_wp2_with (first | ((with_reducible refine gate_callee (f := 11) rfl ?_); refine goesL_ (some 21) rfl rfl Tryd.func11 (by kernel_rfl) rfl #[.agg #[.bool a0_0, .slice A0_1 l0_1.length c0_1, .int .i64 a0_2], .int .i64 40] rfl (by (try simp only [List.map_toArray, List.map_cons, List.map_nil]); first | done | rfl | (simp only [List.length_drop, List.length_take]; rfl) | (have z_ : ∀ s_ : ByteArray, s_.size ≤ 9223372036854775807 → -(s_.size : Int) = wrap64 (-(s_.size : Int)) := (fun s_ h_ => by unfold wrap64; omega); rw [← z_ _ (by omega)]; rfl) | (simp only [ByteArray.size_append]; rfl)) ?_; (with_reducible refine (florinlaw02_Raw_Few.calls a0_0 _ _ l0_1 a0_2 40 true _ ?side1 ?side2 A11.out).mono ?_); (case side1 => repeat (first | exact (Kd.C_below HR0_1.out HB.out) | (with_reducible refine Kd.C_alloc ?_ _) | (with_reducible refine Kd.C_drewN ?_ _) | (with_reducible refine Kd.C_drew ?_))); (case side2 => exact HC0_1.out); rintro e w16 ⟨rfl, hb⟩; refine ⟨_, rfl, ?_⟩; have n0_ := bb_ BK577 hb; have n1_ := bb_ BK578 hb; have n2_ := Aside0.mk (below_step (bl_ HB).out hb); clear BK577; clear BK578; clear HB; have BK577 := n0_; have BK578 := n1_; have HB := n2_; clear n0_ n1_ n2_; (try clear hb); (try clear hb2); (try clear hk); (try clear hi); have hcz17_0 : w16.cell? ⟨gb578, 0, none⟩ = some (.bool a1_0) := bc_ BK578 0; have hcz17_1 : w16.cell? ⟨gb578, 1, none⟩ = some (.slice A1_1 l1_1.length c1_1) := bc_ BK578 1; have hcz17_2 : w16.cell? ⟨gb578, 2, none⟩ = some (.int .i64 a1_2) := bc_ BK578 2; have hfz17_0 := blk_frozen BK578.out 0; have hfz17_1 := blk_frozen BK578.out 1; have hfz17_2 := blk_frozen BK578.out 2) | (go_at_call 11; (with_reducible refine (florinlaw02_Raw_Few.calls a1_0 _ _ l1_1 a1_2 40 t581 _ ?side1 ?side2 A13.out).mono ?_); (case side1 => repeat (first | exact (Kd.C_below HR1_1.out HB.out) | (with_reducible refine Kd.C_alloc ?_ _) | (with_reducible refine Kd.C_drewN ?_ _) | (with_reducible refine Kd.C_drew ?_))); (case side2 => exact HC1_1.out); rintro e w18 ⟨rfl, hb⟩; have n0_ := bb_ BK577 hb; have n1_ := bb_ BK578 hb; have n2_ := Aside0.mk (below_step (bl_ HB).out hb); clear BK577; clear BK578; clear HB; have BK577 := n0_; have BK578 := n1_; have HB := n2_; clear n0_ n1_ n2_; (try clear hb); (try clear hb2); (try clear hk); (try clear hi)))
    go_meet
    case rel => exact ⟨_, (!t581), eq_, H', ⟨by first | omega | exact Nat.le_refl _⟩, (bk_ BK577), (bk_ BK578), (bl_ HB)⟩
   ·replace c12 := Bool.eq_false_iff.mpr c12
    subst c12
    have H1 : (florinlaw03_RoundAgain.j0 k a2 a3 true a0_0 l0_1 a0_2 a1_0 l1_1 a1_2) = some r := by rw [if_neg (show ¬ (false = true) by decide)] at H; exact H
    clear H
    have H := H1
    clear H1
    have H' := Aside0.mk H
    clear H
    have hnb19 := NB577_578.out
    have hnc19 := NB578_577.out
    have hcz20_0 : w10.cell? ⟨gb577, 0, none⟩ = some (.bool a0_0) := bc_ BK577 0
    have hcz20_1 : w10.cell? ⟨gb577, 1, none⟩ = some (.slice A0_1 l0_1.length c0_1) := bc_ BK577 1
    have hcz20_2 : w10.cell? ⟨gb577, 2, none⟩ = some (.int .i64 a0_2) := bc_ BK577 2
    have hfz20_0 := blk_frozen BK577.out 0
    have hfz20_1 := blk_frozen BK577.out 1
    have hfz20_2 := blk_frozen BK577.out 2
    go_wp2_with (first | ((with_reducible refine gate_callee (f := 11) rfl ?_); refine goesL_ (some 21) rfl rfl Tryd.func11 (by kernel_rfl) rfl #[.agg #[.bool a0_0, .slice A0_1 l0_1.length c0_1, .int .i64 a0_2], .int .i64 40] rfl (by (try simp only [List.map_toArray, List.map_cons, List.map_nil]); first | done | rfl | (simp only [List.length_drop, List.length_take]; rfl) | (have z_ : ∀ s_ : ByteArray, s_.size ≤ 9223372036854775807 → -(s_.size : Int) = wrap64 (-(s_.size : Int)) := (fun s_ h_ => by unfold wrap64; omega); rw [← z_ _ (by omega)]; rfl) | (simp only [ByteArray.size_append]; rfl)) ?_; (with_reducible refine (florinlaw02_Raw_Few.calls a0_0 _ _ l0_1 a0_2 40 false _ ?side1 ?side2 A11.out).mono ?_); (case side1 => repeat (first | exact (Kd.C_below HR0_1.out HB.out) | (with_reducible refine Kd.C_alloc ?_ _) | (with_reducible refine Kd.C_drewN ?_ _) | (with_reducible refine Kd.C_drew ?_))); (case side2 => exact HC0_1.out); rintro e w21 ⟨rfl, hb⟩; refine ⟨_, rfl, ?_⟩; have n0_ := bb_ BK577 hb; have n1_ := bb_ BK578 hb; have n2_ := Aside0.mk (below_step (bl_ HB).out hb); clear BK577; clear BK578; clear HB; have BK577 := n0_; have BK578 := n1_; have HB := n2_; clear n0_ n1_ n2_; (try clear hb); (try clear hb2); (try clear hk); (try clear hi)))
    go_meet
    case rel => exact ⟨_, (true), eq_, H', ⟨by first | omega | exact Nat.le_refl _⟩, (bk_ BK577), (bk_ BK578), (bl_ HB)⟩
  case rest =>
   clear HC7
   try clear c1
   try clear p2
   try clear c6
   try clear p6
   try clear c8
   try clear c10
   try clear c11
   try clear c12
   try clear c14
   try clear c19
   try clear hcz15_0
   try clear hcz15_1
   try clear hcz15_2
   try clear hcz17_0
   try clear hcz17_1
   try clear hcz17_2
   try clear hcz20_0
   try clear hcz20_1
   try clear hcz20_2
   try clear hfz15_0
   try clear hfz15_1
   try clear hfz15_2
   try clear hfz17_0
   try clear hfz17_1
   try clear hfz17_2
   try clear hfz20_0
   try clear hfz20_1
   try clear hfz20_2
   obtain ⟨kq, x27_6, rfl, HA, HJ6, BK577, BK578, HB⟩ := hcut
   cases kq with
   | zero => exact absurd HA.out (by simp [florinlaw03_RoundAgain.j0])
   | succ kj6 =>
    have H := HA.out
    clear HA
    simp only [florinlaw03_RoundAgain.j0] at H
    by_cases c22 : x27_6 = true
    ·subst c22
     have H1 : (some true) = some r := by rw [if_pos rfl] at H; exact H
     clear H
     have H := H1
     clear H1
     obtain rfl := Option.some.inj H
     go_wp2
     go_ret
     exact ⟨by first | rfl | (simp [errW_none, errW_some] <;> rfl) | (simp [*, errW_none, errW_some] <;> first | rfl | exact given_isEmpty _ | exact (given_isEmpty _).symm), by repeat (first | (with_reducible first | exact HB.out | apply below_alloc | apply pw_below_drewN | apply below_drew1 | refine below_set ?_ GE577.out | refine below_set ?_ GE578.out) | exact HB.out)⟩
    ·replace c22 := Bool.eq_false_iff.mpr c22
     subst c22
     have H1 : ((florinlaw03_Mode.f a3).bind fun t582 => ((florinlaw02_Raw_Make.f kj6 a0_0 l0_1 a0_2).bind fun bt583 => ((florinlaw02_Raw_Make.f kj6 a1_0 l1_1 a1_2).bind fun bt587 => ((round_At.f kj6 bt583.1 bt583.2.1 bt583.2.2 (wrap64 ((Int.tmod a2 60) - (wrap64 (Int.tdiv (Int.tmod a2 60) 2)))) t582).bind fun bt591 => ((round_At.f kj6 bt587.1 bt587.2.1 bt587.2.2 (wrap64 ((Int.tmod a2 60) - (wrap64 (Int.tdiv (Int.tmod a2 60) 2)))) t582).bind fun bt595 => ((dec_Made.f kj6 false (⟨#[50, 53]⟩ : ByteArray) (wrap64 ((Int.tmod a2 60) - (wrap64 (Int.tdiv (Int.tmod a2 60) 2))))).bind fun bt599 => ((round_Step.f kj6 bt583.1 bt583.2.1 bt583.2.2 bt599.1 bt599.2.1 bt599.2.2 t582).bind fun bt603 => ((round_Step.f kj6 bt587.1 bt587.2.1 bt587.2.2 bt599.1 bt599.2.1 bt599.2.2 t582).bind fun bt607 => ((dec_Cmp.f kj6 bt583.1 bt583.2.1 bt583.2.2 bt587.1 bt587.2.1 bt587.2.2).bind fun t611 => ((round_At.f kj6 bt591.1 bt591.2.1 bt591.2.2 (wrap64 ((Int.tmod a2 60) - (wrap64 (Int.tdiv (Int.tmod a2 60) 2)))) t582).bind fun bt612 => (if (!(bt612.1 == bt591.1) || (!(bt612.2.1.toList == bt591.2.1.toList) || (!(bt612.2.2 == bt591.2.2)))) = true then (florinlaw03_RoundAgain.j1 kj6 t611 true bt591.1 bt591.2.1 bt591.2.2 bt595.1 bt595.2.1 bt595.2.2 bt603.1 bt603.2.1 bt603.2.2 bt607.1 bt607.2.1 bt607.2.2) else ((round_Step.f kj6 bt603.1 bt603.2.1 bt603.2.2 bt599.1 bt599.2.1 bt599.2.2 t582).bind fun bt615 => (florinlaw03_RoundAgain.j1 kj6 t611 (!(bt615.1 == bt603.1) || (!(bt615.2.1.toList == bt603.2.1.toList) || (!(bt615.2.2 == bt603.2.2)))) bt591.1 bt591.2.1 bt591.2.2 bt595.1 bt595.2.1 bt595.2.2 bt603.1 bt603.2.1 bt603.2.2 bt607.1 bt607.2.1 bt607.2.2))))))))))))) = some r := by rw [if_neg (show ¬ (false = true) by decide)] at H; exact H
     clear H
     have H := H1
     clear H1
     replace H := Option.bind_eq_some_iff.mp H
     obtain ⟨t582, A230, H⟩ := H
     replace H : ((florinlaw02_Raw_Make.f kj6 a0_0 l0_1 a0_2).bind fun bt583 => ((florinlaw02_Raw_Make.f kj6 a1_0 l1_1 a1_2).bind fun bt587 => ((round_At.f kj6 bt583.1 bt583.2.1 bt583.2.2 (wrap64 ((Int.tmod a2 60) - (wrap64 (Int.tdiv (Int.tmod a2 60) 2)))) t582).bind fun bt591 => ((round_At.f kj6 bt587.1 bt587.2.1 bt587.2.2 (wrap64 ((Int.tmod a2 60) - (wrap64 (Int.tdiv (Int.tmod a2 60) 2)))) t582).bind fun bt595 => ((dec_Made.f kj6 false (⟨#[50, 53]⟩ : ByteArray) (wrap64 ((Int.tmod a2 60) - (wrap64 (Int.tdiv (Int.tmod a2 60) 2))))).bind fun bt599 => ((round_Step.f kj6 bt583.1 bt583.2.1 bt583.2.2 bt599.1 bt599.2.1 bt599.2.2 t582).bind fun bt603 => ((round_Step.f kj6 bt587.1 bt587.2.1 bt587.2.2 bt599.1 bt599.2.1 bt599.2.2 t582).bind fun bt607 => ((dec_Cmp.f kj6 bt583.1 bt583.2.1 bt583.2.2 bt587.1 bt587.2.1 bt587.2.2).bind fun t611 => ((round_At.f kj6 bt591.1 bt591.2.1 bt591.2.2 (wrap64 ((Int.tmod a2 60) - (wrap64 (Int.tdiv (Int.tmod a2 60) 2)))) t582).bind fun bt612 => (if (!(bt612.1 == bt591.1) || (!(bt612.2.1.toList == bt591.2.1.toList) || (!(bt612.2.2 == bt591.2.2)))) = true then (florinlaw03_RoundAgain.j1 kj6 t611 true bt591.1 bt591.2.1 bt591.2.2 bt595.1 bt595.2.1 bt595.2.2 bt603.1 bt603.2.1 bt603.2.2 bt607.1 bt607.2.1 bt607.2.2) else ((round_Step.f kj6 bt603.1 bt603.2.1 bt603.2.2 bt599.1 bt599.2.1 bt599.2.2 t582).bind fun bt615 => (florinlaw03_RoundAgain.j1 kj6 t611 (!(bt615.1 == bt603.1) || (!(bt615.2.1.toList == bt603.2.1.toList) || (!(bt615.2.2 == bt603.2.2)))) bt591.1 bt591.2.1 bt591.2.2 bt595.1 bt595.2.1 bt595.2.2 bt603.1 bt603.2.1 bt603.2.2 bt607.1 bt607.2.1 bt607.2.2)))))))))))) = some r := H
     have A23 := Aside0.mk A230
     clear A230
     replace H := Option.bind_eq_some_iff.mp H
     obtain ⟨⟨t583, t584, t585⟩, A240, H⟩ := H
     replace H : ((florinlaw02_Raw_Make.f kj6 a1_0 l1_1 a1_2).bind fun bt587 => ((round_At.f kj6 t583 t584 t585 (wrap64 ((Int.tmod a2 60) - (wrap64 (Int.tdiv (Int.tmod a2 60) 2)))) t582).bind fun bt591 => ((round_At.f kj6 bt587.1 bt587.2.1 bt587.2.2 (wrap64 ((Int.tmod a2 60) - (wrap64 (Int.tdiv (Int.tmod a2 60) 2)))) t582).bind fun bt595 => ((dec_Made.f kj6 false (⟨#[50, 53]⟩ : ByteArray) (wrap64 ((Int.tmod a2 60) - (wrap64 (Int.tdiv (Int.tmod a2 60) 2))))).bind fun bt599 => ((round_Step.f kj6 t583 t584 t585 bt599.1 bt599.2.1 bt599.2.2 t582).bind fun bt603 => ((round_Step.f kj6 bt587.1 bt587.2.1 bt587.2.2 bt599.1 bt599.2.1 bt599.2.2 t582).bind fun bt607 => ((dec_Cmp.f kj6 t583 t584 t585 bt587.1 bt587.2.1 bt587.2.2).bind fun t611 => ((round_At.f kj6 bt591.1 bt591.2.1 bt591.2.2 (wrap64 ((Int.tmod a2 60) - (wrap64 (Int.tdiv (Int.tmod a2 60) 2)))) t582).bind fun bt612 => (if (!(bt612.1 == bt591.1) || (!(bt612.2.1.toList == bt591.2.1.toList) || (!(bt612.2.2 == bt591.2.2)))) = true then (florinlaw03_RoundAgain.j1 kj6 t611 true bt591.1 bt591.2.1 bt591.2.2 bt595.1 bt595.2.1 bt595.2.2 bt603.1 bt603.2.1 bt603.2.2 bt607.1 bt607.2.1 bt607.2.2) else ((round_Step.f kj6 bt603.1 bt603.2.1 bt603.2.2 bt599.1 bt599.2.1 bt599.2.2 t582).bind fun bt615 => (florinlaw03_RoundAgain.j1 kj6 t611 (!(bt615.1 == bt603.1) || (!(bt615.2.1.toList == bt603.2.1.toList) || (!(bt615.2.2 == bt603.2.2)))) bt591.1 bt591.2.1 bt591.2.2 bt595.1 bt595.2.1 bt595.2.2 bt603.1 bt603.2.1 bt603.2.2 bt607.1 bt607.2.1 bt607.2.2))))))))))) = some r := H
     have A24 := Aside0.mk A240
     clear A240
     replace H := Option.bind_eq_some_iff.mp H
     obtain ⟨⟨t587, t588, t589⟩, A250, H⟩ := H
     replace H : ((round_At.f kj6 t583 t584 t585 (wrap64 ((Int.tmod a2 60) - (wrap64 (Int.tdiv (Int.tmod a2 60) 2)))) t582).bind fun bt591 => ((round_At.f kj6 t587 t588 t589 (wrap64 ((Int.tmod a2 60) - (wrap64 (Int.tdiv (Int.tmod a2 60) 2)))) t582).bind fun bt595 => ((dec_Made.f kj6 false (⟨#[50, 53]⟩ : ByteArray) (wrap64 ((Int.tmod a2 60) - (wrap64 (Int.tdiv (Int.tmod a2 60) 2))))).bind fun bt599 => ((round_Step.f kj6 t583 t584 t585 bt599.1 bt599.2.1 bt599.2.2 t582).bind fun bt603 => ((round_Step.f kj6 t587 t588 t589 bt599.1 bt599.2.1 bt599.2.2 t582).bind fun bt607 => ((dec_Cmp.f kj6 t583 t584 t585 t587 t588 t589).bind fun t611 => ((round_At.f kj6 bt591.1 bt591.2.1 bt591.2.2 (wrap64 ((Int.tmod a2 60) - (wrap64 (Int.tdiv (Int.tmod a2 60) 2)))) t582).bind fun bt612 => (if (!(bt612.1 == bt591.1) || (!(bt612.2.1.toList == bt591.2.1.toList) || (!(bt612.2.2 == bt591.2.2)))) = true then (florinlaw03_RoundAgain.j1 kj6 t611 true bt591.1 bt591.2.1 bt591.2.2 bt595.1 bt595.2.1 bt595.2.2 bt603.1 bt603.2.1 bt603.2.2 bt607.1 bt607.2.1 bt607.2.2) else ((round_Step.f kj6 bt603.1 bt603.2.1 bt603.2.2 bt599.1 bt599.2.1 bt599.2.2 t582).bind fun bt615 => (florinlaw03_RoundAgain.j1 kj6 t611 (!(bt615.1 == bt603.1) || (!(bt615.2.1.toList == bt603.2.1.toList) || (!(bt615.2.2 == bt603.2.2)))) bt591.1 bt591.2.1 bt591.2.2 bt595.1 bt595.2.1 bt595.2.2 bt603.1 bt603.2.1 bt603.2.2 bt607.1 bt607.2.1 bt607.2.2)))))))))) = some r := H
     have A25 := Aside0.mk A250
     clear A250
     replace H := Option.bind_eq_some_iff.mp H
     obtain ⟨⟨t591, t592, t593⟩, A260, H⟩ := H
     replace H : ((round_At.f kj6 t587 t588 t589 (wrap64 ((Int.tmod a2 60) - (wrap64 (Int.tdiv (Int.tmod a2 60) 2)))) t582).bind fun bt595 => ((dec_Made.f kj6 false (⟨#[50, 53]⟩ : ByteArray) (wrap64 ((Int.tmod a2 60) - (wrap64 (Int.tdiv (Int.tmod a2 60) 2))))).bind fun bt599 => ((round_Step.f kj6 t583 t584 t585 bt599.1 bt599.2.1 bt599.2.2 t582).bind fun bt603 => ((round_Step.f kj6 t587 t588 t589 bt599.1 bt599.2.1 bt599.2.2 t582).bind fun bt607 => ((dec_Cmp.f kj6 t583 t584 t585 t587 t588 t589).bind fun t611 => ((round_At.f kj6 t591 t592 t593 (wrap64 ((Int.tmod a2 60) - (wrap64 (Int.tdiv (Int.tmod a2 60) 2)))) t582).bind fun bt612 => (if (!(bt612.1 == t591) || (!(bt612.2.1.toList == t592.toList) || (!(bt612.2.2 == t593)))) = true then (florinlaw03_RoundAgain.j1 kj6 t611 true t591 t592 t593 bt595.1 bt595.2.1 bt595.2.2 bt603.1 bt603.2.1 bt603.2.2 bt607.1 bt607.2.1 bt607.2.2) else ((round_Step.f kj6 bt603.1 bt603.2.1 bt603.2.2 bt599.1 bt599.2.1 bt599.2.2 t582).bind fun bt615 => (florinlaw03_RoundAgain.j1 kj6 t611 (!(bt615.1 == bt603.1) || (!(bt615.2.1.toList == bt603.2.1.toList) || (!(bt615.2.2 == bt603.2.2)))) t591 t592 t593 bt595.1 bt595.2.1 bt595.2.2 bt603.1 bt603.2.1 bt603.2.2 bt607.1 bt607.2.1 bt607.2.2))))))))) = some r := H
     have A26 := Aside0.mk A260
     clear A260
     replace H := Option.bind_eq_some_iff.mp H
     obtain ⟨⟨t595, t596, t597⟩, A270, H⟩ := H
     replace H : ((dec_Made.f kj6 false (⟨#[50, 53]⟩ : ByteArray) (wrap64 ((Int.tmod a2 60) - (wrap64 (Int.tdiv (Int.tmod a2 60) 2))))).bind fun bt599 => ((round_Step.f kj6 t583 t584 t585 bt599.1 bt599.2.1 bt599.2.2 t582).bind fun bt603 => ((round_Step.f kj6 t587 t588 t589 bt599.1 bt599.2.1 bt599.2.2 t582).bind fun bt607 => ((dec_Cmp.f kj6 t583 t584 t585 t587 t588 t589).bind fun t611 => ((round_At.f kj6 t591 t592 t593 (wrap64 ((Int.tmod a2 60) - (wrap64 (Int.tdiv (Int.tmod a2 60) 2)))) t582).bind fun bt612 => (if (!(bt612.1 == t591) || (!(bt612.2.1.toList == t592.toList) || (!(bt612.2.2 == t593)))) = true then (florinlaw03_RoundAgain.j1 kj6 t611 true t591 t592 t593 t595 t596 t597 bt603.1 bt603.2.1 bt603.2.2 bt607.1 bt607.2.1 bt607.2.2) else ((round_Step.f kj6 bt603.1 bt603.2.1 bt603.2.2 bt599.1 bt599.2.1 bt599.2.2 t582).bind fun bt615 => (florinlaw03_RoundAgain.j1 kj6 t611 (!(bt615.1 == bt603.1) || (!(bt615.2.1.toList == bt603.2.1.toList) || (!(bt615.2.2 == bt603.2.2)))) t591 t592 t593 t595 t596 t597 bt603.1 bt603.2.1 bt603.2.2 bt607.1 bt607.2.1 bt607.2.2)))))))) = some r := H
     have A27 := Aside0.mk A270
     clear A270
     replace H := Option.bind_eq_some_iff.mp H
     obtain ⟨⟨t599, t600, t601⟩, A280, H⟩ := H
     replace H : ((round_Step.f kj6 t583 t584 t585 t599 t600 t601 t582).bind fun bt603 => ((round_Step.f kj6 t587 t588 t589 t599 t600 t601 t582).bind fun bt607 => ((dec_Cmp.f kj6 t583 t584 t585 t587 t588 t589).bind fun t611 => ((round_At.f kj6 t591 t592 t593 (wrap64 ((Int.tmod a2 60) - (wrap64 (Int.tdiv (Int.tmod a2 60) 2)))) t582).bind fun bt612 => (if (!(bt612.1 == t591) || (!(bt612.2.1.toList == t592.toList) || (!(bt612.2.2 == t593)))) = true then (florinlaw03_RoundAgain.j1 kj6 t611 true t591 t592 t593 t595 t596 t597 bt603.1 bt603.2.1 bt603.2.2 bt607.1 bt607.2.1 bt607.2.2) else ((round_Step.f kj6 bt603.1 bt603.2.1 bt603.2.2 t599 t600 t601 t582).bind fun bt615 => (florinlaw03_RoundAgain.j1 kj6 t611 (!(bt615.1 == bt603.1) || (!(bt615.2.1.toList == bt603.2.1.toList) || (!(bt615.2.2 == bt603.2.2)))) t591 t592 t593 t595 t596 t597 bt603.1 bt603.2.1 bt603.2.2 bt607.1 bt607.2.1 bt607.2.2))))))) = some r := H
     have A28 := Aside0.mk A280
     clear A280
     replace H := Option.bind_eq_some_iff.mp H
     obtain ⟨⟨t603, t604, t605⟩, A290, H⟩ := H
     replace H : ((round_Step.f kj6 t587 t588 t589 t599 t600 t601 t582).bind fun bt607 => ((dec_Cmp.f kj6 t583 t584 t585 t587 t588 t589).bind fun t611 => ((round_At.f kj6 t591 t592 t593 (wrap64 ((Int.tmod a2 60) - (wrap64 (Int.tdiv (Int.tmod a2 60) 2)))) t582).bind fun bt612 => (if (!(bt612.1 == t591) || (!(bt612.2.1.toList == t592.toList) || (!(bt612.2.2 == t593)))) = true then (florinlaw03_RoundAgain.j1 kj6 t611 true t591 t592 t593 t595 t596 t597 t603 t604 t605 bt607.1 bt607.2.1 bt607.2.2) else ((round_Step.f kj6 t603 t604 t605 t599 t600 t601 t582).bind fun bt615 => (florinlaw03_RoundAgain.j1 kj6 t611 (!(bt615.1 == t603) || (!(bt615.2.1.toList == t604.toList) || (!(bt615.2.2 == t605)))) t591 t592 t593 t595 t596 t597 t603 t604 t605 bt607.1 bt607.2.1 bt607.2.2)))))) = some r := H
     have A29 := Aside0.mk A290
     clear A290
     replace H := Option.bind_eq_some_iff.mp H
     obtain ⟨⟨t607, t608, t609⟩, A300, H⟩ := H
     replace H : ((dec_Cmp.f kj6 t583 t584 t585 t587 t588 t589).bind fun t611 => ((round_At.f kj6 t591 t592 t593 (wrap64 ((Int.tmod a2 60) - (wrap64 (Int.tdiv (Int.tmod a2 60) 2)))) t582).bind fun bt612 => (if (!(bt612.1 == t591) || (!(bt612.2.1.toList == t592.toList) || (!(bt612.2.2 == t593)))) = true then (florinlaw03_RoundAgain.j1 kj6 t611 true t591 t592 t593 t595 t596 t597 t603 t604 t605 t607 t608 t609) else ((round_Step.f kj6 t603 t604 t605 t599 t600 t601 t582).bind fun bt615 => (florinlaw03_RoundAgain.j1 kj6 t611 (!(bt615.1 == t603) || (!(bt615.2.1.toList == t604.toList) || (!(bt615.2.2 == t605)))) t591 t592 t593 t595 t596 t597 t603 t604 t605 t607 t608 t609))))) = some r := H
     have A30 := Aside0.mk A300
     clear A300
     replace H := Option.bind_eq_some_iff.mp H
     obtain ⟨t611, A310, H⟩ := H
     replace H : ((round_At.f kj6 t591 t592 t593 (wrap64 ((Int.tmod a2 60) - (wrap64 (Int.tdiv (Int.tmod a2 60) 2)))) t582).bind fun bt612 => (if (!(bt612.1 == t591) || (!(bt612.2.1.toList == t592.toList) || (!(bt612.2.2 == t593)))) = true then (florinlaw03_RoundAgain.j1 kj6 t611 true t591 t592 t593 t595 t596 t597 t603 t604 t605 t607 t608 t609) else ((round_Step.f kj6 t603 t604 t605 t599 t600 t601 t582).bind fun bt615 => (florinlaw03_RoundAgain.j1 kj6 t611 (!(bt615.1 == t603) || (!(bt615.2.1.toList == t604.toList) || (!(bt615.2.2 == t605)))) t591 t592 t593 t595 t596 t597 t603 t604 t605 t607 t608 t609)))) = some r := H
     have A31 := Aside0.mk A310
     clear A310
     have HC32 := Aside0.mk H
     clear H
     go_upto_region 15 with (first | ((with_reducible refine gate_callee (f := 14) rfl ?_); refine goesL_ (some 35) rfl rfl Tryd.func14 (by kernel_rfl) rfl #[.int .i64 a3] rfl (by (try simp only [List.map_toArray, List.map_cons, List.map_nil]); first | done | rfl | (simp only [List.length_drop, List.length_take]; rfl) | (have z_ : ∀ s_ : ByteArray, s_.size ≤ 9223372036854775807 → -(s_.size : Int) = wrap64 (-(s_.size : Int)) := (fun s_ h_ => by unfold wrap64; omega); rw [← z_ _ (by omega)]; rfl) | (simp only [ByteArray.size_append]; rfl)) ?_; (with_reducible refine (florinlaw03_Mode.calls a3 t582 _ A23.out).mono ?_); rintro e w' ⟨rfl, ⟨nd, rfl⟩⟩; refine ⟨_, rfl, ?_⟩; (try (rw [drewN_self wc]; generalize hq_ : World.drewN wc _ = wc; have n0_ : Aside0 (wc.heap[gb577]? = some (.cells #[.bool a0_0, .slice A0_1 l0_1.length c0_1, .int .i64 a0_2] 24 (0, 0))) := ⟨by rw [← hq_]; exact (by (with_reducible repeat (first | refine blk_drewN ?_ _ | refine blk_drew ?_ | refine blk_alloc ?_ _)); exact BK577.out)⟩; have n1_ : Aside0 (wc.heap[gb578]? = some (.cells #[.bool a1_0, .slice A1_1 l1_1.length c1_1, .int .i64 a1_2] 24 (0, 0))) := ⟨by rw [← hq_]; exact (by (with_reducible repeat (first | refine blk_drewN ?_ _ | refine blk_drew ?_ | refine blk_alloc ?_ _)); exact BK578.out)⟩; have n2_ : Aside0 (Below w.heap.size w wc) := ⟨by rw [← hq_]; exact (bl_ HB).out⟩; clear BK577 BK578 HB hq_; have BK577 := n0_; have BK578 := n1_; have HB := n2_; clear n0_ n1_ n2_)); have hnb33 := NB577_578.out; have hnc33 := NB578_577.out; have hcz34_0 : wc.cell? ⟨gb577, 0, none⟩ = some (.bool a0_0) := bc_ BK577 0; have hcz34_1 : wc.cell? ⟨gb577, 1, none⟩ = some (.slice A0_1 l0_1.length c0_1) := bc_ BK577 1; have hcz34_2 : wc.cell? ⟨gb577, 2, none⟩ = some (.int .i64 a0_2) := bc_ BK577 2; have hfz34_0 := blk_frozen BK577.out 0; have hfz34_1 := blk_frozen BK577.out 1; have hfz34_2 := blk_frozen BK577.out 2) | ((with_reducible refine gate_callee (f := 12) rfl ?_); refine goesL_ (some 37) rfl rfl Tryd.func12 (by kernel_rfl) rfl #[.agg #[.bool a0_0, .slice A0_1 l0_1.length c0_1, .int .i64 a0_2]] rfl (by (try simp only [List.map_toArray, List.map_cons, List.map_nil]); first | done | rfl | (simp only [List.length_drop, List.length_take]; rfl) | (have z_ : ∀ s_ : ByteArray, s_.size ≤ 9223372036854775807 → -(s_.size : Int) = wrap64 (-(s_.size : Int)) := (fun s_ h_ => by unfold wrap64; omega); rw [← z_ _ (by omega)]; rfl) | (simp only [ByteArray.size_append]; rfl)) ?_; (with_reducible refine (florinlaw02_Raw_Make.calls kj6 a0_0 _ _ l0_1 a0_2 t583 t584 t585 _ ?side1 ?side2 A24.out).mono ?_); (case side1 => repeat (first | exact (Kd.C_below HR0_1.out HB.out) | (with_reducible refine Kd.C_alloc ?_ _) | (with_reducible refine Kd.C_drewN ?_ _) | (with_reducible refine Kd.C_drew ?_))); (case side2 => exact HC0_1.out); rintro e w35 ⟨rfl, hb⟩; refine ⟨_, rfl, ?_⟩; have n0_ := bb_ BK577 hb; have n1_ := bb_ BK578 hb; have n2_ := Aside0.mk (below_step (bl_ HB).out hb); clear BK577; clear BK578; clear HB; have BK577 := n0_; have BK578 := n1_; have HB := n2_; clear n0_ n1_ n2_; (try clear hb); (try clear hb2); (try clear hk); (try clear hi)) | ((with_reducible refine gate_dst (N := 10) rfl ?_); refine box_event ?hg (N := 10) ?hd (cs := #[.bool false, .string (⟨#[]⟩ : ByteArray), .int .i64 0]) (t := 30) ?hr ?_; (case hd => rfl); (case hg => rfl); (case hr => first | (go_simp; done) | (go_simp; rfl)); intro gb586 hg w36 hbox hb; have n0_ := bb_ BK577 hb; have n1_ := bb_ BK578 hb; have n2_ := Aside0.mk (below_step (bl_ HB).out hb); have n3_ := Aside0.mk (hbox); have n4_ := Aside0.mk ((by rw [hg]; exact (below_size (bl_ HB).out) : w.heap.size ≤ gb586)); have n5_ := Aside0.mk ((by rw [hg]; exact (below_size (bl_ HB).out) : w.heap.size ≤ gb586)); have n6_ := Aside0.mk ((by rw [hg]; exact Nat.ne_of_lt (blk_lt (g := gb577) (o := .cells #[.bool a0_0, .slice A0_1 l0_1.length c0_1, .int .i64 a0_2] 24 (0, 0)) (by (with_reducible repeat (first | refine blk_drewN ?_ _ | refine blk_drew ?_ | refine blk_alloc ?_ _)); exact BK577.out)) : gb577 ≠ gb586)); have n7_ := Aside0.mk ((by rw [hg]; exact Nat.ne_of_gt (blk_lt (g := gb577) (o := .cells #[.bool a0_0, .slice A0_1 l0_1.length c0_1, .int .i64 a0_2] 24 (0, 0)) (by (with_reducible repeat (first | refine blk_drewN ?_ _ | refine blk_drew ?_ | refine blk_alloc ?_ _)); exact BK577.out)) : gb586 ≠ gb577)); have n8_ := Aside0.mk ((by rw [hg]; exact Nat.ne_of_lt (blk_lt (g := gb578) (o := .cells #[.bool a1_0, .slice A1_1 l1_1.length c1_1, .int .i64 a1_2] 24 (0, 0)) (by (with_reducible repeat (first | refine blk_drewN ?_ _ | refine blk_drew ?_ | refine blk_alloc ?_ _)); exact BK578.out)) : gb578 ≠ gb586)); have n9_ := Aside0.mk ((by rw [hg]; exact Nat.ne_of_gt (blk_lt (g := gb578) (o := .cells #[.bool a1_0, .slice A1_1 l1_1.length c1_1, .int .i64 a1_2] 24 (0, 0)) (by (with_reducible repeat (first | refine blk_drewN ?_ _ | refine blk_drew ?_ | refine blk_alloc ?_ _)); exact BK578.out)) : gb586 ≠ gb578)); clear BK577; clear BK578; clear HB; have BK577 := n0_; have BK578 := n1_; have HB := n2_; have BK586 := n3_; have GW586 := n4_; have GE586 := n5_; have NB577_586 := n6_; have NB586_577 := n7_; have NB578_586 := n8_; have NB586_578 := n9_; clear n0_ n1_ n2_ n3_ n4_ n5_ n6_ n7_ n8_ n9_; clear hb hbox hg; have hnb37 := NB586_577.out; have hnc37 := NB577_586.out; have hnb38 := NB586_578.out; have hnc38 := NB578_586.out; have hcz39_0 : w36.cell? ⟨gb586, 0, none⟩ = some (.bool false) := bc_ BK586 0; have hcz39_1 : w36.cell? ⟨gb586, 1, none⟩ = some (.string (⟨#[]⟩ : ByteArray)) := bc_ BK586 1; have hcz39_2 : w36.cell? ⟨gb586, 2, none⟩ = some (.int .i64 0) := bc_ BK586 2; have hfz39_0 := blk_frozen BK586.out 0; have hfz39_1 := blk_frozen BK586.out 1; have hfz39_2 := blk_frozen BK586.out 2; have hcz40_0 : w36.cell? ⟨gb578, 0, none⟩ = some (.bool a1_0) := bc_ BK578 0; have hcz40_1 : w36.cell? ⟨gb578, 1, none⟩ = some (.slice A1_1 l1_1.length c1_1) := bc_ BK578 1; have hcz40_2 : w36.cell? ⟨gb578, 2, none⟩ = some (.int .i64 a1_2) := bc_ BK578 2; have hfz40_0 := blk_frozen BK578.out 0; have hfz40_1 := blk_frozen BK578.out 1; have hfz40_2 := blk_frozen BK578.out 2) | ((with_reducible refine gate_callee (f := 12) rfl ?_); refine goesL_ (some 39) rfl rfl Tryd.func12 (by kernel_rfl) rfl #[.agg #[.bool a1_0, .slice A1_1 l1_1.length c1_1, .int .i64 a1_2]] rfl (by (try simp only [List.map_toArray, List.map_cons, List.map_nil]); first | done | rfl | (simp only [List.length_drop, List.length_take]; rfl) | (have z_ : ∀ s_ : ByteArray, s_.size ≤ 9223372036854775807 → -(s_.size : Int) = wrap64 (-(s_.size : Int)) := (fun s_ h_ => by unfold wrap64; omega); rw [← z_ _ (by omega)]; rfl) | (simp only [ByteArray.size_append]; rfl)) ?_; (with_reducible refine (florinlaw02_Raw_Make.calls kj6 a1_0 _ _ l1_1 a1_2 t587 t588 t589 _ ?side1 ?side2 A25.out).mono ?_); (case side1 => exact Kd.C_below HR1_1.out (bl_ HB).out); (case side2 => exact HC1_1.out); rintro e w41 ⟨rfl, hb⟩; refine ⟨_, rfl, ?_⟩; have n0_ := Aside0.mk (blk_below (g := gb577) (o := .cells #[.bool a0_0, .slice A0_1 l0_1.length c0_1, .int .i64 a0_2] 24 (0, 0)) (by (with_reducible repeat (first | refine blk_drewN ?_ _ | refine blk_drew ?_ | refine blk_alloc ?_ _)); refine blk_far ?_ NB577_586.out _; (with_reducible repeat (first | refine blk_drewN ?_ _ | refine blk_drew ?_ | refine blk_alloc ?_ _)); refine blk_far ?_ NB577_586.out _; (with_reducible repeat (first | refine blk_drewN ?_ _ | refine blk_drew ?_ | refine blk_alloc ?_ _)); refine blk_far ?_ NB577_586.out _; (with_reducible repeat (first | refine blk_drewN ?_ _ | refine blk_drew ?_ | refine blk_alloc ?_ _)); exact BK577.out) hb); have n1_ := Aside0.mk (blk_below (g := gb578) (o := .cells #[.bool a1_0, .slice A1_1 l1_1.length c1_1, .int .i64 a1_2] 24 (0, 0)) (by (with_reducible repeat (first | refine blk_drewN ?_ _ | refine blk_drew ?_ | refine blk_alloc ?_ _)); refine blk_far ?_ NB578_586.out _; (with_reducible repeat (first | refine blk_drewN ?_ _ | refine blk_drew ?_ | refine blk_alloc ?_ _)); refine blk_far ?_ NB578_586.out _; (with_reducible repeat (first | refine blk_drewN ?_ _ | refine blk_drew ?_ | refine blk_alloc ?_ _)); refine blk_far ?_ NB578_586.out _; (with_reducible repeat (first | refine blk_drewN ?_ _ | refine blk_drew ?_ | refine blk_alloc ?_ _)); exact BK578.out) hb); have n2_ := Aside0.mk (blk_below (g := gb586) (o := .cells #[.bool t583, .string t584, .int .i64 t585] 30 (0, 0)) (by (with_reducible repeat (first | refine blk_drewN ?_ _ | refine blk_drew ?_ | refine blk_alloc ?_ _)); refine blk_put (cs := #[.bool t583, .string t584, .int .i64 0]) ?_ 2 _ rfl; (with_reducible repeat (first | refine blk_drewN ?_ _ | refine blk_drew ?_ | refine blk_alloc ?_ _)); refine blk_put (cs := #[.bool t583, .string (⟨#[]⟩ : ByteArray), .int .i64 0]) ?_ 1 _ rfl; (with_reducible repeat (first | refine blk_drewN ?_ _ | refine blk_drew ?_ | refine blk_alloc ?_ _)); refine blk_put (cs := #[.bool false, .string (⟨#[]⟩ : ByteArray), .int .i64 0]) ?_ 0 _ rfl; (with_reducible repeat (first | refine blk_drewN ?_ _ | refine blk_drew ?_ | refine blk_alloc ?_ _)); exact BK586.out) hb); have n3_ := Aside0.mk (below_step (bl_ HB).out hb); clear BK577; clear BK578; clear BK586; clear HB; have BK577 := n0_; have BK578 := n1_; have BK586 := n2_; have HB := n3_; clear n0_ n1_ n2_ n3_; (try clear hb); (try clear hb2); (try clear hk); (try clear hi)) | ((with_reducible refine gate_dst (N := 11) rfl ?_); refine box_event ?hg (N := 11) ?hd (cs := #[.bool false, .string (⟨#[]⟩ : ByteArray), .int .i64 0]) (t := 30) ?hr ?_; (case hd => rfl); (case hg => rfl); (case hr => first | (go_simp; done) | (go_simp; rfl)); intro gb590 hg w42 hbox hb; have n0_ := bb_ BK577 hb; have n1_ := bb_ BK578 hb; have n2_ := bb_ BK586 hb; have n3_ := Aside0.mk (below_step (bl_ HB).out hb); have n4_ := Aside0.mk (hbox); have n5_ := Aside0.mk ((by rw [hg]; exact (below_size (bl_ HB).out) : w.heap.size ≤ gb590)); have n6_ := Aside0.mk ((by rw [hg]; exact (below_size (bl_ HB).out) : w.heap.size ≤ gb590)); have n7_ := Aside0.mk ((by rw [hg]; exact Nat.ne_of_lt (blk_lt (g := gb577) (o := .cells #[.bool a0_0, .slice A0_1 l0_1.length c0_1, .int .i64 a0_2] 24 (0, 0)) (by (with_reducible repeat (first | refine blk_drewN ?_ _ | refine blk_drew ?_ | refine blk_alloc ?_ _)); exact BK577.out)) : gb577 ≠ gb590)); have n8_ := Aside0.mk ((by rw [hg]; exact Nat.ne_of_gt (blk_lt (g := gb577) (o := .cells #[.bool a0_0, .slice A0_1 l0_1.length c0_1, .int .i64 a0_2] 24 (0, 0)) (by (with_reducible repeat (first | refine blk_drewN ?_ _ | refine blk_drew ?_ | refine blk_alloc ?_ _)); exact BK577.out)) : gb590 ≠ gb577)); have n9_ := Aside0.mk ((by rw [hg]; exact Nat.ne_of_lt (blk_lt (g := gb578) (o := .cells #[.bool a1_0, .slice A1_1 l1_1.length c1_1, .int .i64 a1_2] 24 (0, 0)) (by (with_reducible repeat (first | refine blk_drewN ?_ _ | refine blk_drew ?_ | refine blk_alloc ?_ _)); exact BK578.out)) : gb578 ≠ gb590)); have n10_ := Aside0.mk ((by rw [hg]; exact Nat.ne_of_gt (blk_lt (g := gb578) (o := .cells #[.bool a1_0, .slice A1_1 l1_1.length c1_1, .int .i64 a1_2] 24 (0, 0)) (by (with_reducible repeat (first | refine blk_drewN ?_ _ | refine blk_drew ?_ | refine blk_alloc ?_ _)); exact BK578.out)) : gb590 ≠ gb578)); have n11_ := Aside0.mk ((by rw [hg]; exact Nat.ne_of_lt (blk_lt (g := gb586) (o := .cells #[.bool t583, .string t584, .int .i64 t585] 30 (0, 0)) (by (with_reducible repeat (first | refine blk_drewN ?_ _ | refine blk_drew ?_ | refine blk_alloc ?_ _)); exact BK586.out)) : gb586 ≠ gb590)); have n12_ := Aside0.mk ((by rw [hg]; exact Nat.ne_of_gt (blk_lt (g := gb586) (o := .cells #[.bool t583, .string t584, .int .i64 t585] 30 (0, 0)) (by (with_reducible repeat (first | refine blk_drewN ?_ _ | refine blk_drew ?_ | refine blk_alloc ?_ _)); exact BK586.out)) : gb590 ≠ gb586)); clear BK577; clear BK578; clear BK586; clear HB; have BK577 := n0_; have BK578 := n1_; have BK586 := n2_; have HB := n3_; have BK590 := n4_; have GW590 := n5_; have GE590 := n6_; have NB577_590 := n7_; have NB590_577 := n8_; have NB578_590 := n9_; have NB590_578 := n10_; have NB586_590 := n11_; have NB590_586 := n12_; clear n0_ n1_ n2_ n3_ n4_ n5_ n6_ n7_ n8_ n9_ n10_ n11_ n12_; clear hb hbox hg; have hnb43 := NB590_577.out; have hnc43 := NB577_590.out; have hnb44 := NB590_578.out; have hnc44 := NB578_590.out; have hnb45 := NB590_586.out; have hnc45 := NB586_590.out; have hcz46_0 : w42.cell? ⟨gb590, 0, none⟩ = some (.bool false) := bc_ BK590 0; have hcz46_1 : w42.cell? ⟨gb590, 1, none⟩ = some (.string (⟨#[]⟩ : ByteArray)) := bc_ BK590 1; have hcz46_2 : w42.cell? ⟨gb590, 2, none⟩ = some (.int .i64 0) := bc_ BK590 2; have hfz46_0 := blk_frozen BK590.out 0; have hfz46_1 := blk_frozen BK590.out 1; have hfz46_2 := blk_frozen BK590.out 2; have hcz47_0 : w42.cell? ⟨gb586, 0, none⟩ = some (.bool t583) := bc_ BK586 0; have hcz47_1 : w42.cell? ⟨gb586, 1, none⟩ = some (.string t584) := bc_ BK586 1; have hcz47_2 : w42.cell? ⟨gb586, 2, none⟩ = some (.int .i64 t585) := bc_ BK586 2; have hfz47_0 := blk_frozen BK586.out 0; have hfz47_1 := blk_frozen BK586.out 1; have hfz47_2 := blk_frozen BK586.out 2) | ((with_reducible refine gate_callee (f := 13) rfl ?_); refine goesL_ (some 43) rfl rfl Tryd.func13 (by kernel_rfl) rfl #[.agg #[.bool t583, .string t584, .int .i64 t585], .int .i64 (wrap64 ((Int.tmod a2 60) - (wrap64 (Int.tdiv (Int.tmod a2 60) 2)))), .int .i64 t582] rfl (by (try simp only [List.map_toArray, List.map_cons, List.map_nil]); first | done | rfl | (simp only [List.length_drop, List.length_take]; rfl) | (have z_ : ∀ s_ : ByteArray, s_.size ≤ 9223372036854775807 → -(s_.size : Int) = wrap64 (-(s_.size : Int)) := (fun s_ h_ => by unfold wrap64; omega); rw [← z_ _ (by omega)]; rfl) | (simp only [ByteArray.size_append]; rfl)) ?_; (with_reducible refine (round_At.calls kj6 t583 t584 t585 (wrap64 ((Int.tmod a2 60) - (wrap64 (Int.tdiv (Int.tmod a2 60) 2)))) t582 t591 t592 t593 _ A26.out).mono ?_); rintro e w48 ⟨rfl, hb⟩; refine ⟨_, rfl, ?_⟩; have n0_ := Aside0.mk (blk_below (g := gb577) (o := .cells #[.bool a0_0, .slice A0_1 l0_1.length c0_1, .int .i64 a0_2] 24 (0, 0)) (by (with_reducible repeat (first | refine blk_drewN ?_ _ | refine blk_drew ?_ | refine blk_alloc ?_ _)); refine blk_far ?_ NB577_590.out _; (with_reducible repeat (first | refine blk_drewN ?_ _ | refine blk_drew ?_ | refine blk_alloc ?_ _)); refine blk_far ?_ NB577_590.out _; (with_reducible repeat (first | refine blk_drewN ?_ _ | refine blk_drew ?_ | refine blk_alloc ?_ _)); refine blk_far ?_ NB577_590.out _; (with_reducible repeat (first | refine blk_drewN ?_ _ | refine blk_drew ?_ | refine blk_alloc ?_ _)); exact BK577.out) hb); have n1_ := Aside0.mk (blk_below (g := gb578) (o := .cells #[.bool a1_0, .slice A1_1 l1_1.length c1_1, .int .i64 a1_2] 24 (0, 0)) (by (with_reducible repeat (first | refine blk_drewN ?_ _ | refine blk_drew ?_ | refine blk_alloc ?_ _)); refine blk_far ?_ NB578_590.out _; (with_reducible repeat (first | refine blk_drewN ?_ _ | refine blk_drew ?_ | refine blk_alloc ?_ _)); refine blk_far ?_ NB578_590.out _; (with_reducible repeat (first | refine blk_drewN ?_ _ | refine blk_drew ?_ | refine blk_alloc ?_ _)); refine blk_far ?_ NB578_590.out _; (with_reducible repeat (first | refine blk_drewN ?_ _ | refine blk_drew ?_ | refine blk_alloc ?_ _)); exact BK578.out) hb); have n2_ := Aside0.mk (blk_below (g := gb586) (o := .cells #[.bool t583, .string t584, .int .i64 t585] 30 (0, 0)) (by (with_reducible repeat (first | refine blk_drewN ?_ _ | refine blk_drew ?_ | refine blk_alloc ?_ _)); refine blk_far ?_ NB586_590.out _; (with_reducible repeat (first | refine blk_drewN ?_ _ | refine blk_drew ?_ | refine blk_alloc ?_ _)); refine blk_far ?_ NB586_590.out _; (with_reducible repeat (first | refine blk_drewN ?_ _ | refine blk_drew ?_ | refine blk_alloc ?_ _)); refine blk_far ?_ NB586_590.out _; (with_reducible repeat (first | refine blk_drewN ?_ _ | refine blk_drew ?_ | refine blk_alloc ?_ _)); exact BK586.out) hb); have n3_ := Aside0.mk (blk_below (g := gb590) (o := .cells #[.bool t587, .string t588, .int .i64 t589] 30 (0, 0)) (by (with_reducible repeat (first | refine blk_drewN ?_ _ | refine blk_drew ?_ | refine blk_alloc ?_ _)); refine blk_put (cs := #[.bool t587, .string t588, .int .i64 0]) ?_ 2 _ rfl; (with_reducible repeat (first | refine blk_drewN ?_ _ | refine blk_drew ?_ | refine blk_alloc ?_ _)); refine blk_put (cs := #[.bool t587, .string (⟨#[]⟩ : ByteArray), .int .i64 0]) ?_ 1 _ rfl; (with_reducible repeat (first | refine blk_drewN ?_ _ | refine blk_drew ?_ | refine blk_alloc ?_ _)); refine blk_put (cs := #[.bool false, .string (⟨#[]⟩ : ByteArray), .int .i64 0]) ?_ 0 _ rfl; (with_reducible repeat (first | refine blk_drewN ?_ _ | refine blk_drew ?_ | refine blk_alloc ?_ _)); exact BK590.out) hb); have n4_ := Aside0.mk (below_step (bl_ HB).out hb); clear BK577; clear BK578; clear BK586; clear BK590; clear HB; have BK577 := n0_; have BK578 := n1_; have BK586 := n2_; have BK590 := n3_; have HB := n4_; clear n0_ n1_ n2_ n3_ n4_; (try clear hb); (try clear hb2); (try clear hk); (try clear hi)) | ((with_reducible refine gate_dst (N := 12) rfl ?_); refine box_event ?hg (N := 12) ?hd (cs := #[.bool false, .string (⟨#[]⟩ : ByteArray), .int .i64 0]) (t := 30) ?hr ?_; (case hd => rfl); (case hg => rfl); (case hr => first | (go_simp; done) | (go_simp; rfl)); intro gb594 hg w49 hbox hb; have n0_ := bb_ BK577 hb; have n1_ := bb_ BK578 hb; have n2_ := bb_ BK586 hb; have n3_ := bb_ BK590 hb; have n4_ := Aside0.mk (below_step (bl_ HB).out hb); have n5_ := Aside0.mk (hbox); have n6_ := Aside0.mk ((by rw [hg]; exact (below_size (bl_ HB).out) : w.heap.size ≤ gb594)); have n7_ := Aside0.mk ((by rw [hg]; exact (below_size (bl_ HB).out) : w.heap.size ≤ gb594)); have n8_ := Aside0.mk ((by rw [hg]; exact Nat.ne_of_lt (blk_lt (g := gb577) (o := .cells #[.bool a0_0, .slice A0_1 l0_1.length c0_1, .int .i64 a0_2] 24 (0, 0)) (by (with_reducible repeat (first | refine blk_drewN ?_ _ | refine blk_drew ?_ | refine blk_alloc ?_ _)); exact BK577.out)) : gb577 ≠ gb594)); have n9_ := Aside0.mk ((by rw [hg]; exact Nat.ne_of_gt (blk_lt (g := gb577) (o := .cells #[.bool a0_0, .slice A0_1 l0_1.length c0_1, .int .i64 a0_2] 24 (0, 0)) (by (with_reducible repeat (first | refine blk_drewN ?_ _ | refine blk_drew ?_ | refine blk_alloc ?_ _)); exact BK577.out)) : gb594 ≠ gb577)); have n10_ := Aside0.mk ((by rw [hg]; exact Nat.ne_of_lt (blk_lt (g := gb578) (o := .cells #[.bool a1_0, .slice A1_1 l1_1.length c1_1, .int .i64 a1_2] 24 (0, 0)) (by (with_reducible repeat (first | refine blk_drewN ?_ _ | refine blk_drew ?_ | refine blk_alloc ?_ _)); exact BK578.out)) : gb578 ≠ gb594)); have n11_ := Aside0.mk ((by rw [hg]; exact Nat.ne_of_gt (blk_lt (g := gb578) (o := .cells #[.bool a1_0, .slice A1_1 l1_1.length c1_1, .int .i64 a1_2] 24 (0, 0)) (by (with_reducible repeat (first | refine blk_drewN ?_ _ | refine blk_drew ?_ | refine blk_alloc ?_ _)); exact BK578.out)) : gb594 ≠ gb578)); have n12_ := Aside0.mk ((by rw [hg]; exact Nat.ne_of_lt (blk_lt (g := gb586) (o := .cells #[.bool t583, .string t584, .int .i64 t585] 30 (0, 0)) (by (with_reducible repeat (first | refine blk_drewN ?_ _ | refine blk_drew ?_ | refine blk_alloc ?_ _)); exact BK586.out)) : gb586 ≠ gb594)); have n13_ := Aside0.mk ((by rw [hg]; exact Nat.ne_of_gt (blk_lt (g := gb586) (o := .cells #[.bool t583, .string t584, .int .i64 t585] 30 (0, 0)) (by (with_reducible repeat (first | refine blk_drewN ?_ _ | refine blk_drew ?_ | refine blk_alloc ?_ _)); exact BK586.out)) : gb594 ≠ gb586)); have n14_ := Aside0.mk ((by rw [hg]; exact Nat.ne_of_lt (blk_lt (g := gb590) (o := .cells #[.bool t587, .string t588, .int .i64 t589] 30 (0, 0)) (by (with_reducible repeat (first | refine blk_drewN ?_ _ | refine blk_drew ?_ | refine blk_alloc ?_ _)); exact BK590.out)) : gb590 ≠ gb594)); have n15_ := Aside0.mk ((by rw [hg]; exact Nat.ne_of_gt (blk_lt (g := gb590) (o := .cells #[.bool t587, .string t588, .int .i64 t589] 30 (0, 0)) (by (with_reducible repeat (first | refine blk_drewN ?_ _ | refine blk_drew ?_ | refine blk_alloc ?_ _)); exact BK590.out)) : gb594 ≠ gb590)); clear BK577; clear BK578; clear BK586; clear BK590; clear HB; have BK577 := n0_; have BK578 := n1_; have BK586 := n2_; have BK590 := n3_; have HB := n4_; have BK594 := n5_; have GW594 := n6_; have GE594 := n7_; have NB577_594 := n8_; have NB594_577 := n9_; have NB578_594 := n10_; have NB594_578 := n11_; have NB586_594 := n12_; have NB594_586 := n13_; have NB590_594 := n14_; have NB594_590 := n15_; clear n0_ n1_ n2_ n3_ n4_ n5_ n6_ n7_ n8_ n9_ n10_ n11_ n12_ n13_ n14_ n15_; clear hb hbox hg; have hnb50 := NB594_577.out; have hnc50 := NB577_594.out; have hnb51 := NB594_578.out; have hnc51 := NB578_594.out; have hnb52 := NB594_586.out; have hnc52 := NB586_594.out; have hnb53 := NB594_590.out; have hnc53 := NB590_594.out; have hcz54_0 : w49.cell? ⟨gb594, 0, none⟩ = some (.bool false) := bc_ BK594 0; have hcz54_1 : w49.cell? ⟨gb594, 1, none⟩ = some (.string (⟨#[]⟩ : ByteArray)) := bc_ BK594 1; have hcz54_2 : w49.cell? ⟨gb594, 2, none⟩ = some (.int .i64 0) := bc_ BK594 2; have hfz54_0 := blk_frozen BK594.out 0; have hfz54_1 := blk_frozen BK594.out 1; have hfz54_2 := blk_frozen BK594.out 2; have hcz55_0 : w49.cell? ⟨gb590, 0, none⟩ = some (.bool t587) := bc_ BK590 0; have hcz55_1 : w49.cell? ⟨gb590, 1, none⟩ = some (.string t588) := bc_ BK590 1; have hcz55_2 : w49.cell? ⟨gb590, 2, none⟩ = some (.int .i64 t589) := bc_ BK590 2; have hfz55_0 := blk_frozen BK590.out 0; have hfz55_1 := blk_frozen BK590.out 1; have hfz55_2 := blk_frozen BK590.out 2) | ((with_reducible refine gate_callee (f := 13) rfl ?_); refine goesL_ (some 47) rfl rfl Tryd.func13 (by kernel_rfl) rfl #[.agg #[.bool t587, .string t588, .int .i64 t589], .int .i64 (wrap64 ((Int.tmod a2 60) - (wrap64 (Int.tdiv (Int.tmod a2 60) 2)))), .int .i64 t582] rfl (by (try simp only [List.map_toArray, List.map_cons, List.map_nil]); first | done | rfl | (simp only [List.length_drop, List.length_take]; rfl) | (have z_ : ∀ s_ : ByteArray, s_.size ≤ 9223372036854775807 → -(s_.size : Int) = wrap64 (-(s_.size : Int)) := (fun s_ h_ => by unfold wrap64; omega); rw [← z_ _ (by omega)]; rfl) | (simp only [ByteArray.size_append]; rfl)) ?_; (with_reducible refine (round_At.calls kj6 t587 t588 t589 (wrap64 ((Int.tmod a2 60) - (wrap64 (Int.tdiv (Int.tmod a2 60) 2)))) t582 t595 t596 t597 _ A27.out).mono ?_); rintro e w56 ⟨rfl, hb⟩; refine ⟨_, rfl, ?_⟩; have n0_ := Aside0.mk (blk_below (g := gb577) (o := .cells #[.bool a0_0, .slice A0_1 l0_1.length c0_1, .int .i64 a0_2] 24 (0, 0)) (by (with_reducible repeat (first | refine blk_drewN ?_ _ | refine blk_drew ?_ | refine blk_alloc ?_ _)); refine blk_far ?_ NB577_594.out _; (with_reducible repeat (first | refine blk_drewN ?_ _ | refine blk_drew ?_ | refine blk_alloc ?_ _)); refine blk_far ?_ NB577_594.out _; (with_reducible repeat (first | refine blk_drewN ?_ _ | refine blk_drew ?_ | refine blk_alloc ?_ _)); refine blk_far ?_ NB577_594.out _; (with_reducible repeat (first | refine blk_drewN ?_ _ | refine blk_drew ?_ | refine blk_alloc ?_ _)); exact BK577.out) hb); have n1_ := Aside0.mk (blk_below (g := gb578) (o := .cells #[.bool a1_0, .slice A1_1 l1_1.length c1_1, .int .i64 a1_2] 24 (0, 0)) (by (with_reducible repeat (first | refine blk_drewN ?_ _ | refine blk_drew ?_ | refine blk_alloc ?_ _)); refine blk_far ?_ NB578_594.out _; (with_reducible repeat (first | refine blk_drewN ?_ _ | refine blk_drew ?_ | refine blk_alloc ?_ _)); refine blk_far ?_ NB578_594.out _; (with_reducible repeat (first | refine blk_drewN ?_ _ | refine blk_drew ?_ | refine blk_alloc ?_ _)); refine blk_far ?_ NB578_594.out _; (with_reducible repeat (first | refine blk_drewN ?_ _ | refine blk_drew ?_ | refine blk_alloc ?_ _)); exact BK578.out) hb); have n2_ := Aside0.mk (blk_below (g := gb586) (o := .cells #[.bool t583, .string t584, .int .i64 t585] 30 (0, 0)) (by (with_reducible repeat (first | refine blk_drewN ?_ _ | refine blk_drew ?_ | refine blk_alloc ?_ _)); refine blk_far ?_ NB586_594.out _; (with_reducible repeat (first | refine blk_drewN ?_ _ | refine blk_drew ?_ | refine blk_alloc ?_ _)); refine blk_far ?_ NB586_594.out _; (with_reducible repeat (first | refine blk_drewN ?_ _ | refine blk_drew ?_ | refine blk_alloc ?_ _)); refine blk_far ?_ NB586_594.out _; (with_reducible repeat (first | refine blk_drewN ?_ _ | refine blk_drew ?_ | refine blk_alloc ?_ _)); exact BK586.out) hb); have n3_ := Aside0.mk (blk_below (g := gb590) (o := .cells #[.bool t587, .string t588, .int .i64 t589] 30 (0, 0)) (by (with_reducible repeat (first | refine blk_drewN ?_ _ | refine blk_drew ?_ | refine blk_alloc ?_ _)); refine blk_far ?_ NB590_594.out _; (with_reducible repeat (first | refine blk_drewN ?_ _ | refine blk_drew ?_ | refine blk_alloc ?_ _)); refine blk_far ?_ NB590_594.out _; (with_reducible repeat (first | refine blk_drewN ?_ _ | refine blk_drew ?_ | refine blk_alloc ?_ _)); refine blk_far ?_ NB590_594.out _; (with_reducible repeat (first | refine blk_drewN ?_ _ | refine blk_drew ?_ | refine blk_alloc ?_ _)); exact BK590.out) hb); have n4_ := Aside0.mk (blk_below (g := gb594) (o := .cells #[.bool t591, .string t592, .int .i64 t593] 30 (0, 0)) (by (with_reducible repeat (first | refine blk_drewN ?_ _ | refine blk_drew ?_ | refine blk_alloc ?_ _)); refine blk_put (cs := #[.bool t591, .string t592, .int .i64 0]) ?_ 2 _ rfl; (with_reducible repeat (first | refine blk_drewN ?_ _ | refine blk_drew ?_ | refine blk_alloc ?_ _)); refine blk_put (cs := #[.bool t591, .string (⟨#[]⟩ : ByteArray), .int .i64 0]) ?_ 1 _ rfl; (with_reducible repeat (first | refine blk_drewN ?_ _ | refine blk_drew ?_ | refine blk_alloc ?_ _)); refine blk_put (cs := #[.bool false, .string (⟨#[]⟩ : ByteArray), .int .i64 0]) ?_ 0 _ rfl; (with_reducible repeat (first | refine blk_drewN ?_ _ | refine blk_drew ?_ | refine blk_alloc ?_ _)); exact BK594.out) hb); have n5_ := Aside0.mk (below_step (bl_ HB).out hb); clear BK577; clear BK578; clear BK586; clear BK590; clear BK594; clear HB; have BK577 := n0_; have BK578 := n1_; have BK586 := n2_; have BK590 := n3_; have BK594 := n4_; have HB := n5_; clear n0_ n1_ n2_ n3_ n4_ n5_; (try clear hb); (try clear hb2); (try clear hk); (try clear hi)) | ((with_reducible refine gate_dst (N := 13) rfl ?_); refine box_event ?hg (N := 13) ?hd (cs := #[.bool false, .string (⟨#[]⟩ : ByteArray), .int .i64 0]) (t := 30) ?hr ?_; (case hd => rfl); (case hg => rfl); (case hr => first | (go_simp; done) | (go_simp; rfl)); intro gb598 hg w57 hbox hb; have n0_ := bb_ BK577 hb; have n1_ := bb_ BK578 hb; have n2_ := bb_ BK586 hb; have n3_ := bb_ BK590 hb; have n4_ := bb_ BK594 hb; have n5_ := Aside0.mk (below_step (bl_ HB).out hb); have n6_ := Aside0.mk (hbox); have n7_ := Aside0.mk ((by rw [hg]; exact (below_size (bl_ HB).out) : w.heap.size ≤ gb598)); have n8_ := Aside0.mk ((by rw [hg]; exact (below_size (bl_ HB).out) : w.heap.size ≤ gb598)); have n9_ := Aside0.mk ((by rw [hg]; exact Nat.ne_of_lt (blk_lt (g := gb577) (o := .cells #[.bool a0_0, .slice A0_1 l0_1.length c0_1, .int .i64 a0_2] 24 (0, 0)) (by (with_reducible repeat (first | refine blk_drewN ?_ _ | refine blk_drew ?_ | refine blk_alloc ?_ _)); exact BK577.out)) : gb577 ≠ gb598)); have n10_ := Aside0.mk ((by rw [hg]; exact Nat.ne_of_gt (blk_lt (g := gb577) (o := .cells #[.bool a0_0, .slice A0_1 l0_1.length c0_1, .int .i64 a0_2] 24 (0, 0)) (by (with_reducible repeat (first | refine blk_drewN ?_ _ | refine blk_drew ?_ | refine blk_alloc ?_ _)); exact BK577.out)) : gb598 ≠ gb577)); have n11_ := Aside0.mk ((by rw [hg]; exact Nat.ne_of_lt (blk_lt (g := gb578) (o := .cells #[.bool a1_0, .slice A1_1 l1_1.length c1_1, .int .i64 a1_2] 24 (0, 0)) (by (with_reducible repeat (first | refine blk_drewN ?_ _ | refine blk_drew ?_ | refine blk_alloc ?_ _)); exact BK578.out)) : gb578 ≠ gb598)); have n12_ := Aside0.mk ((by rw [hg]; exact Nat.ne_of_gt (blk_lt (g := gb578) (o := .cells #[.bool a1_0, .slice A1_1 l1_1.length c1_1, .int .i64 a1_2] 24 (0, 0)) (by (with_reducible repeat (first | refine blk_drewN ?_ _ | refine blk_drew ?_ | refine blk_alloc ?_ _)); exact BK578.out)) : gb598 ≠ gb578)); have n13_ := Aside0.mk ((by rw [hg]; exact Nat.ne_of_lt (blk_lt (g := gb586) (o := .cells #[.bool t583, .string t584, .int .i64 t585] 30 (0, 0)) (by (with_reducible repeat (first | refine blk_drewN ?_ _ | refine blk_drew ?_ | refine blk_alloc ?_ _)); exact BK586.out)) : gb586 ≠ gb598)); have n14_ := Aside0.mk ((by rw [hg]; exact Nat.ne_of_gt (blk_lt (g := gb586) (o := .cells #[.bool t583, .string t584, .int .i64 t585] 30 (0, 0)) (by (with_reducible repeat (first | refine blk_drewN ?_ _ | refine blk_drew ?_ | refine blk_alloc ?_ _)); exact BK586.out)) : gb598 ≠ gb586)); have n15_ := Aside0.mk ((by rw [hg]; exact Nat.ne_of_lt (blk_lt (g := gb590) (o := .cells #[.bool t587, .string t588, .int .i64 t589] 30 (0, 0)) (by (with_reducible repeat (first | refine blk_drewN ?_ _ | refine blk_drew ?_ | refine blk_alloc ?_ _)); exact BK590.out)) : gb590 ≠ gb598)); have n16_ := Aside0.mk ((by rw [hg]; exact Nat.ne_of_gt (blk_lt (g := gb590) (o := .cells #[.bool t587, .string t588, .int .i64 t589] 30 (0, 0)) (by (with_reducible repeat (first | refine blk_drewN ?_ _ | refine blk_drew ?_ | refine blk_alloc ?_ _)); exact BK590.out)) : gb598 ≠ gb590)); have n17_ := Aside0.mk ((by rw [hg]; exact Nat.ne_of_lt (blk_lt (g := gb594) (o := .cells #[.bool t591, .string t592, .int .i64 t593] 30 (0, 0)) (by (with_reducible repeat (first | refine blk_drewN ?_ _ | refine blk_drew ?_ | refine blk_alloc ?_ _)); exact BK594.out)) : gb594 ≠ gb598)); have n18_ := Aside0.mk ((by rw [hg]; exact Nat.ne_of_gt (blk_lt (g := gb594) (o := .cells #[.bool t591, .string t592, .int .i64 t593] 30 (0, 0)) (by (with_reducible repeat (first | refine blk_drewN ?_ _ | refine blk_drew ?_ | refine blk_alloc ?_ _)); exact BK594.out)) : gb598 ≠ gb594)); clear BK577; clear BK578; clear BK586; clear BK590; clear BK594; clear HB; have BK577 := n0_; have BK578 := n1_; have BK586 := n2_; have BK590 := n3_; have BK594 := n4_; have HB := n5_; have BK598 := n6_; have GW598 := n7_; have GE598 := n8_; have NB577_598 := n9_; have NB598_577 := n10_; have NB578_598 := n11_; have NB598_578 := n12_; have NB586_598 := n13_; have NB598_586 := n14_; have NB590_598 := n15_; have NB598_590 := n16_; have NB594_598 := n17_; have NB598_594 := n18_; clear n0_ n1_ n2_ n3_ n4_ n5_ n6_ n7_ n8_ n9_ n10_ n11_ n12_ n13_ n14_ n15_ n16_ n17_ n18_; clear hb hbox hg; have hnb58 := NB598_577.out; have hnc58 := NB577_598.out; have hnb59 := NB598_578.out; have hnc59 := NB578_598.out; have hnb60 := NB598_586.out; have hnc60 := NB586_598.out; have hnb61 := NB598_590.out; have hnc61 := NB590_598.out; have hnb62 := NB598_594.out; have hnc62 := NB594_598.out; have hcz63_0 : w57.cell? ⟨gb598, 0, none⟩ = some (.bool false) := bc_ BK598 0; have hcz63_1 : w57.cell? ⟨gb598, 1, none⟩ = some (.string (⟨#[]⟩ : ByteArray)) := bc_ BK598 1; have hcz63_2 : w57.cell? ⟨gb598, 2, none⟩ = some (.int .i64 0) := bc_ BK598 2; have hfz63_0 := blk_frozen BK598.out 0; have hfz63_1 := blk_frozen BK598.out 1; have hfz63_2 := blk_frozen BK598.out 2) | ((with_reducible refine gate_callee (f := 23) rfl ?_); refine goesL_ (some 49) rfl rfl Tryd.func23 (by kernel_rfl) rfl #[.bool false, .string (⟨#[50, 53]⟩ : ByteArray), .int .i64 (wrap64 ((Int.tmod a2 60) - (wrap64 (Int.tdiv (Int.tmod a2 60) 2))))] rfl (by (try simp only [List.map_toArray, List.map_cons, List.map_nil]); first | done | rfl | (simp only [List.length_drop, List.length_take]; rfl) | (have z_ : ∀ s_ : ByteArray, s_.size ≤ 9223372036854775807 → -(s_.size : Int) = wrap64 (-(s_.size : Int)) := (fun s_ h_ => by unfold wrap64; omega); rw [← z_ _ (by omega)]; rfl) | (simp only [ByteArray.size_append]; rfl)) ?_; (with_reducible refine (dec_Made.calls kj6 false (⟨#[50, 53]⟩ : ByteArray) (wrap64 ((Int.tmod a2 60) - (wrap64 (Int.tdiv (Int.tmod a2 60) 2)))) t599 t600 t601 _ A28.out).mono ?_); rintro e w64 ⟨rfl, hb⟩; refine ⟨_, rfl, ?_⟩; have n0_ := Aside0.mk (blk_below (g := gb577) (o := .cells #[.bool a0_0, .slice A0_1 l0_1.length c0_1, .int .i64 a0_2] 24 (0, 0)) (by (with_reducible repeat (first | refine blk_drewN ?_ _ | refine blk_drew ?_ | refine blk_alloc ?_ _)); refine blk_far ?_ NB577_598.out _; (with_reducible repeat (first | refine blk_drewN ?_ _ | refine blk_drew ?_ | refine blk_alloc ?_ _)); refine blk_far ?_ NB577_598.out _; (with_reducible repeat (first | refine blk_drewN ?_ _ | refine blk_drew ?_ | refine blk_alloc ?_ _)); refine blk_far ?_ NB577_598.out _; (with_reducible repeat (first | refine blk_drewN ?_ _ | refine blk_drew ?_ | refine blk_alloc ?_ _)); exact BK577.out) hb); have n1_ := Aside0.mk (blk_below (g := gb578) (o := .cells #[.bool a1_0, .slice A1_1 l1_1.length c1_1, .int .i64 a1_2] 24 (0, 0)) (by (with_reducible repeat (first | refine blk_drewN ?_ _ | refine blk_drew ?_ | refine blk_alloc ?_ _)); refine blk_far ?_ NB578_598.out _; (with_reducible repeat (first | refine blk_drewN ?_ _ | refine blk_drew ?_ | refine blk_alloc ?_ _)); refine blk_far ?_ NB578_598.out _; (with_reducible repeat (first | refine blk_drewN ?_ _ | refine blk_drew ?_ | refine blk_alloc ?_ _)); refine blk_far ?_ NB578_598.out _; (with_reducible repeat (first | refine blk_drewN ?_ _ | refine blk_drew ?_ | refine blk_alloc ?_ _)); exact BK578.out) hb); have n2_ := Aside0.mk (blk_below (g := gb586) (o := .cells #[.bool t583, .string t584, .int .i64 t585] 30 (0, 0)) (by (with_reducible repeat (first | refine blk_drewN ?_ _ | refine blk_drew ?_ | refine blk_alloc ?_ _)); refine blk_far ?_ NB586_598.out _; (with_reducible repeat (first | refine blk_drewN ?_ _ | refine blk_drew ?_ | refine blk_alloc ?_ _)); refine blk_far ?_ NB586_598.out _; (with_reducible repeat (first | refine blk_drewN ?_ _ | refine blk_drew ?_ | refine blk_alloc ?_ _)); refine blk_far ?_ NB586_598.out _; (with_reducible repeat (first | refine blk_drewN ?_ _ | refine blk_drew ?_ | refine blk_alloc ?_ _)); exact BK586.out) hb); have n3_ := Aside0.mk (blk_below (g := gb590) (o := .cells #[.bool t587, .string t588, .int .i64 t589] 30 (0, 0)) (by (with_reducible repeat (first | refine blk_drewN ?_ _ | refine blk_drew ?_ | refine blk_alloc ?_ _)); refine blk_far ?_ NB590_598.out _; (with_reducible repeat (first | refine blk_drewN ?_ _ | refine blk_drew ?_ | refine blk_alloc ?_ _)); refine blk_far ?_ NB590_598.out _; (with_reducible repeat (first | refine blk_drewN ?_ _ | refine blk_drew ?_ | refine blk_alloc ?_ _)); refine blk_far ?_ NB590_598.out _; (with_reducible repeat (first | refine blk_drewN ?_ _ | refine blk_drew ?_ | refine blk_alloc ?_ _)); exact BK590.out) hb); have n4_ := Aside0.mk (blk_below (g := gb594) (o := .cells #[.bool t591, .string t592, .int .i64 t593] 30 (0, 0)) (by (with_reducible repeat (first | refine blk_drewN ?_ _ | refine blk_drew ?_ | refine blk_alloc ?_ _)); refine blk_far ?_ NB594_598.out _; (with_reducible repeat (first | refine blk_drewN ?_ _ | refine blk_drew ?_ | refine blk_alloc ?_ _)); refine blk_far ?_ NB594_598.out _; (with_reducible repeat (first | refine blk_drewN ?_ _ | refine blk_drew ?_ | refine blk_alloc ?_ _)); refine blk_far ?_ NB594_598.out _; (with_reducible repeat (first | refine blk_drewN ?_ _ | refine blk_drew ?_ | refine blk_alloc ?_ _)); exact BK594.out) hb); have n5_ := Aside0.mk (blk_below (g := gb598) (o := .cells #[.bool t595, .string t596, .int .i64 t597] 30 (0, 0)) (by (with_reducible repeat (first | refine blk_drewN ?_ _ | refine blk_drew ?_ | refine blk_alloc ?_ _)); refine blk_put (cs := #[.bool t595, .string t596, .int .i64 0]) ?_ 2 _ rfl; (with_reducible repeat (first | refine blk_drewN ?_ _ | refine blk_drew ?_ | refine blk_alloc ?_ _)); refine blk_put (cs := #[.bool t595, .string (⟨#[]⟩ : ByteArray), .int .i64 0]) ?_ 1 _ rfl; (with_reducible repeat (first | refine blk_drewN ?_ _ | refine blk_drew ?_ | refine blk_alloc ?_ _)); refine blk_put (cs := #[.bool false, .string (⟨#[]⟩ : ByteArray), .int .i64 0]) ?_ 0 _ rfl; (with_reducible repeat (first | refine blk_drewN ?_ _ | refine blk_drew ?_ | refine blk_alloc ?_ _)); exact BK598.out) hb); have n6_ := Aside0.mk (below_step (bl_ HB).out hb); clear BK577; clear BK578; clear BK586; clear BK590; clear BK594; clear BK598; clear HB; have BK577 := n0_; have BK578 := n1_; have BK586 := n2_; have BK590 := n3_; have BK594 := n4_; have BK598 := n5_; have HB := n6_; clear n0_ n1_ n2_ n3_ n4_ n5_ n6_; (try clear hb); (try clear hb2); (try clear hk); (try clear hi)) | ((with_reducible refine gate_dst (N := 14) rfl ?_); refine box_event ?hg (N := 14) ?hd (cs := #[.bool false, .string (⟨#[]⟩ : ByteArray), .int .i64 0]) (t := 30) ?hr ?_; (case hd => rfl); (case hg => rfl); (case hr => first | (go_simp; done) | (go_simp; rfl)); intro gb602 hg w65 hbox hb; have n0_ := bb_ BK577 hb; have n1_ := bb_ BK578 hb; have n2_ := bb_ BK586 hb; have n3_ := bb_ BK590 hb; have n4_ := bb_ BK594 hb; have n5_ := bb_ BK598 hb; have n6_ := Aside0.mk (below_step (bl_ HB).out hb); have n7_ := Aside0.mk (hbox); have n8_ := Aside0.mk ((by rw [hg]; exact (below_size (bl_ HB).out) : w.heap.size ≤ gb602)); have n9_ := Aside0.mk ((by rw [hg]; exact (below_size (bl_ HB).out) : w.heap.size ≤ gb602)); have n10_ := Aside0.mk ((by rw [hg]; exact Nat.ne_of_lt (blk_lt (g := gb577) (o := .cells #[.bool a0_0, .slice A0_1 l0_1.length c0_1, .int .i64 a0_2] 24 (0, 0)) (by (with_reducible repeat (first | refine blk_drewN ?_ _ | refine blk_drew ?_ | refine blk_alloc ?_ _)); exact BK577.out)) : gb577 ≠ gb602)); have n11_ := Aside0.mk ((by rw [hg]; exact Nat.ne_of_gt (blk_lt (g := gb577) (o := .cells #[.bool a0_0, .slice A0_1 l0_1.length c0_1, .int .i64 a0_2] 24 (0, 0)) (by (with_reducible repeat (first | refine blk_drewN ?_ _ | refine blk_drew ?_ | refine blk_alloc ?_ _)); exact BK577.out)) : gb602 ≠ gb577)); have n12_ := Aside0.mk ((by rw [hg]; exact Nat.ne_of_lt (blk_lt (g := gb578) (o := .cells #[.bool a1_0, .slice A1_1 l1_1.length c1_1, .int .i64 a1_2] 24 (0, 0)) (by (with_reducible repeat (first | refine blk_drewN ?_ _ | refine blk_drew ?_ | refine blk_alloc ?_ _)); exact BK578.out)) : gb578 ≠ gb602)); have n13_ := Aside0.mk ((by rw [hg]; exact Nat.ne_of_gt (blk_lt (g := gb578) (o := .cells #[.bool a1_0, .slice A1_1 l1_1.length c1_1, .int .i64 a1_2] 24 (0, 0)) (by (with_reducible repeat (first | refine blk_drewN ?_ _ | refine blk_drew ?_ | refine blk_alloc ?_ _)); exact BK578.out)) : gb602 ≠ gb578)); have n14_ := Aside0.mk ((by rw [hg]; exact Nat.ne_of_lt (blk_lt (g := gb586) (o := .cells #[.bool t583, .string t584, .int .i64 t585] 30 (0, 0)) (by (with_reducible repeat (first | refine blk_drewN ?_ _ | refine blk_drew ?_ | refine blk_alloc ?_ _)); exact BK586.out)) : gb586 ≠ gb602)); have n15_ := Aside0.mk ((by rw [hg]; exact Nat.ne_of_gt (blk_lt (g := gb586) (o := .cells #[.bool t583, .string t584, .int .i64 t585] 30 (0, 0)) (by (with_reducible repeat (first | refine blk_drewN ?_ _ | refine blk_drew ?_ | refine blk_alloc ?_ _)); exact BK586.out)) : gb602 ≠ gb586)); have n16_ := Aside0.mk ((by rw [hg]; exact Nat.ne_of_lt (blk_lt (g := gb590) (o := .cells #[.bool t587, .string t588, .int .i64 t589] 30 (0, 0)) (by (with_reducible repeat (first | refine blk_drewN ?_ _ | refine blk_drew ?_ | refine blk_alloc ?_ _)); exact BK590.out)) : gb590 ≠ gb602)); have n17_ := Aside0.mk ((by rw [hg]; exact Nat.ne_of_gt (blk_lt (g := gb590) (o := .cells #[.bool t587, .string t588, .int .i64 t589] 30 (0, 0)) (by (with_reducible repeat (first | refine blk_drewN ?_ _ | refine blk_drew ?_ | refine blk_alloc ?_ _)); exact BK590.out)) : gb602 ≠ gb590)); have n18_ := Aside0.mk ((by rw [hg]; exact Nat.ne_of_lt (blk_lt (g := gb594) (o := .cells #[.bool t591, .string t592, .int .i64 t593] 30 (0, 0)) (by (with_reducible repeat (first | refine blk_drewN ?_ _ | refine blk_drew ?_ | refine blk_alloc ?_ _)); exact BK594.out)) : gb594 ≠ gb602)); have n19_ := Aside0.mk ((by rw [hg]; exact Nat.ne_of_gt (blk_lt (g := gb594) (o := .cells #[.bool t591, .string t592, .int .i64 t593] 30 (0, 0)) (by (with_reducible repeat (first | refine blk_drewN ?_ _ | refine blk_drew ?_ | refine blk_alloc ?_ _)); exact BK594.out)) : gb602 ≠ gb594)); have n20_ := Aside0.mk ((by rw [hg]; exact Nat.ne_of_lt (blk_lt (g := gb598) (o := .cells #[.bool t595, .string t596, .int .i64 t597] 30 (0, 0)) (by (with_reducible repeat (first | refine blk_drewN ?_ _ | refine blk_drew ?_ | refine blk_alloc ?_ _)); exact BK598.out)) : gb598 ≠ gb602)); have n21_ := Aside0.mk ((by rw [hg]; exact Nat.ne_of_gt (blk_lt (g := gb598) (o := .cells #[.bool t595, .string t596, .int .i64 t597] 30 (0, 0)) (by (with_reducible repeat (first | refine blk_drewN ?_ _ | refine blk_drew ?_ | refine blk_alloc ?_ _)); exact BK598.out)) : gb602 ≠ gb598)); clear BK577; clear BK578; clear BK586; clear BK590; clear BK594; clear BK598; clear HB; have BK577 := n0_; have BK578 := n1_; have BK586 := n2_; have BK590 := n3_; have BK594 := n4_; have BK598 := n5_; have HB := n6_; have BK602 := n7_; have GW602 := n8_; have GE602 := n9_; have NB577_602 := n10_; have NB602_577 := n11_; have NB578_602 := n12_; have NB602_578 := n13_; have NB586_602 := n14_; have NB602_586 := n15_; have NB590_602 := n16_; have NB602_590 := n17_; have NB594_602 := n18_; have NB602_594 := n19_; have NB598_602 := n20_; have NB602_598 := n21_; clear n0_ n1_ n2_ n3_ n4_ n5_ n6_ n7_ n8_ n9_ n10_ n11_ n12_ n13_ n14_ n15_ n16_ n17_ n18_ n19_ n20_ n21_; clear hb hbox hg; have hnb66 := NB602_577.out; have hnc66 := NB577_602.out; have hnb67 := NB602_578.out; have hnc67 := NB578_602.out; have hnb68 := NB602_586.out; have hnc68 := NB586_602.out; have hnb69 := NB602_590.out; have hnc69 := NB590_602.out; have hnb70 := NB602_594.out; have hnc70 := NB594_602.out; have hnb71 := NB602_598.out; have hnc71 := NB598_602.out; have hcz72_0 : w65.cell? ⟨gb602, 0, none⟩ = some (.bool false) := bc_ BK602 0; have hcz72_1 : w65.cell? ⟨gb602, 1, none⟩ = some (.string (⟨#[]⟩ : ByteArray)) := bc_ BK602 1; have hcz72_2 : w65.cell? ⟨gb602, 2, none⟩ = some (.int .i64 0) := bc_ BK602 2; have hfz72_0 := blk_frozen BK602.out 0; have hfz72_1 := blk_frozen BK602.out 1; have hfz72_2 := blk_frozen BK602.out 2; have hcz73_0 : w65.cell? ⟨gb586, 0, none⟩ = some (.bool t583) := bc_ BK586 0; have hcz73_1 : w65.cell? ⟨gb586, 1, none⟩ = some (.string t584) := bc_ BK586 1; have hcz73_2 : w65.cell? ⟨gb586, 2, none⟩ = some (.int .i64 t585) := bc_ BK586 2; have hfz73_0 := blk_frozen BK586.out 0; have hfz73_1 := blk_frozen BK586.out 1; have hfz73_2 := blk_frozen BK586.out 2) | ((with_reducible refine gate_callee (f := 26) rfl ?_); refine goesL_ (some 53) rfl rfl Tryd.func26 (by kernel_rfl) rfl #[.agg #[.bool t583, .string t584, .int .i64 t585], .agg #[.bool t599, .string t600, .int .i64 t601], .int .i64 t582] rfl (by (try simp only [List.map_toArray, List.map_cons, List.map_nil]); first | done | rfl | (simp only [List.length_drop, List.length_take]; rfl) | (have z_ : ∀ s_ : ByteArray, s_.size ≤ 9223372036854775807 → -(s_.size : Int) = wrap64 (-(s_.size : Int)) := (fun s_ h_ => by unfold wrap64; omega); rw [← z_ _ (by omega)]; rfl) | (simp only [ByteArray.size_append]; rfl)) ?_; (with_reducible refine (round_Step.calls kj6 t583 t584 t585 t599 t600 t601 t582 t603 t604 t605 _ A29.out).mono ?_); rintro e w74 ⟨rfl, hb⟩; refine ⟨_, rfl, ?_⟩; have n0_ := Aside0.mk (blk_below (g := gb577) (o := .cells #[.bool a0_0, .slice A0_1 l0_1.length c0_1, .int .i64 a0_2] 24 (0, 0)) (by (with_reducible repeat (first | refine blk_drewN ?_ _ | refine blk_drew ?_ | refine blk_alloc ?_ _)); refine blk_far ?_ NB577_602.out _; (with_reducible repeat (first | refine blk_drewN ?_ _ | refine blk_drew ?_ | refine blk_alloc ?_ _)); refine blk_far ?_ NB577_602.out _; (with_reducible repeat (first | refine blk_drewN ?_ _ | refine blk_drew ?_ | refine blk_alloc ?_ _)); refine blk_far ?_ NB577_602.out _; (with_reducible repeat (first | refine blk_drewN ?_ _ | refine blk_drew ?_ | refine blk_alloc ?_ _)); exact BK577.out) hb); have n1_ := Aside0.mk (blk_below (g := gb578) (o := .cells #[.bool a1_0, .slice A1_1 l1_1.length c1_1, .int .i64 a1_2] 24 (0, 0)) (by (with_reducible repeat (first | refine blk_drewN ?_ _ | refine blk_drew ?_ | refine blk_alloc ?_ _)); refine blk_far ?_ NB578_602.out _; (with_reducible repeat (first | refine blk_drewN ?_ _ | refine blk_drew ?_ | refine blk_alloc ?_ _)); refine blk_far ?_ NB578_602.out _; (with_reducible repeat (first | refine blk_drewN ?_ _ | refine blk_drew ?_ | refine blk_alloc ?_ _)); refine blk_far ?_ NB578_602.out _; (with_reducible repeat (first | refine blk_drewN ?_ _ | refine blk_drew ?_ | refine blk_alloc ?_ _)); exact BK578.out) hb); have n2_ := Aside0.mk (blk_below (g := gb586) (o := .cells #[.bool t583, .string t584, .int .i64 t585] 30 (0, 0)) (by (with_reducible repeat (first | refine blk_drewN ?_ _ | refine blk_drew ?_ | refine blk_alloc ?_ _)); refine blk_far ?_ NB586_602.out _; (with_reducible repeat (first | refine blk_drewN ?_ _ | refine blk_drew ?_ | refine blk_alloc ?_ _)); refine blk_far ?_ NB586_602.out _; (with_reducible repeat (first | refine blk_drewN ?_ _ | refine blk_drew ?_ | refine blk_alloc ?_ _)); refine blk_far ?_ NB586_602.out _; (with_reducible repeat (first | refine blk_drewN ?_ _ | refine blk_drew ?_ | refine blk_alloc ?_ _)); exact BK586.out) hb); have n3_ := Aside0.mk (blk_below (g := gb590) (o := .cells #[.bool t587, .string t588, .int .i64 t589] 30 (0, 0)) (by (with_reducible repeat (first | refine blk_drewN ?_ _ | refine blk_drew ?_ | refine blk_alloc ?_ _)); refine blk_far ?_ NB590_602.out _; (with_reducible repeat (first | refine blk_drewN ?_ _ | refine blk_drew ?_ | refine blk_alloc ?_ _)); refine blk_far ?_ NB590_602.out _; (with_reducible repeat (first | refine blk_drewN ?_ _ | refine blk_drew ?_ | refine blk_alloc ?_ _)); refine blk_far ?_ NB590_602.out _; (with_reducible repeat (first | refine blk_drewN ?_ _ | refine blk_drew ?_ | refine blk_alloc ?_ _)); exact BK590.out) hb); have n4_ := Aside0.mk (blk_below (g := gb594) (o := .cells #[.bool t591, .string t592, .int .i64 t593] 30 (0, 0)) (by (with_reducible repeat (first | refine blk_drewN ?_ _ | refine blk_drew ?_ | refine blk_alloc ?_ _)); refine blk_far ?_ NB594_602.out _; (with_reducible repeat (first | refine blk_drewN ?_ _ | refine blk_drew ?_ | refine blk_alloc ?_ _)); refine blk_far ?_ NB594_602.out _; (with_reducible repeat (first | refine blk_drewN ?_ _ | refine blk_drew ?_ | refine blk_alloc ?_ _)); refine blk_far ?_ NB594_602.out _; (with_reducible repeat (first | refine blk_drewN ?_ _ | refine blk_drew ?_ | refine blk_alloc ?_ _)); exact BK594.out) hb); have n5_ := Aside0.mk (blk_below (g := gb598) (o := .cells #[.bool t595, .string t596, .int .i64 t597] 30 (0, 0)) (by (with_reducible repeat (first | refine blk_drewN ?_ _ | refine blk_drew ?_ | refine blk_alloc ?_ _)); refine blk_far ?_ NB598_602.out _; (with_reducible repeat (first | refine blk_drewN ?_ _ | refine blk_drew ?_ | refine blk_alloc ?_ _)); refine blk_far ?_ NB598_602.out _; (with_reducible repeat (first | refine blk_drewN ?_ _ | refine blk_drew ?_ | refine blk_alloc ?_ _)); refine blk_far ?_ NB598_602.out _; (with_reducible repeat (first | refine blk_drewN ?_ _ | refine blk_drew ?_ | refine blk_alloc ?_ _)); exact BK598.out) hb); have n6_ := Aside0.mk (blk_below (g := gb602) (o := .cells #[.bool t599, .string t600, .int .i64 t601] 30 (0, 0)) (by (with_reducible repeat (first | refine blk_drewN ?_ _ | refine blk_drew ?_ | refine blk_alloc ?_ _)); refine blk_put (cs := #[.bool t599, .string t600, .int .i64 0]) ?_ 2 _ rfl; (with_reducible repeat (first | refine blk_drewN ?_ _ | refine blk_drew ?_ | refine blk_alloc ?_ _)); refine blk_put (cs := #[.bool t599, .string (⟨#[]⟩ : ByteArray), .int .i64 0]) ?_ 1 _ rfl; (with_reducible repeat (first | refine blk_drewN ?_ _ | refine blk_drew ?_ | refine blk_alloc ?_ _)); refine blk_put (cs := #[.bool false, .string (⟨#[]⟩ : ByteArray), .int .i64 0]) ?_ 0 _ rfl; (with_reducible repeat (first | refine blk_drewN ?_ _ | refine blk_drew ?_ | refine blk_alloc ?_ _)); exact BK602.out) hb); have n7_ := Aside0.mk (below_step (bl_ HB).out hb); clear BK577; clear BK578; clear BK586; clear BK590; clear BK594; clear BK598; clear BK602; clear HB; have BK577 := n0_; have BK578 := n1_; have BK586 := n2_; have BK590 := n3_; have BK594 := n4_; have BK598 := n5_; have BK602 := n6_; have HB := n7_; clear n0_ n1_ n2_ n3_ n4_ n5_ n6_ n7_; (try clear hb); (try clear hb2); (try clear hk); (try clear hi)) | ((with_reducible refine gate_dst (N := 15) rfl ?_); refine box_event ?hg (N := 15) ?hd (cs := #[.bool false, .string (⟨#[]⟩ : ByteArray), .int .i64 0]) (t := 30) ?hr ?_; (case hd => rfl); (case hg => rfl); (case hr => first | (go_simp; done) | (go_simp; rfl)); intro gb606 hg w75 hbox hb; have n0_ := bb_ BK577 hb; have n1_ := bb_ BK578 hb; have n2_ := bb_ BK586 hb; have n3_ := bb_ BK590 hb; have n4_ := bb_ BK594 hb; have n5_ := bb_ BK598 hb; have n6_ := bb_ BK602 hb; have n7_ := Aside0.mk (below_step (bl_ HB).out hb); have n8_ := Aside0.mk (hbox); have n9_ := Aside0.mk ((by rw [hg]; exact (below_size (bl_ HB).out) : w.heap.size ≤ gb606)); have n10_ := Aside0.mk ((by rw [hg]; exact (below_size (bl_ HB).out) : w.heap.size ≤ gb606)); have n11_ := Aside0.mk ((by rw [hg]; exact Nat.ne_of_lt (blk_lt (g := gb577) (o := .cells #[.bool a0_0, .slice A0_1 l0_1.length c0_1, .int .i64 a0_2] 24 (0, 0)) (by (with_reducible repeat (first | refine blk_drewN ?_ _ | refine blk_drew ?_ | refine blk_alloc ?_ _)); exact BK577.out)) : gb577 ≠ gb606)); have n12_ := Aside0.mk ((by rw [hg]; exact Nat.ne_of_gt (blk_lt (g := gb577) (o := .cells #[.bool a0_0, .slice A0_1 l0_1.length c0_1, .int .i64 a0_2] 24 (0, 0)) (by (with_reducible repeat (first | refine blk_drewN ?_ _ | refine blk_drew ?_ | refine blk_alloc ?_ _)); exact BK577.out)) : gb606 ≠ gb577)); have n13_ := Aside0.mk ((by rw [hg]; exact Nat.ne_of_lt (blk_lt (g := gb578) (o := .cells #[.bool a1_0, .slice A1_1 l1_1.length c1_1, .int .i64 a1_2] 24 (0, 0)) (by (with_reducible repeat (first | refine blk_drewN ?_ _ | refine blk_drew ?_ | refine blk_alloc ?_ _)); exact BK578.out)) : gb578 ≠ gb606)); have n14_ := Aside0.mk ((by rw [hg]; exact Nat.ne_of_gt (blk_lt (g := gb578) (o := .cells #[.bool a1_0, .slice A1_1 l1_1.length c1_1, .int .i64 a1_2] 24 (0, 0)) (by (with_reducible repeat (first | refine blk_drewN ?_ _ | refine blk_drew ?_ | refine blk_alloc ?_ _)); exact BK578.out)) : gb606 ≠ gb578)); have n15_ := Aside0.mk ((by rw [hg]; exact Nat.ne_of_lt (blk_lt (g := gb586) (o := .cells #[.bool t583, .string t584, .int .i64 t585] 30 (0, 0)) (by (with_reducible repeat (first | refine blk_drewN ?_ _ | refine blk_drew ?_ | refine blk_alloc ?_ _)); exact BK586.out)) : gb586 ≠ gb606)); have n16_ := Aside0.mk ((by rw [hg]; exact Nat.ne_of_gt (blk_lt (g := gb586) (o := .cells #[.bool t583, .string t584, .int .i64 t585] 30 (0, 0)) (by (with_reducible repeat (first | refine blk_drewN ?_ _ | refine blk_drew ?_ | refine blk_alloc ?_ _)); exact BK586.out)) : gb606 ≠ gb586)); have n17_ := Aside0.mk ((by rw [hg]; exact Nat.ne_of_lt (blk_lt (g := gb590) (o := .cells #[.bool t587, .string t588, .int .i64 t589] 30 (0, 0)) (by (with_reducible repeat (first | refine blk_drewN ?_ _ | refine blk_drew ?_ | refine blk_alloc ?_ _)); exact BK590.out)) : gb590 ≠ gb606)); have n18_ := Aside0.mk ((by rw [hg]; exact Nat.ne_of_gt (blk_lt (g := gb590) (o := .cells #[.bool t587, .string t588, .int .i64 t589] 30 (0, 0)) (by (with_reducible repeat (first | refine blk_drewN ?_ _ | refine blk_drew ?_ | refine blk_alloc ?_ _)); exact BK590.out)) : gb606 ≠ gb590)); have n19_ := Aside0.mk ((by rw [hg]; exact Nat.ne_of_lt (blk_lt (g := gb594) (o := .cells #[.bool t591, .string t592, .int .i64 t593] 30 (0, 0)) (by (with_reducible repeat (first | refine blk_drewN ?_ _ | refine blk_drew ?_ | refine blk_alloc ?_ _)); exact BK594.out)) : gb594 ≠ gb606)); have n20_ := Aside0.mk ((by rw [hg]; exact Nat.ne_of_gt (blk_lt (g := gb594) (o := .cells #[.bool t591, .string t592, .int .i64 t593] 30 (0, 0)) (by (with_reducible repeat (first | refine blk_drewN ?_ _ | refine blk_drew ?_ | refine blk_alloc ?_ _)); exact BK594.out)) : gb606 ≠ gb594)); have n21_ := Aside0.mk ((by rw [hg]; exact Nat.ne_of_lt (blk_lt (g := gb598) (o := .cells #[.bool t595, .string t596, .int .i64 t597] 30 (0, 0)) (by (with_reducible repeat (first | refine blk_drewN ?_ _ | refine blk_drew ?_ | refine blk_alloc ?_ _)); exact BK598.out)) : gb598 ≠ gb606)); have n22_ := Aside0.mk ((by rw [hg]; exact Nat.ne_of_gt (blk_lt (g := gb598) (o := .cells #[.bool t595, .string t596, .int .i64 t597] 30 (0, 0)) (by (with_reducible repeat (first | refine blk_drewN ?_ _ | refine blk_drew ?_ | refine blk_alloc ?_ _)); exact BK598.out)) : gb606 ≠ gb598)); have n23_ := Aside0.mk ((by rw [hg]; exact Nat.ne_of_lt (blk_lt (g := gb602) (o := .cells #[.bool t599, .string t600, .int .i64 t601] 30 (0, 0)) (by (with_reducible repeat (first | refine blk_drewN ?_ _ | refine blk_drew ?_ | refine blk_alloc ?_ _)); exact BK602.out)) : gb602 ≠ gb606)); have n24_ := Aside0.mk ((by rw [hg]; exact Nat.ne_of_gt (blk_lt (g := gb602) (o := .cells #[.bool t599, .string t600, .int .i64 t601] 30 (0, 0)) (by (with_reducible repeat (first | refine blk_drewN ?_ _ | refine blk_drew ?_ | refine blk_alloc ?_ _)); exact BK602.out)) : gb606 ≠ gb602)); clear BK577; clear BK578; clear BK586; clear BK590; clear BK594; clear BK598; clear BK602; clear HB; have BK577 := n0_; have BK578 := n1_; have BK586 := n2_; have BK590 := n3_; have BK594 := n4_; have BK598 := n5_; have BK602 := n6_; have HB := n7_; have BK606 := n8_; have GW606 := n9_; have GE606 := n10_; have NB577_606 := n11_; have NB606_577 := n12_; have NB578_606 := n13_; have NB606_578 := n14_; have NB586_606 := n15_; have NB606_586 := n16_; have NB590_606 := n17_; have NB606_590 := n18_; have NB594_606 := n19_; have NB606_594 := n20_; have NB598_606 := n21_; have NB606_598 := n22_; have NB602_606 := n23_; have NB606_602 := n24_; clear n0_ n1_ n2_ n3_ n4_ n5_ n6_ n7_ n8_ n9_ n10_ n11_ n12_ n13_ n14_ n15_ n16_ n17_ n18_ n19_ n20_ n21_ n22_ n23_ n24_; clear hb hbox hg; have hnb76 := NB606_577.out; have hnc76 := NB577_606.out; have hnb77 := NB606_578.out; have hnc77 := NB578_606.out; have hnb78 := NB606_586.out; have hnc78 := NB586_606.out; have hnb79 := NB606_590.out; have hnc79 := NB590_606.out; have hnb80 := NB606_594.out; have hnc80 := NB594_606.out; have hnb81 := NB606_598.out; have hnc81 := NB598_606.out; have hnb82 := NB606_602.out; have hnc82 := NB602_606.out; have hcz83_0 : w75.cell? ⟨gb606, 0, none⟩ = some (.bool false) := bc_ BK606 0; have hcz83_1 : w75.cell? ⟨gb606, 1, none⟩ = some (.string (⟨#[]⟩ : ByteArray)) := bc_ BK606 1; have hcz83_2 : w75.cell? ⟨gb606, 2, none⟩ = some (.int .i64 0) := bc_ BK606 2; have hfz83_0 := blk_frozen BK606.out 0; have hfz83_1 := blk_frozen BK606.out 1; have hfz83_2 := blk_frozen BK606.out 2; have hcz84_0 : w75.cell? ⟨gb590, 0, none⟩ = some (.bool t587) := bc_ BK590 0; have hcz84_1 : w75.cell? ⟨gb590, 1, none⟩ = some (.string t588) := bc_ BK590 1; have hcz84_2 : w75.cell? ⟨gb590, 2, none⟩ = some (.int .i64 t589) := bc_ BK590 2; have hfz84_0 := blk_frozen BK590.out 0; have hfz84_1 := blk_frozen BK590.out 1; have hfz84_2 := blk_frozen BK590.out 2; have hcz85_0 : w75.cell? ⟨gb602, 0, none⟩ = some (.bool t599) := bc_ BK602 0; have hcz85_1 : w75.cell? ⟨gb602, 1, none⟩ = some (.string t600) := bc_ BK602 1; have hcz85_2 : w75.cell? ⟨gb602, 2, none⟩ = some (.int .i64 t601) := bc_ BK602 2; have hfz85_0 := blk_frozen BK602.out 0; have hfz85_1 := blk_frozen BK602.out 1; have hfz85_2 := blk_frozen BK602.out 2) | ((with_reducible refine gate_callee (f := 26) rfl ?_); refine goesL_ (some 57) rfl rfl Tryd.func26 (by kernel_rfl) rfl #[.agg #[.bool t587, .string t588, .int .i64 t589], .agg #[.bool t599, .string t600, .int .i64 t601], .int .i64 t582] rfl (by (try simp only [List.map_toArray, List.map_cons, List.map_nil]); first | done | rfl | (simp only [List.length_drop, List.length_take]; rfl) | (have z_ : ∀ s_ : ByteArray, s_.size ≤ 9223372036854775807 → -(s_.size : Int) = wrap64 (-(s_.size : Int)) := (fun s_ h_ => by unfold wrap64; omega); rw [← z_ _ (by omega)]; rfl) | (simp only [ByteArray.size_append]; rfl)) ?_; (with_reducible refine (round_Step.calls kj6 t587 t588 t589 t599 t600 t601 t582 t607 t608 t609 _ A30.out).mono ?_); rintro e w86 ⟨rfl, hb⟩; refine ⟨_, rfl, ?_⟩; have n0_ := Aside0.mk (blk_below (g := gb577) (o := .cells #[.bool a0_0, .slice A0_1 l0_1.length c0_1, .int .i64 a0_2] 24 (0, 0)) (by (with_reducible repeat (first | refine blk_drewN ?_ _ | refine blk_drew ?_ | refine blk_alloc ?_ _)); refine blk_far ?_ NB577_606.out _; (with_reducible repeat (first | refine blk_drewN ?_ _ | refine blk_drew ?_ | refine blk_alloc ?_ _)); refine blk_far ?_ NB577_606.out _; (with_reducible repeat (first | refine blk_drewN ?_ _ | refine blk_drew ?_ | refine blk_alloc ?_ _)); refine blk_far ?_ NB577_606.out _; (with_reducible repeat (first | refine blk_drewN ?_ _ | refine blk_drew ?_ | refine blk_alloc ?_ _)); exact BK577.out) hb); have n1_ := Aside0.mk (blk_below (g := gb578) (o := .cells #[.bool a1_0, .slice A1_1 l1_1.length c1_1, .int .i64 a1_2] 24 (0, 0)) (by (with_reducible repeat (first | refine blk_drewN ?_ _ | refine blk_drew ?_ | refine blk_alloc ?_ _)); refine blk_far ?_ NB578_606.out _; (with_reducible repeat (first | refine blk_drewN ?_ _ | refine blk_drew ?_ | refine blk_alloc ?_ _)); refine blk_far ?_ NB578_606.out _; (with_reducible repeat (first | refine blk_drewN ?_ _ | refine blk_drew ?_ | refine blk_alloc ?_ _)); refine blk_far ?_ NB578_606.out _; (with_reducible repeat (first | refine blk_drewN ?_ _ | refine blk_drew ?_ | refine blk_alloc ?_ _)); exact BK578.out) hb); have n2_ := Aside0.mk (blk_below (g := gb586) (o := .cells #[.bool t583, .string t584, .int .i64 t585] 30 (0, 0)) (by (with_reducible repeat (first | refine blk_drewN ?_ _ | refine blk_drew ?_ | refine blk_alloc ?_ _)); refine blk_far ?_ NB586_606.out _; (with_reducible repeat (first | refine blk_drewN ?_ _ | refine blk_drew ?_ | refine blk_alloc ?_ _)); refine blk_far ?_ NB586_606.out _; (with_reducible repeat (first | refine blk_drewN ?_ _ | refine blk_drew ?_ | refine blk_alloc ?_ _)); refine blk_far ?_ NB586_606.out _; (with_reducible repeat (first | refine blk_drewN ?_ _ | refine blk_drew ?_ | refine blk_alloc ?_ _)); exact BK586.out) hb); have n3_ := Aside0.mk (blk_below (g := gb590) (o := .cells #[.bool t587, .string t588, .int .i64 t589] 30 (0, 0)) (by (with_reducible repeat (first | refine blk_drewN ?_ _ | refine blk_drew ?_ | refine blk_alloc ?_ _)); refine blk_far ?_ NB590_606.out _; (with_reducible repeat (first | refine blk_drewN ?_ _ | refine blk_drew ?_ | refine blk_alloc ?_ _)); refine blk_far ?_ NB590_606.out _; (with_reducible repeat (first | refine blk_drewN ?_ _ | refine blk_drew ?_ | refine blk_alloc ?_ _)); refine blk_far ?_ NB590_606.out _; (with_reducible repeat (first | refine blk_drewN ?_ _ | refine blk_drew ?_ | refine blk_alloc ?_ _)); exact BK590.out) hb); have n4_ := Aside0.mk (blk_below (g := gb594) (o := .cells #[.bool t591, .string t592, .int .i64 t593] 30 (0, 0)) (by (with_reducible repeat (first | refine blk_drewN ?_ _ | refine blk_drew ?_ | refine blk_alloc ?_ _)); refine blk_far ?_ NB594_606.out _; (with_reducible repeat (first | refine blk_drewN ?_ _ | refine blk_drew ?_ | refine blk_alloc ?_ _)); refine blk_far ?_ NB594_606.out _; (with_reducible repeat (first | refine blk_drewN ?_ _ | refine blk_drew ?_ | refine blk_alloc ?_ _)); refine blk_far ?_ NB594_606.out _; (with_reducible repeat (first | refine blk_drewN ?_ _ | refine blk_drew ?_ | refine blk_alloc ?_ _)); exact BK594.out) hb); have n5_ := Aside0.mk (blk_below (g := gb598) (o := .cells #[.bool t595, .string t596, .int .i64 t597] 30 (0, 0)) (by (with_reducible repeat (first | refine blk_drewN ?_ _ | refine blk_drew ?_ | refine blk_alloc ?_ _)); refine blk_far ?_ NB598_606.out _; (with_reducible repeat (first | refine blk_drewN ?_ _ | refine blk_drew ?_ | refine blk_alloc ?_ _)); refine blk_far ?_ NB598_606.out _; (with_reducible repeat (first | refine blk_drewN ?_ _ | refine blk_drew ?_ | refine blk_alloc ?_ _)); refine blk_far ?_ NB598_606.out _; (with_reducible repeat (first | refine blk_drewN ?_ _ | refine blk_drew ?_ | refine blk_alloc ?_ _)); exact BK598.out) hb); have n6_ := Aside0.mk (blk_below (g := gb602) (o := .cells #[.bool t599, .string t600, .int .i64 t601] 30 (0, 0)) (by (with_reducible repeat (first | refine blk_drewN ?_ _ | refine blk_drew ?_ | refine blk_alloc ?_ _)); refine blk_far ?_ NB602_606.out _; (with_reducible repeat (first | refine blk_drewN ?_ _ | refine blk_drew ?_ | refine blk_alloc ?_ _)); refine blk_far ?_ NB602_606.out _; (with_reducible repeat (first | refine blk_drewN ?_ _ | refine blk_drew ?_ | refine blk_alloc ?_ _)); refine blk_far ?_ NB602_606.out _; (with_reducible repeat (first | refine blk_drewN ?_ _ | refine blk_drew ?_ | refine blk_alloc ?_ _)); exact BK602.out) hb); have n7_ := Aside0.mk (blk_below (g := gb606) (o := .cells #[.bool t603, .string t604, .int .i64 t605] 30 (0, 0)) (by (with_reducible repeat (first | refine blk_drewN ?_ _ | refine blk_drew ?_ | refine blk_alloc ?_ _)); refine blk_put (cs := #[.bool t603, .string t604, .int .i64 0]) ?_ 2 _ rfl; (with_reducible repeat (first | refine blk_drewN ?_ _ | refine blk_drew ?_ | refine blk_alloc ?_ _)); refine blk_put (cs := #[.bool t603, .string (⟨#[]⟩ : ByteArray), .int .i64 0]) ?_ 1 _ rfl; (with_reducible repeat (first | refine blk_drewN ?_ _ | refine blk_drew ?_ | refine blk_alloc ?_ _)); refine blk_put (cs := #[.bool false, .string (⟨#[]⟩ : ByteArray), .int .i64 0]) ?_ 0 _ rfl; (with_reducible repeat (first | refine blk_drewN ?_ _ | refine blk_drew ?_ | refine blk_alloc ?_ _)); exact BK606.out) hb); have n8_ := Aside0.mk (below_step (bl_ HB).out hb); clear BK577; clear BK578; clear BK586; clear BK590; clear BK594; clear BK598; clear BK602; clear BK606; clear HB; have BK577 := n0_; have BK578 := n1_; have BK586 := n2_; have BK590 := n3_; have BK594 := n4_; have BK598 := n5_; have BK602 := n6_; have BK606 := n7_; have HB := n8_; clear n0_ n1_ n2_ n3_ n4_ n5_ n6_ n7_ n8_; (try clear hb); (try clear hb2); (try clear hk); (try clear hi)) | ((with_reducible refine gate_dst (N := 16) rfl ?_); refine box_event ?hg (N := 16) ?hd (cs := #[.bool false, .string (⟨#[]⟩ : ByteArray), .int .i64 0]) (t := 30) ?hr ?_; (case hd => rfl); (case hg => rfl); (case hr => first | (go_simp; done) | (go_simp; rfl)); intro gb610 hg w87 hbox hb; have n0_ := bb_ BK577 hb; have n1_ := bb_ BK578 hb; have n2_ := bb_ BK586 hb; have n3_ := bb_ BK590 hb; have n4_ := bb_ BK594 hb; have n5_ := bb_ BK598 hb; have n6_ := bb_ BK602 hb; have n7_ := bb_ BK606 hb; have n8_ := Aside0.mk (below_step (bl_ HB).out hb); have n9_ := Aside0.mk (hbox); have n10_ := Aside0.mk ((by rw [hg]; exact (below_size (bl_ HB).out) : w.heap.size ≤ gb610)); have n11_ := Aside0.mk ((by rw [hg]; exact (below_size (bl_ HB).out) : w.heap.size ≤ gb610)); have n12_ := Aside0.mk ((by rw [hg]; exact Nat.ne_of_lt (blk_lt (g := gb577) (o := .cells #[.bool a0_0, .slice A0_1 l0_1.length c0_1, .int .i64 a0_2] 24 (0, 0)) (by (with_reducible repeat (first | refine blk_drewN ?_ _ | refine blk_drew ?_ | refine blk_alloc ?_ _)); exact BK577.out)) : gb577 ≠ gb610)); have n13_ := Aside0.mk ((by rw [hg]; exact Nat.ne_of_gt (blk_lt (g := gb577) (o := .cells #[.bool a0_0, .slice A0_1 l0_1.length c0_1, .int .i64 a0_2] 24 (0, 0)) (by (with_reducible repeat (first | refine blk_drewN ?_ _ | refine blk_drew ?_ | refine blk_alloc ?_ _)); exact BK577.out)) : gb610 ≠ gb577)); have n14_ := Aside0.mk ((by rw [hg]; exact Nat.ne_of_lt (blk_lt (g := gb578) (o := .cells #[.bool a1_0, .slice A1_1 l1_1.length c1_1, .int .i64 a1_2] 24 (0, 0)) (by (with_reducible repeat (first | refine blk_drewN ?_ _ | refine blk_drew ?_ | refine blk_alloc ?_ _)); exact BK578.out)) : gb578 ≠ gb610)); have n15_ := Aside0.mk ((by rw [hg]; exact Nat.ne_of_gt (blk_lt (g := gb578) (o := .cells #[.bool a1_0, .slice A1_1 l1_1.length c1_1, .int .i64 a1_2] 24 (0, 0)) (by (with_reducible repeat (first | refine blk_drewN ?_ _ | refine blk_drew ?_ | refine blk_alloc ?_ _)); exact BK578.out)) : gb610 ≠ gb578)); have n16_ := Aside0.mk ((by rw [hg]; exact Nat.ne_of_lt (blk_lt (g := gb586) (o := .cells #[.bool t583, .string t584, .int .i64 t585] 30 (0, 0)) (by (with_reducible repeat (first | refine blk_drewN ?_ _ | refine blk_drew ?_ | refine blk_alloc ?_ _)); exact BK586.out)) : gb586 ≠ gb610)); have n17_ := Aside0.mk ((by rw [hg]; exact Nat.ne_of_gt (blk_lt (g := gb586) (o := .cells #[.bool t583, .string t584, .int .i64 t585] 30 (0, 0)) (by (with_reducible repeat (first | refine blk_drewN ?_ _ | refine blk_drew ?_ | refine blk_alloc ?_ _)); exact BK586.out)) : gb610 ≠ gb586)); have n18_ := Aside0.mk ((by rw [hg]; exact Nat.ne_of_lt (blk_lt (g := gb590) (o := .cells #[.bool t587, .string t588, .int .i64 t589] 30 (0, 0)) (by (with_reducible repeat (first | refine blk_drewN ?_ _ | refine blk_drew ?_ | refine blk_alloc ?_ _)); exact BK590.out)) : gb590 ≠ gb610)); have n19_ := Aside0.mk ((by rw [hg]; exact Nat.ne_of_gt (blk_lt (g := gb590) (o := .cells #[.bool t587, .string t588, .int .i64 t589] 30 (0, 0)) (by (with_reducible repeat (first | refine blk_drewN ?_ _ | refine blk_drew ?_ | refine blk_alloc ?_ _)); exact BK590.out)) : gb610 ≠ gb590)); have n20_ := Aside0.mk ((by rw [hg]; exact Nat.ne_of_lt (blk_lt (g := gb594) (o := .cells #[.bool t591, .string t592, .int .i64 t593] 30 (0, 0)) (by (with_reducible repeat (first | refine blk_drewN ?_ _ | refine blk_drew ?_ | refine blk_alloc ?_ _)); exact BK594.out)) : gb594 ≠ gb610)); have n21_ := Aside0.mk ((by rw [hg]; exact Nat.ne_of_gt (blk_lt (g := gb594) (o := .cells #[.bool t591, .string t592, .int .i64 t593] 30 (0, 0)) (by (with_reducible repeat (first | refine blk_drewN ?_ _ | refine blk_drew ?_ | refine blk_alloc ?_ _)); exact BK594.out)) : gb610 ≠ gb594)); have n22_ := Aside0.mk ((by rw [hg]; exact Nat.ne_of_lt (blk_lt (g := gb598) (o := .cells #[.bool t595, .string t596, .int .i64 t597] 30 (0, 0)) (by (with_reducible repeat (first | refine blk_drewN ?_ _ | refine blk_drew ?_ | refine blk_alloc ?_ _)); exact BK598.out)) : gb598 ≠ gb610)); have n23_ := Aside0.mk ((by rw [hg]; exact Nat.ne_of_gt (blk_lt (g := gb598) (o := .cells #[.bool t595, .string t596, .int .i64 t597] 30 (0, 0)) (by (with_reducible repeat (first | refine blk_drewN ?_ _ | refine blk_drew ?_ | refine blk_alloc ?_ _)); exact BK598.out)) : gb610 ≠ gb598)); have n24_ := Aside0.mk ((by rw [hg]; exact Nat.ne_of_lt (blk_lt (g := gb602) (o := .cells #[.bool t599, .string t600, .int .i64 t601] 30 (0, 0)) (by (with_reducible repeat (first | refine blk_drewN ?_ _ | refine blk_drew ?_ | refine blk_alloc ?_ _)); exact BK602.out)) : gb602 ≠ gb610)); have n25_ := Aside0.mk ((by rw [hg]; exact Nat.ne_of_gt (blk_lt (g := gb602) (o := .cells #[.bool t599, .string t600, .int .i64 t601] 30 (0, 0)) (by (with_reducible repeat (first | refine blk_drewN ?_ _ | refine blk_drew ?_ | refine blk_alloc ?_ _)); exact BK602.out)) : gb610 ≠ gb602)); have n26_ := Aside0.mk ((by rw [hg]; exact Nat.ne_of_lt (blk_lt (g := gb606) (o := .cells #[.bool t603, .string t604, .int .i64 t605] 30 (0, 0)) (by (with_reducible repeat (first | refine blk_drewN ?_ _ | refine blk_drew ?_ | refine blk_alloc ?_ _)); exact BK606.out)) : gb606 ≠ gb610)); have n27_ := Aside0.mk ((by rw [hg]; exact Nat.ne_of_gt (blk_lt (g := gb606) (o := .cells #[.bool t603, .string t604, .int .i64 t605] 30 (0, 0)) (by (with_reducible repeat (first | refine blk_drewN ?_ _ | refine blk_drew ?_ | refine blk_alloc ?_ _)); exact BK606.out)) : gb610 ≠ gb606)); clear BK577; clear BK578; clear BK586; clear BK590; clear BK594; clear BK598; clear BK602; clear BK606; clear HB; have BK577 := n0_; have BK578 := n1_; have BK586 := n2_; have BK590 := n3_; have BK594 := n4_; have BK598 := n5_; have BK602 := n6_; have BK606 := n7_; have HB := n8_; have BK610 := n9_; have GW610 := n10_; have GE610 := n11_; have NB577_610 := n12_; have NB610_577 := n13_; have NB578_610 := n14_; have NB610_578 := n15_; have NB586_610 := n16_; have NB610_586 := n17_; have NB590_610 := n18_; have NB610_590 := n19_; have NB594_610 := n20_; have NB610_594 := n21_; have NB598_610 := n22_; have NB610_598 := n23_; have NB602_610 := n24_; have NB610_602 := n25_; have NB606_610 := n26_; have NB610_606 := n27_; clear n0_ n1_ n2_ n3_ n4_ n5_ n6_ n7_ n8_ n9_ n10_ n11_ n12_ n13_ n14_ n15_ n16_ n17_ n18_ n19_ n20_ n21_ n22_ n23_ n24_ n25_ n26_ n27_; clear hb hbox hg; have hnb88 := NB610_577.out; have hnc88 := NB577_610.out; have hnb89 := NB610_578.out; have hnc89 := NB578_610.out; have hnb90 := NB610_586.out; have hnc90 := NB586_610.out; have hnb91 := NB610_590.out; have hnc91 := NB590_610.out; have hnb92 := NB610_594.out; have hnc92 := NB594_610.out; have hnb93 := NB610_598.out; have hnc93 := NB598_610.out; have hnb94 := NB610_602.out; have hnc94 := NB602_610.out; have hnb95 := NB610_606.out; have hnc95 := NB606_610.out; have hcz96_0 : w87.cell? ⟨gb610, 0, none⟩ = some (.bool false) := bc_ BK610 0; have hcz96_1 : w87.cell? ⟨gb610, 1, none⟩ = some (.string (⟨#[]⟩ : ByteArray)) := bc_ BK610 1; have hcz96_2 : w87.cell? ⟨gb610, 2, none⟩ = some (.int .i64 0) := bc_ BK610 2; have hfz96_0 := blk_frozen BK610.out 0; have hfz96_1 := blk_frozen BK610.out 1; have hfz96_2 := blk_frozen BK610.out 2; have hcz97_0 : w87.cell? ⟨gb586, 0, none⟩ = some (.bool t583) := bc_ BK586 0; have hcz97_1 : w87.cell? ⟨gb586, 1, none⟩ = some (.string t584) := bc_ BK586 1; have hcz97_2 : w87.cell? ⟨gb586, 2, none⟩ = some (.int .i64 t585) := bc_ BK586 2; have hfz97_0 := blk_frozen BK586.out 0; have hfz97_1 := blk_frozen BK586.out 1; have hfz97_2 := blk_frozen BK586.out 2; have hcz98_0 : w87.cell? ⟨gb590, 0, none⟩ = some (.bool t587) := bc_ BK590 0; have hcz98_1 : w87.cell? ⟨gb590, 1, none⟩ = some (.string t588) := bc_ BK590 1; have hcz98_2 : w87.cell? ⟨gb590, 2, none⟩ = some (.int .i64 t589) := bc_ BK590 2; have hfz98_0 := blk_frozen BK590.out 0; have hfz98_1 := blk_frozen BK590.out 1; have hfz98_2 := blk_frozen BK590.out 2) | ((with_reducible refine gate_callee (f := 17) rfl ?_); refine goesL_ (some 60) rfl rfl Tryd.func17 (by kernel_rfl) rfl #[.agg #[.bool t583, .string t584, .int .i64 t585], .agg #[.bool t587, .string t588, .int .i64 t589]] rfl (by (try simp only [List.map_toArray, List.map_cons, List.map_nil]); first | done | rfl | (simp only [List.length_drop, List.length_take]; rfl) | (have z_ : ∀ s_ : ByteArray, s_.size ≤ 9223372036854775807 → -(s_.size : Int) = wrap64 (-(s_.size : Int)) := (fun s_ h_ => by unfold wrap64; omega); rw [← z_ _ (by omega)]; rfl) | (simp only [ByteArray.size_append]; rfl)) ?_; (with_reducible refine (dec_Cmp.calls kj6 t583 t584 t585 t587 t588 t589 t611 _ A31.out).mono ?_); rintro e w99 ⟨rfl, hb⟩; refine ⟨_, rfl, ?_⟩; have n0_ := Aside0.mk (blk_below (g := gb577) (o := .cells #[.bool a0_0, .slice A0_1 l0_1.length c0_1, .int .i64 a0_2] 24 (0, 0)) (by (with_reducible repeat (first | refine blk_drewN ?_ _ | refine blk_drew ?_ | refine blk_alloc ?_ _)); refine blk_far ?_ NB577_610.out _; (with_reducible repeat (first | refine blk_drewN ?_ _ | refine blk_drew ?_ | refine blk_alloc ?_ _)); refine blk_far ?_ NB577_610.out _; (with_reducible repeat (first | refine blk_drewN ?_ _ | refine blk_drew ?_ | refine blk_alloc ?_ _)); refine blk_far ?_ NB577_610.out _; (with_reducible repeat (first | refine blk_drewN ?_ _ | refine blk_drew ?_ | refine blk_alloc ?_ _)); exact BK577.out) hb); have n1_ := Aside0.mk (blk_below (g := gb578) (o := .cells #[.bool a1_0, .slice A1_1 l1_1.length c1_1, .int .i64 a1_2] 24 (0, 0)) (by (with_reducible repeat (first | refine blk_drewN ?_ _ | refine blk_drew ?_ | refine blk_alloc ?_ _)); refine blk_far ?_ NB578_610.out _; (with_reducible repeat (first | refine blk_drewN ?_ _ | refine blk_drew ?_ | refine blk_alloc ?_ _)); refine blk_far ?_ NB578_610.out _; (with_reducible repeat (first | refine blk_drewN ?_ _ | refine blk_drew ?_ | refine blk_alloc ?_ _)); refine blk_far ?_ NB578_610.out _; (with_reducible repeat (first | refine blk_drewN ?_ _ | refine blk_drew ?_ | refine blk_alloc ?_ _)); exact BK578.out) hb); have n2_ := Aside0.mk (blk_below (g := gb586) (o := .cells #[.bool t583, .string t584, .int .i64 t585] 30 (0, 0)) (by (with_reducible repeat (first | refine blk_drewN ?_ _ | refine blk_drew ?_ | refine blk_alloc ?_ _)); refine blk_far ?_ NB586_610.out _; (with_reducible repeat (first | refine blk_drewN ?_ _ | refine blk_drew ?_ | refine blk_alloc ?_ _)); refine blk_far ?_ NB586_610.out _; (with_reducible repeat (first | refine blk_drewN ?_ _ | refine blk_drew ?_ | refine blk_alloc ?_ _)); refine blk_far ?_ NB586_610.out _; (with_reducible repeat (first | refine blk_drewN ?_ _ | refine blk_drew ?_ | refine blk_alloc ?_ _)); exact BK586.out) hb); have n3_ := Aside0.mk (blk_below (g := gb590) (o := .cells #[.bool t587, .string t588, .int .i64 t589] 30 (0, 0)) (by (with_reducible repeat (first | refine blk_drewN ?_ _ | refine blk_drew ?_ | refine blk_alloc ?_ _)); refine blk_far ?_ NB590_610.out _; (with_reducible repeat (first | refine blk_drewN ?_ _ | refine blk_drew ?_ | refine blk_alloc ?_ _)); refine blk_far ?_ NB590_610.out _; (with_reducible repeat (first | refine blk_drewN ?_ _ | refine blk_drew ?_ | refine blk_alloc ?_ _)); refine blk_far ?_ NB590_610.out _; (with_reducible repeat (first | refine blk_drewN ?_ _ | refine blk_drew ?_ | refine blk_alloc ?_ _)); exact BK590.out) hb); have n4_ := Aside0.mk (blk_below (g := gb594) (o := .cells #[.bool t591, .string t592, .int .i64 t593] 30 (0, 0)) (by (with_reducible repeat (first | refine blk_drewN ?_ _ | refine blk_drew ?_ | refine blk_alloc ?_ _)); refine blk_far ?_ NB594_610.out _; (with_reducible repeat (first | refine blk_drewN ?_ _ | refine blk_drew ?_ | refine blk_alloc ?_ _)); refine blk_far ?_ NB594_610.out _; (with_reducible repeat (first | refine blk_drewN ?_ _ | refine blk_drew ?_ | refine blk_alloc ?_ _)); refine blk_far ?_ NB594_610.out _; (with_reducible repeat (first | refine blk_drewN ?_ _ | refine blk_drew ?_ | refine blk_alloc ?_ _)); exact BK594.out) hb); have n5_ := Aside0.mk (blk_below (g := gb598) (o := .cells #[.bool t595, .string t596, .int .i64 t597] 30 (0, 0)) (by (with_reducible repeat (first | refine blk_drewN ?_ _ | refine blk_drew ?_ | refine blk_alloc ?_ _)); refine blk_far ?_ NB598_610.out _; (with_reducible repeat (first | refine blk_drewN ?_ _ | refine blk_drew ?_ | refine blk_alloc ?_ _)); refine blk_far ?_ NB598_610.out _; (with_reducible repeat (first | refine blk_drewN ?_ _ | refine blk_drew ?_ | refine blk_alloc ?_ _)); refine blk_far ?_ NB598_610.out _; (with_reducible repeat (first | refine blk_drewN ?_ _ | refine blk_drew ?_ | refine blk_alloc ?_ _)); exact BK598.out) hb); have n6_ := Aside0.mk (blk_below (g := gb602) (o := .cells #[.bool t599, .string t600, .int .i64 t601] 30 (0, 0)) (by (with_reducible repeat (first | refine blk_drewN ?_ _ | refine blk_drew ?_ | refine blk_alloc ?_ _)); refine blk_far ?_ NB602_610.out _; (with_reducible repeat (first | refine blk_drewN ?_ _ | refine blk_drew ?_ | refine blk_alloc ?_ _)); refine blk_far ?_ NB602_610.out _; (with_reducible repeat (first | refine blk_drewN ?_ _ | refine blk_drew ?_ | refine blk_alloc ?_ _)); refine blk_far ?_ NB602_610.out _; (with_reducible repeat (first | refine blk_drewN ?_ _ | refine blk_drew ?_ | refine blk_alloc ?_ _)); exact BK602.out) hb); have n7_ := Aside0.mk (blk_below (g := gb606) (o := .cells #[.bool t603, .string t604, .int .i64 t605] 30 (0, 0)) (by (with_reducible repeat (first | refine blk_drewN ?_ _ | refine blk_drew ?_ | refine blk_alloc ?_ _)); refine blk_far ?_ NB606_610.out _; (with_reducible repeat (first | refine blk_drewN ?_ _ | refine blk_drew ?_ | refine blk_alloc ?_ _)); refine blk_far ?_ NB606_610.out _; (with_reducible repeat (first | refine blk_drewN ?_ _ | refine blk_drew ?_ | refine blk_alloc ?_ _)); refine blk_far ?_ NB606_610.out _; (with_reducible repeat (first | refine blk_drewN ?_ _ | refine blk_drew ?_ | refine blk_alloc ?_ _)); exact BK606.out) hb); have n8_ := Aside0.mk (blk_below (g := gb610) (o := .cells #[.bool t607, .string t608, .int .i64 t609] 30 (0, 0)) (by (with_reducible repeat (first | refine blk_drewN ?_ _ | refine blk_drew ?_ | refine blk_alloc ?_ _)); refine blk_put (cs := #[.bool t607, .string t608, .int .i64 0]) ?_ 2 _ rfl; (with_reducible repeat (first | refine blk_drewN ?_ _ | refine blk_drew ?_ | refine blk_alloc ?_ _)); refine blk_put (cs := #[.bool t607, .string (⟨#[]⟩ : ByteArray), .int .i64 0]) ?_ 1 _ rfl; (with_reducible repeat (first | refine blk_drewN ?_ _ | refine blk_drew ?_ | refine blk_alloc ?_ _)); refine blk_put (cs := #[.bool false, .string (⟨#[]⟩ : ByteArray), .int .i64 0]) ?_ 0 _ rfl; (with_reducible repeat (first | refine blk_drewN ?_ _ | refine blk_drew ?_ | refine blk_alloc ?_ _)); exact BK610.out) hb); have n9_ := Aside0.mk (below_step (bl_ HB).out hb); clear BK577; clear BK578; clear BK586; clear BK590; clear BK594; clear BK598; clear BK602; clear BK606; clear BK610; clear HB; have BK577 := n0_; have BK578 := n1_; have BK586 := n2_; have BK590 := n3_; have BK594 := n4_; have BK598 := n5_; have BK602 := n6_; have BK606 := n7_; have BK610 := n8_; have HB := n9_; clear n0_ n1_ n2_ n3_ n4_ n5_ n6_ n7_ n8_ n9_; (try clear hb); (try clear hb2); (try clear hk); (try clear hi)))
     (try simp only [Act.put, List.setIfInBounds_toArray, List.set_cons_zero, List.set_cons_succ])
     go_cut [74] (fun v74 wc => ∃ (kq : Nat) (x74_31 : Bool), v74 = .bool x74_31 ∧ Aside0 (florinlaw03_RoundAgain.j1 kq t611 x74_31 t591 t592 t593 t595 t596 t597 t603 t604 t605 t607 t608 t609 = some r) ∧ Aside0 (kq ≤ kj6) ∧ Aside0 (wc.heap[gb577]? = some (.cells #[.bool a0_0, (.slice A0_1 l0_1.length c0_1), .int .i64 a0_2] 24 (0, 0))) ∧ Aside0 (wc.heap[gb578]? = some (.cells #[.bool a1_0, (.slice A1_1 l1_1.length c1_1), .int .i64 a1_2] 24 (0, 0))) ∧ Aside0 (wc.heap[gb586]? = some (.cells #[.bool t583, .string t584, .int .i64 t585] 30 (0, 0))) ∧ Aside0 (wc.heap[gb590]? = some (.cells #[.bool t587, .string t588, .int .i64 t589] 30 (0, 0))) ∧ Aside0 (wc.heap[gb594]? = some (.cells #[.bool t591, .string t592, .int .i64 t593] 30 (0, 0))) ∧ Aside0 (wc.heap[gb598]? = some (.cells #[.bool t595, .string t596, .int .i64 t597] 30 (0, 0))) ∧ Aside0 (wc.heap[gb602]? = some (.cells #[.bool t599, .string t600, .int .i64 t601] 30 (0, 0))) ∧ Aside0 (wc.heap[gb606]? = some (.cells #[.bool t603, .string t604, .int .i64 t605] 30 (0, 0))) ∧ Aside0 (wc.heap[gb610]? = some (.cells #[.bool t607, .string t608, .int .i64 t609] 30 (0, 0))) ∧ Aside0 (Below w.heap.size w wc))
     case first =>
      have H := HC32.out
      clear HC32
      replace H := Option.bind_eq_some_iff.mp H
      obtain ⟨⟨t612, t613, t614⟩, A1000, H⟩ := H
      replace H : (if (!(t612 == t591) || (!(t613.toList == t592.toList) || (!(t614 == t593)))) = true then (florinlaw03_RoundAgain.j1 kj6 t611 true t591 t592 t593 t595 t596 t597 t603 t604 t605 t607 t608 t609) else ((round_Step.f kj6 t603 t604 t605 t599 t600 t601 t582).bind fun bt615 => (florinlaw03_RoundAgain.j1 kj6 t611 (!(bt615.1 == t603) || (!(bt615.2.1.toList == t604.toList) || (!(bt615.2.2 == t605)))) t591 t592 t593 t595 t596 t597 t603 t604 t605 t607 t608 t609))) = some r := H
      have A100 := Aside0.mk A1000
      clear A1000
      by_cases c101 : (!(t612 == t591) || (!(t613.toList == t592.toList) || (!(t614 == t593)))) = true
      ·rw [if_pos c101] at H
       have c101b0 : (!(t612 == t591) || (!(t613.toList == t592.toList) || (!(t614 == t593)))) = true := c101
       clear c101
       (first | rw [c101b0] | (simp only [i64_w, i32_w]; rw [c101b0]) | skip)
       have H' := Aside0.mk H
       clear H
       try go_wp2
       replace BK577 := Aside0.mk (blk_drew BK577.out)
       replace BK578 := Aside0.mk (blk_drew BK578.out)
       replace BK586 := Aside0.mk (blk_drew BK586.out)
       replace BK590 := Aside0.mk (blk_drew BK590.out)
       replace BK594 := Aside0.mk (blk_drew BK594.out)
       replace BK598 := Aside0.mk (blk_drew BK598.out)
       replace BK602 := Aside0.mk (blk_drew BK602.out)
       replace BK606 := Aside0.mk (blk_drew BK606.out)
       replace BK610 := Aside0.mk (blk_drew BK610.out)
       replace HB := Aside0.mk (below_drew1 HB.out)
       refine start_ (n := 14) (S := fun w' => w'.cell? ⟨gb594, 0, none⟩ = some (.bool t591) ∧ w'.cell? ⟨gb594, 1, none⟩ = some (.string t592) ∧ w'.cell? ⟨gb594, 2, none⟩ = some (.int .i64 t593)) (ds := []) #[false, false, false, false, false, false, false, false, false, false, false, false, false, false] (by kernel_rfl) rfl rfl ⟨bc_ BK594 0, bc_ BK594 1, bc_ BK594 2⟩ (fun hHeld => ?_); refine with_tabW florinlaw03_RoundAgain.tab15 florinlaw03_RoundAgain.bits15 (fun HT_ HW_ => ?_)
       generalize w99.drew = w102 at BK577 BK578 BK586 BK590 BK594 BK598 BK602 BK606 BK610 HB hHeld ⊢
       refine pu_ 1 62 (bm_ 14 2) HT_ ?_
       refine pu_ 2 63 (bm_ 14 6) HT_ ?_
       refine tk_ 0 61 (bm_ 14 7) HT_ HW_ hHeld rfl (by rintro w' ⟨s0, s1, s2⟩; go_simp; with_reducible rfl) ?_
       refine tk_ 4 65 (bm_ 14 23) HT_ HW_ hHeld rfl (by rintro w' ⟨s0, s1, s2⟩; go_simp; with_reducible rfl) ?_
       refine one_ (i := 3) (N := some 64) (bm_ 14 31) rfl rfl (one_of HT_.out (by kernel_rfl)) (by decide) (fun K hK => ?_)
       refine gs_ Tryd.func13 #[.agg #[.bool t591, .string t592, .int .i64 t593], .int .i64 (wrap64 ((Int.tmod a2 60) - (wrap64 (Int.tdiv (Int.tmod a2 60) 2)))), .int .i64 t582] ?_
       with_reducible refine (round_At.calls kj6 t591 t592 t593 (wrap64 ((Int.tmod a2 60) - (wrap64 (Int.tdiv (Int.tmod a2 60) 2)))) t582 t612 t613 t614 _ A100.out).mono ?_
       rintro e w103 ⟨rfl, hb⟩
       refine ⟨_, rfl, ?_⟩
       replace BK577 := bb_ BK577 hb
       replace BK578 := bb_ BK578 hb
       replace BK586 := bb_ BK586 hb
       replace BK590 := bb_ BK590 hb
       replace BK594 := bb_ BK594 hb
       replace BK598 := bb_ BK598 hb
       replace BK602 := bb_ BK602 hb
       replace BK606 := bb_ BK606 hb
       replace BK610 := bb_ BK610 hb
       replace HB := Aside0.mk (below_step (bl_ HB).out hb)
       (try clear hb)
       (try clear hb2)
       (try clear hk)
       (try clear hi)
       refine hK.out _ _ ⟨bc_ BK594 0, bc_ BK594 1, bc_ BK594 2⟩ (fun hHeld => ?_)
       clear hK K
       refine nm_ 64 ?_
       refine pu_ 5 66 (bm_ 14 63) HT_ ?_
       refine pu_ 6 67 (bm_ 14 127) HT_ ?_
       refine pn_ 7 68 (bm_ 14 255) HT_ ?_
       refine pn_ 8 69 (bm_ 14 511) HT_ ?_
       refine pn_ 9 70 (bm_ 14 1023) HT_ ?_
       refine pn_ 10 71 (bm_ 14 2047) HT_ ?_
       refine pn_ 11 72 (bm_ 14 4095) HT_ ?_
       refine pn_ 12 73 (bm_ 14 8191) HT_ ?_
       refine pu_ 13 74 (bm_ 14 16383) HT_ ?_
       refine done_ (done_of HT_.out (by kernel_rfl)) ?_
       try go_wp2
       go_meet
       case rel => exact ⟨_, (true), eq_, H', ⟨by have := HJ6.out; first | omega | exact Nat.le_refl _⟩, (bk_ BK577), (bk_ BK578), (bk_ BK586), (bk_ BK590), (bk_ BK594), (bk_ BK598), (bk_ BK602), (bk_ BK606), (bk_ BK610), (bl_ HB)⟩
      ·rw [if_neg c101] at H
       have c101b0 : (!(t612 == t591) || (!(t613.toList == t592.toList) || (!(t614 == t593)))) = false := by simpa using c101
       clear c101
       (first | rw [c101b0] | (simp only [i64_w, i32_w]; rw [c101b0]) | skip)
       replace H := Option.bind_eq_some_iff.mp H
       obtain ⟨⟨t615, t616, t617⟩, A1040, H⟩ := H
       replace H : (florinlaw03_RoundAgain.j1 kj6 t611 (!(t615 == t603) || (!(t616.toList == t604.toList) || (!(t617 == t605)))) t591 t592 t593 t595 t596 t597 t603 t604 t605 t607 t608 t609) = some r := H
       have A104 := Aside0.mk A1040
       clear A1040
       have H' := Aside0.mk H
       clear H
       try go_wp2
       replace BK577 := Aside0.mk (blk_drew BK577.out)
       replace BK578 := Aside0.mk (blk_drew BK578.out)
       replace BK586 := Aside0.mk (blk_drew BK586.out)
       replace BK590 := Aside0.mk (blk_drew BK590.out)
       replace BK594 := Aside0.mk (blk_drew BK594.out)
       replace BK598 := Aside0.mk (blk_drew BK598.out)
       replace BK602 := Aside0.mk (blk_drew BK602.out)
       replace BK606 := Aside0.mk (blk_drew BK606.out)
       replace BK610 := Aside0.mk (blk_drew BK610.out)
       replace HB := Aside0.mk (below_drew1 HB.out)
       refine start_ (n := 14) (S := fun w' => w'.cell? ⟨gb594, 0, none⟩ = some (.bool t591) ∧ w'.cell? ⟨gb594, 1, none⟩ = some (.string t592) ∧ w'.cell? ⟨gb594, 2, none⟩ = some (.int .i64 t593) ∧ w'.cell? ⟨gb606, 0, none⟩ = some (.bool t603) ∧ w'.cell? ⟨gb606, 1, none⟩ = some (.string t604) ∧ w'.cell? ⟨gb606, 2, none⟩ = some (.int .i64 t605) ∧ w'.cell? ⟨gb602, 0, none⟩ = some (.bool t599) ∧ w'.cell? ⟨gb602, 1, none⟩ = some (.string t600) ∧ w'.cell? ⟨gb602, 2, none⟩ = some (.int .i64 t601)) (ds := []) #[false, false, false, false, false, false, false, false, false, false, false, false, false, false] (by kernel_rfl) rfl rfl ⟨bc_ BK594 0, bc_ BK594 1, bc_ BK594 2, bc_ BK606 0, bc_ BK606 1, bc_ BK606 2, bc_ BK602 0, bc_ BK602 1, bc_ BK602 2⟩ (fun hHeld => ?_); refine with_tabW florinlaw03_RoundAgain.tab15 florinlaw03_RoundAgain.bits15 (fun HT_ HW_ => ?_)
       generalize w99.drew = w105 at BK577 BK578 BK586 BK590 BK594 BK598 BK602 BK606 BK610 HB hHeld ⊢
       refine pu_ 1 62 (bm_ 14 2) HT_ ?_
       refine pu_ 2 63 (bm_ 14 6) HT_ ?_
       refine tk_ 0 61 (bm_ 14 7) HT_ HW_ hHeld rfl (by rintro w' ⟨s0, s1, s2, s3, s4, s5, s6, s7, s8⟩; go_simp; with_reducible rfl) ?_
       refine tk_ 4 65 (bm_ 14 23) HT_ HW_ hHeld rfl (by rintro w' ⟨s0, s1, s2, s3, s4, s5, s6, s7, s8⟩; go_simp; with_reducible rfl) ?_
       refine one_ (i := 3) (N := some 64) (bm_ 14 31) rfl rfl (one_of HT_.out (by kernel_rfl)) (by decide) (fun K hK => ?_)
       refine gs_ Tryd.func13 #[.agg #[.bool t591, .string t592, .int .i64 t593], .int .i64 (wrap64 ((Int.tmod a2 60) - (wrap64 (Int.tdiv (Int.tmod a2 60) 2)))), .int .i64 t582] ?_
       with_reducible refine (round_At.calls kj6 t591 t592 t593 (wrap64 ((Int.tmod a2 60) - (wrap64 (Int.tdiv (Int.tmod a2 60) 2)))) t582 t612 t613 t614 _ A100.out).mono ?_
       rintro e w106 ⟨rfl, hb⟩
       refine ⟨_, rfl, ?_⟩
       replace BK577 := bb_ BK577 hb
       replace BK578 := bb_ BK578 hb
       replace BK586 := bb_ BK586 hb
       replace BK590 := bb_ BK590 hb
       replace BK594 := bb_ BK594 hb
       replace BK598 := bb_ BK598 hb
       replace BK602 := bb_ BK602 hb
       replace BK606 := bb_ BK606 hb
       replace BK610 := bb_ BK610 hb
       replace HB := Aside0.mk (below_step (bl_ HB).out hb)
       (try clear hb)
       (try clear hb2)
       (try clear hk)
       (try clear hi)
       refine hK.out _ _ ⟨bc_ BK594 0, bc_ BK594 1, bc_ BK594 2, bc_ BK606 0, bc_ BK606 1, bc_ BK606 2, bc_ BK602 0, bc_ BK602 1, bc_ BK602 2⟩ (fun hHeld => ?_)
       clear hK K
       refine nm_ 64 ?_
       refine pu_ 5 66 (bm_ 14 63) HT_ ?_
       refine pu_ 6 67 (bm_ 14 127) HT_ ?_
       refine pu_ 9 70 (bm_ 14 639) HT_ ?_
       refine tk_ 7 68 (bm_ 14 767) HT_ HW_ hHeld rfl (by rintro w' ⟨s0, s1, s2, s3, s4, s5, s6, s7, s8⟩; go_simp; with_reducible rfl) ?_
       refine tk_ 8 69 (bm_ 14 1023) HT_ HW_ hHeld rfl (by rintro w' ⟨s0, s1, s2, s3, s4, s5, s6, s7, s8⟩; go_simp; with_reducible rfl) ?_
       refine tk_ 11 72 (bm_ 14 3071) HT_ HW_ hHeld rfl (by rintro w' ⟨s0, s1, s2, s3, s4, s5, s6, s7, s8⟩; go_simp; with_reducible rfl) ?_
       refine one_ (i := 10) (N := some 71) (bm_ 14 4095) rfl rfl (one_of HT_.out (by kernel_rfl)) (by decide) (fun K hK => ?_)
       refine gs_ Tryd.func26 #[.agg #[.bool t603, .string t604, .int .i64 t605], .agg #[.bool t599, .string t600, .int .i64 t601], .int .i64 t582] ?_
       with_reducible refine (round_Step.calls kj6 t603 t604 t605 t599 t600 t601 t582 t615 t616 t617 _ A104.out).mono ?_
       rintro e w107 ⟨rfl, hb⟩
       refine ⟨_, rfl, ?_⟩
       replace BK577 := bb_ BK577 hb
       replace BK578 := bb_ BK578 hb
       replace BK586 := bb_ BK586 hb
       replace BK590 := bb_ BK590 hb
       replace BK594 := bb_ BK594 hb
       replace BK598 := bb_ BK598 hb
       replace BK602 := bb_ BK602 hb
       replace BK606 := bb_ BK606 hb
       replace BK610 := bb_ BK610 hb
       replace HB := Aside0.mk (below_step (bl_ HB).out hb)
       (try clear hb)
       (try clear hb2)
       (try clear hk)
       (try clear hi)
       refine hK.out _ _ ⟨bc_ BK594 0, bc_ BK594 1, bc_ BK594 2, bc_ BK606 0, bc_ BK606 1, bc_ BK606 2, bc_ BK602 0, bc_ BK602 1, bc_ BK602 2⟩ (fun hHeld => ?_)
       clear hK K
       refine nm_ 71 ?_
       refine pu_ 12 73 (bm_ 14 8191) HT_ ?_
       refine pu_ 13 74 (bm_ 14 16383) HT_ ?_
       refine done_ (done_of HT_.out (by kernel_rfl)) ?_
       try go_wp2
       go_meet
       case rel => exact ⟨_, ((!(t615 == t603) || (!(t616.toList == t604.toList) || (!(t617 == t605))))), eq_, H', ⟨by have := HJ6.out; first | omega | exact Nat.le_refl _⟩, (bk_ BK577), (bk_ BK578), (bk_ BK586), (bk_ BK590), (bk_ BK594), (bk_ BK598), (bk_ BK602), (bk_ BK606), (bk_ BK610), (bl_ HB)⟩
     case rest =>
      clear HC32
      try clear c1
      try clear c2
      try clear p2
      try clear c3
      try clear c4
      try clear c5
      try clear c6
      try clear p6
      try clear c7
      try clear c8
      try clear c9
      try clear c10
      try clear c11
      try clear c12
      try clear c13
      try clear c14
      try clear c17
      try clear c19
      try clear c22
      try clear c23
      try clear c26
      try clear c33
      try clear c37
      try clear c38
      try clear c43
      try clear c44
      try clear c45
      try clear c50
      try clear c51
      try clear c52
      try clear c53
      try clear c58
      try clear c59
      try clear c60
      try clear c61
      try clear c62
      try clear p64
      try clear c66
      try clear c67
      try clear c68
      try clear c69
      try clear c70
      try clear c71
      try clear c76
      try clear c77
      try clear c78
      try clear c79
      try clear c80
      try clear c81
      try clear c82
      try clear c88
      try clear c89
      try clear c90
      try clear c91
      try clear c92
      try clear c93
      try clear c94
      try clear c95
      try clear c101
      try clear c101b0
      try clear hcz15_0
      try clear hcz15_1
      try clear hcz15_2
      try clear hcz17_0
      try clear hcz17_1
      try clear hcz17_2
      try clear hcz20_0
      try clear hcz20_1
      try clear hcz20_2
      try clear hcz34_0
      try clear hcz34_1
      try clear hcz34_2
      try clear hcz39_0
      try clear hcz39_1
      try clear hcz39_2
      try clear hcz40_0
      try clear hcz40_1
      try clear hcz40_2
      try clear hcz46_0
      try clear hcz46_1
      try clear hcz46_2
      try clear hcz47_0
      try clear hcz47_1
      try clear hcz47_2
      try clear hcz54_0
      try clear hcz54_1
      try clear hcz54_2
      try clear hcz55_0
      try clear hcz55_1
      try clear hcz55_2
      try clear hcz63_0
      try clear hcz63_1
      try clear hcz63_2
      try clear hcz72_0
      try clear hcz72_1
      try clear hcz72_2
      try clear hcz73_0
      try clear hcz73_1
      try clear hcz73_2
      try clear hcz83_0
      try clear hcz83_1
      try clear hcz83_2
      try clear hcz84_0
      try clear hcz84_1
      try clear hcz84_2
      try clear hcz85_0
      try clear hcz85_1
      try clear hcz85_2
      try clear hcz96_0
      try clear hcz96_1
      try clear hcz96_2
      try clear hcz97_0
      try clear hcz97_1
      try clear hcz97_2
      try clear hcz98_0
      try clear hcz98_1
      try clear hcz98_2
      try clear hfz15_0
      try clear hfz15_1
      try clear hfz15_2
      try clear hfz17_0
      try clear hfz17_1
      try clear hfz17_2
      try clear hfz20_0
      try clear hfz20_1
      try clear hfz20_2
      try clear hfz34_0
      try clear hfz34_1
      try clear hfz34_2
      try clear hfz39_0
      try clear hfz39_1
      try clear hfz39_2
      try clear hfz40_0
      try clear hfz40_1
      try clear hfz40_2
      try clear hfz46_0
      try clear hfz46_1
      try clear hfz46_2
      try clear hfz47_0
      try clear hfz47_1
      try clear hfz47_2
      try clear hfz54_0
      try clear hfz54_1
      try clear hfz54_2
      try clear hfz55_0
      try clear hfz55_1
      try clear hfz55_2
      try clear hfz63_0
      try clear hfz63_1
      try clear hfz63_2
      try clear hfz72_0
      try clear hfz72_1
      try clear hfz72_2
      try clear hfz73_0
      try clear hfz73_1
      try clear hfz73_2
      try clear hfz83_0
      try clear hfz83_1
      try clear hfz83_2
      try clear hfz84_0
      try clear hfz84_1
      try clear hfz84_2
      try clear hfz85_0
      try clear hfz85_1
      try clear hfz85_2
      try clear hfz96_0
      try clear hfz96_1
      try clear hfz96_2
      try clear hfz97_0
      try clear hfz97_1
      try clear hfz97_2
      try clear hfz98_0
      try clear hfz98_1
      try clear hfz98_2
      try clear p2
      try clear p6
      obtain ⟨kq, x74_31, rfl, HA, HJ31, BK577, BK578, BK586, BK590, BK594, BK598, BK602, BK606, BK610, HB⟩ := hcut
      cases kq with
      | zero => exact absurd HA.out (by simp [florinlaw03_RoundAgain.j1])
      | succ kj31 =>
       have H := HA.out
       clear HA
       simp only [florinlaw03_RoundAgain.j1] at H
       by_cases c108 : x74_31 = true
       ·subst c108
        have H1 : (some false) = some r := by rw [if_pos rfl] at H; exact H
        clear H
        have H := H1
        clear H1
        obtain rfl := Option.some.inj H
        go_wp2
        go_ret
        exact ⟨by first | rfl | (simp [errW_none, errW_some] <;> rfl) | (simp [*, errW_none, errW_some] <;> first | rfl | exact given_isEmpty _ | exact (given_isEmpty _).symm), by repeat (first | (with_reducible first | exact HB.out | apply below_alloc | apply pw_below_drewN | apply below_drew1 | refine below_set ?_ GE577.out | refine below_set ?_ GE578.out | refine below_set ?_ GE586.out | refine below_set ?_ GE590.out | refine below_set ?_ GE594.out | refine below_set ?_ GE598.out | refine below_set ?_ GE602.out | refine below_set ?_ GE606.out | refine below_set ?_ GE610.out) | exact HB.out)⟩
       ·replace c108 := Bool.eq_false_iff.mpr c108
        subst c108
        have H1 : (if t611 = 0 then (if (t591 == t595 && (t592.toList == t596.toList && (t593 == t597))) = true then (some (t603 == t607 && (t604.toList == t608.toList && (t605 == t609)))) else (some false)) else ((dec_Cmp.f kj31 t591 t592 t593 t595 t596 t597).bind fun t618 => (if (wrap64 (t618 * t611)) ≥ 0 then ((dec_Cmp.f kj31 t603 t604 t605 t607 t608 t609).bind fun t619 => (some (decide ((wrap64 (t619 * t611)) ≥ 0)))) else (some false)))) = some r := by rw [if_neg (show ¬ (false = true) by decide)] at H; exact H
        clear H
        have H := H1
        clear H1
        by_cases c109 : t611 = 0
        ·rw [if_pos c109] at H
         have c109b0 : (t611 == 0) = true := beq_iff_eq.mpr c109
         have c109b1 : (t611 != 0) = false := bne_eq_false_iff_eq.mpr c109
         clear c109
         by_cases c110 : (t591 == t595 && (t592.toList == t596.toList && (t593 == t597))) = true
         ·rw [if_pos c110] at H
          have c110b0 : (t591 == t595 && (t592.toList == t596.toList && (t593 == t597))) = true := c110
          (try (have c110b1 : decide (t591 = t595 && (t592.toList == t596.toList && (t593 == t597))) = true := by simpa using c110))
          (try (have c110b2 : (t591 == t595 && (t592.toList == t596.toList && (t593 == t597))) = true := by simpa using c110))
          clear c110
          obtain rfl := Option.some.inj H
          have hnb111 := NB594_577.out
          have hnc111 := NB577_594.out
          have hnb112 := NB594_578.out
          have hnc112 := NB578_594.out
          have hnb113 := NB594_586.out
          have hnc113 := NB586_594.out
          have hnb114 := NB594_590.out
          have hnc114 := NB590_594.out
          have hnb115 := NB594_598.out
          have hnc115 := NB598_594.out
          have hnb116 := NB594_602.out
          have hnc116 := NB602_594.out
          have hnb117 := NB594_606.out
          have hnc117 := NB606_594.out
          have hnb118 := NB594_610.out
          have hnc118 := NB610_594.out
          have hcz119_0 : wc.cell? ⟨gb594, 0, none⟩ = some (.bool t591) := bc_ BK594 0
          have hcz119_1 : wc.cell? ⟨gb594, 1, none⟩ = some (.string t592) := bc_ BK594 1
          have hcz119_2 : wc.cell? ⟨gb594, 2, none⟩ = some (.int .i64 t593) := bc_ BK594 2
          have hfz119_0 := blk_frozen BK594.out 0
          have hfz119_1 := blk_frozen BK594.out 1
          have hfz119_2 := blk_frozen BK594.out 2
          have hnb120 := NB598_577.out
          have hnc120 := NB577_598.out
          have hnb121 := NB598_578.out
          have hnc121 := NB578_598.out
          have hnb122 := NB598_586.out
          have hnc122 := NB586_598.out
          have hnb123 := NB598_590.out
          have hnc123 := NB590_598.out
          have hnb124 := NB598_602.out
          have hnc124 := NB602_598.out
          have hnb125 := NB598_606.out
          have hnc125 := NB606_598.out
          have hnb126 := NB598_610.out
          have hnc126 := NB610_598.out
          have hcz127_0 : wc.cell? ⟨gb598, 0, none⟩ = some (.bool t595) := bc_ BK598 0
          have hcz127_1 : wc.cell? ⟨gb598, 1, none⟩ = some (.string t596) := bc_ BK598 1
          have hcz127_2 : wc.cell? ⟨gb598, 2, none⟩ = some (.int .i64 t597) := bc_ BK598 2
          have hfz127_0 := blk_frozen BK598.out 0
          have hfz127_1 := blk_frozen BK598.out 1
          have hfz127_2 := blk_frozen BK598.out 2
          have hnb128 := NB606_577.out
          have hnc128 := NB577_606.out
          have hnb129 := NB606_578.out
          have hnc129 := NB578_606.out
          have hnb130 := NB606_586.out
          have hnc130 := NB586_606.out
          have hnb131 := NB606_590.out
          have hnc131 := NB590_606.out
          have hnb132 := NB606_602.out
          have hnc132 := NB602_606.out
          have hnb133 := NB606_610.out
          have hnc133 := NB610_606.out
          have hcz134_0 : wc.cell? ⟨gb606, 0, none⟩ = some (.bool t603) := bc_ BK606 0
          have hcz134_1 : wc.cell? ⟨gb606, 1, none⟩ = some (.string t604) := bc_ BK606 1
          have hcz134_2 : wc.cell? ⟨gb606, 2, none⟩ = some (.int .i64 t605) := bc_ BK606 2
          have hfz134_0 := blk_frozen BK606.out 0
          have hfz134_1 := blk_frozen BK606.out 1
          have hfz134_2 := blk_frozen BK606.out 2
          have hnb135 := NB610_577.out
          have hnc135 := NB577_610.out
          have hnb136 := NB610_578.out
          have hnc136 := NB578_610.out
          have hnb137 := NB610_586.out
          have hnc137 := NB586_610.out
          have hnb138 := NB610_590.out
          have hnc138 := NB590_610.out
          have hnb139 := NB610_602.out
          have hnc139 := NB602_610.out
          have hcz140_0 : wc.cell? ⟨gb610, 0, none⟩ = some (.bool t607) := bc_ BK610 0
          have hcz140_1 : wc.cell? ⟨gb610, 1, none⟩ = some (.string t608) := bc_ BK610 1
          have hcz140_2 : wc.cell? ⟨gb610, 2, none⟩ = some (.int .i64 t609) := bc_ BK610 2
          have hfz140_0 := blk_frozen BK610.out 0
          have hfz140_1 := blk_frozen BK610.out 1
          have hfz140_2 := blk_frozen BK610.out 2
          go_wp2
          go_ret
          exact ⟨by first | rfl | (simp [errW_none, errW_some] <;> rfl) | (simp [*, errW_none, errW_some] <;> first | rfl | exact given_isEmpty _ | exact (given_isEmpty _).symm), by repeat (first | (with_reducible first | exact HB.out | apply below_alloc | apply pw_below_drewN | apply below_drew1 | refine below_set ?_ GE577.out | refine below_set ?_ GE578.out | refine below_set ?_ GE586.out | refine below_set ?_ GE590.out | refine below_set ?_ GE594.out | refine below_set ?_ GE598.out | refine below_set ?_ GE602.out | refine below_set ?_ GE606.out | refine below_set ?_ GE610.out) | exact HB.out)⟩
         ·rw [if_neg c110] at H
          have c110b0 : (t591 == t595 && (t592.toList == t596.toList && (t593 == t597))) = false := by simpa using c110
          (try (have c110b1 : decide (t591 = t595 && (t592.toList == t596.toList && (t593 == t597))) = false := by simpa using c110))
          (try (have c110b2 : (t591 == t595 && (t592.toList == t596.toList && (t593 == t597))) = false := by simpa using c110))
          (try (have c110b3 : ¬ (t591 = t595 && (t592.toList == t596.toList && (t593 == t597))) := by simpa using c110))
          clear c110
          obtain rfl := Option.some.inj H
          have hnb141 := NB594_577.out
          have hnc141 := NB577_594.out
          have hnb142 := NB594_578.out
          have hnc142 := NB578_594.out
          have hnb143 := NB594_586.out
          have hnc143 := NB586_594.out
          have hnb144 := NB594_590.out
          have hnc144 := NB590_594.out
          have hnb145 := NB594_598.out
          have hnc145 := NB598_594.out
          have hnb146 := NB594_602.out
          have hnc146 := NB602_594.out
          have hnb147 := NB594_606.out
          have hnc147 := NB606_594.out
          have hnb148 := NB594_610.out
          have hnc148 := NB610_594.out
          have hcz149_0 : wc.cell? ⟨gb594, 0, none⟩ = some (.bool t591) := bc_ BK594 0
          have hcz149_1 : wc.cell? ⟨gb594, 1, none⟩ = some (.string t592) := bc_ BK594 1
          have hcz149_2 : wc.cell? ⟨gb594, 2, none⟩ = some (.int .i64 t593) := bc_ BK594 2
          have hfz149_0 := blk_frozen BK594.out 0
          have hfz149_1 := blk_frozen BK594.out 1
          have hfz149_2 := blk_frozen BK594.out 2
          have hnb150 := NB598_577.out
          have hnc150 := NB577_598.out
          have hnb151 := NB598_578.out
          have hnc151 := NB578_598.out
          have hnb152 := NB598_586.out
          have hnc152 := NB586_598.out
          have hnb153 := NB598_590.out
          have hnc153 := NB590_598.out
          have hnb154 := NB598_602.out
          have hnc154 := NB602_598.out
          have hnb155 := NB598_606.out
          have hnc155 := NB606_598.out
          have hnb156 := NB598_610.out
          have hnc156 := NB610_598.out
          have hcz157_0 : wc.cell? ⟨gb598, 0, none⟩ = some (.bool t595) := bc_ BK598 0
          have hcz157_1 : wc.cell? ⟨gb598, 1, none⟩ = some (.string t596) := bc_ BK598 1
          have hcz157_2 : wc.cell? ⟨gb598, 2, none⟩ = some (.int .i64 t597) := bc_ BK598 2
          have hfz157_0 := blk_frozen BK598.out 0
          have hfz157_1 := blk_frozen BK598.out 1
          have hfz157_2 := blk_frozen BK598.out 2
          go_wp2
          go_ret
          exact ⟨by first | rfl | (simp [errW_none, errW_some] <;> rfl) | (simp [*, errW_none, errW_some] <;> first | rfl | exact given_isEmpty _ | exact (given_isEmpty _).symm), by repeat (first | (with_reducible first | exact HB.out | apply below_alloc | apply pw_below_drewN | apply below_drew1 | refine below_set ?_ GE577.out | refine below_set ?_ GE578.out | refine below_set ?_ GE586.out | refine below_set ?_ GE590.out | refine below_set ?_ GE594.out | refine below_set ?_ GE598.out | refine below_set ?_ GE602.out | refine below_set ?_ GE606.out | refine below_set ?_ GE610.out) | exact HB.out)⟩
        ·rw [if_neg c109] at H
         have c109b0 : (t611 == 0) = false := beq_eq_false_iff_ne.mpr c109
         have c109b1 : (t611 != 0) = true := bne_iff_ne.mpr c109
         replace H := Option.bind_eq_some_iff.mp H
         obtain ⟨t618, A1580, H⟩ := H
         replace H : (if (wrap64 (t618 * t611)) ≥ 0 then ((dec_Cmp.f kj31 t603 t604 t605 t607 t608 t609).bind fun t619 => (some (decide ((wrap64 (t619 * t611)) ≥ 0)))) else (some false)) = some r := H
         have A158 := Aside0.mk A1580
         clear A1580
         by_cases c159 : (wrap64 (t618 * t611)) ≥ 0
         ·rw [if_pos c159] at H
          have c159b0 : decide (0 ≤ (wrap64 (t618 * t611))) = true := decide_eq_true c159
          clear c159
          replace H := Option.bind_eq_some_iff.mp H
          obtain ⟨t619, A1600, H⟩ := H
          replace H : (some (decide ((wrap64 (t619 * t611)) ≥ 0))) = some r := H
          have A160 := Aside0.mk A1600
          clear A1600
          obtain rfl := Option.some.inj H
          have hnb161 := NB594_577.out
          have hnc161 := NB577_594.out
          have hnb162 := NB594_578.out
          have hnc162 := NB578_594.out
          have hnb163 := NB594_586.out
          have hnc163 := NB586_594.out
          have hnb164 := NB594_590.out
          have hnc164 := NB590_594.out
          have hnb165 := NB594_598.out
          have hnc165 := NB598_594.out
          have hnb166 := NB594_602.out
          have hnc166 := NB602_594.out
          have hnb167 := NB594_606.out
          have hnc167 := NB606_594.out
          have hnb168 := NB594_610.out
          have hnc168 := NB610_594.out
          have hcz169_0 : wc.cell? ⟨gb594, 0, none⟩ = some (.bool t591) := bc_ BK594 0
          have hcz169_1 : wc.cell? ⟨gb594, 1, none⟩ = some (.string t592) := bc_ BK594 1
          have hcz169_2 : wc.cell? ⟨gb594, 2, none⟩ = some (.int .i64 t593) := bc_ BK594 2
          have hfz169_0 := blk_frozen BK594.out 0
          have hfz169_1 := blk_frozen BK594.out 1
          have hfz169_2 := blk_frozen BK594.out 2
          have hnb170 := NB598_577.out
          have hnc170 := NB577_598.out
          have hnb171 := NB598_578.out
          have hnc171 := NB578_598.out
          have hnb172 := NB598_586.out
          have hnc172 := NB586_598.out
          have hnb173 := NB598_590.out
          have hnc173 := NB590_598.out
          have hnb174 := NB598_602.out
          have hnc174 := NB602_598.out
          have hnb175 := NB598_606.out
          have hnc175 := NB606_598.out
          have hnb176 := NB598_610.out
          have hnc176 := NB610_598.out
          have hcz177_0 : wc.cell? ⟨gb598, 0, none⟩ = some (.bool t595) := bc_ BK598 0
          have hcz177_1 : wc.cell? ⟨gb598, 1, none⟩ = some (.string t596) := bc_ BK598 1
          have hcz177_2 : wc.cell? ⟨gb598, 2, none⟩ = some (.int .i64 t597) := bc_ BK598 2
          have hfz177_0 := blk_frozen BK598.out 0
          have hfz177_1 := blk_frozen BK598.out 1
          have hfz177_2 := blk_frozen BK598.out 2
          go_wp2_with (first | ((with_reducible refine gate_callee (f := 17) rfl ?_); refine goesL_ (some 87) rfl rfl Tryd.func17 (by kernel_rfl) rfl #[.agg #[.bool t591, .string t592, .int .i64 t593], .agg #[.bool t595, .string t596, .int .i64 t597]] rfl (by (try simp only [List.map_toArray, List.map_cons, List.map_nil]); first | done | rfl | (simp only [List.length_drop, List.length_take]; rfl) | (have z_ : ∀ s_ : ByteArray, s_.size ≤ 9223372036854775807 → -(s_.size : Int) = wrap64 (-(s_.size : Int)) := (fun s_ h_ => by unfold wrap64; omega); rw [← z_ _ (by omega)]; rfl) | (simp only [ByteArray.size_append]; rfl)) ?_; (with_reducible refine (dec_Cmp.calls kj31 t591 t592 t593 t595 t596 t597 t618 _ A158.out).mono ?_); rintro e w178 ⟨rfl, hb⟩; refine ⟨_, rfl, ?_⟩; have n0_ := bb_ BK577 hb; have n1_ := bb_ BK578 hb; have n2_ := bb_ BK586 hb; have n3_ := bb_ BK590 hb; have n4_ := bb_ BK594 hb; have n5_ := bb_ BK598 hb; have n6_ := bb_ BK602 hb; have n7_ := bb_ BK606 hb; have n8_ := bb_ BK610 hb; have n9_ := Aside0.mk (below_step (bl_ HB).out hb); clear BK577; clear BK578; clear BK586; clear BK590; clear BK594; clear BK598; clear BK602; clear BK606; clear BK610; clear HB; have BK577 := n0_; have BK578 := n1_; have BK586 := n2_; have BK590 := n3_; have BK594 := n4_; have BK598 := n5_; have BK602 := n6_; have BK606 := n7_; have BK610 := n8_; have HB := n9_; clear n0_ n1_ n2_ n3_ n4_ n5_ n6_ n7_ n8_ n9_; (try clear hb); (try clear hb2); (try clear hk); (try clear hi); have hnb179 := NB606_577.out; have hnc179 := NB577_606.out; have hnb180 := NB606_578.out; have hnc180 := NB578_606.out; have hnb181 := NB606_586.out; have hnc181 := NB586_606.out; have hnb182 := NB606_590.out; have hnc182 := NB590_606.out; have hnb183 := NB606_602.out; have hnc183 := NB602_606.out; have hnb184 := NB606_610.out; have hnc184 := NB610_606.out; have hcz185_0 : w178.cell? ⟨gb606, 0, none⟩ = some (.bool t603) := bc_ BK606 0; have hcz185_1 : w178.cell? ⟨gb606, 1, none⟩ = some (.string t604) := bc_ BK606 1; have hcz185_2 : w178.cell? ⟨gb606, 2, none⟩ = some (.int .i64 t605) := bc_ BK606 2; have hfz185_0 := blk_frozen BK606.out 0; have hfz185_1 := blk_frozen BK606.out 1; have hfz185_2 := blk_frozen BK606.out 2; have hnb186 := NB610_577.out; have hnc186 := NB577_610.out; have hnb187 := NB610_578.out; have hnc187 := NB578_610.out; have hnb188 := NB610_586.out; have hnc188 := NB586_610.out; have hnb189 := NB610_590.out; have hnc189 := NB590_610.out; have hnb190 := NB610_602.out; have hnc190 := NB602_610.out; have hcz191_0 : w178.cell? ⟨gb610, 0, none⟩ = some (.bool t607) := bc_ BK610 0; have hcz191_1 : w178.cell? ⟨gb610, 1, none⟩ = some (.string t608) := bc_ BK610 1; have hcz191_2 : w178.cell? ⟨gb610, 2, none⟩ = some (.int .i64 t609) := bc_ BK610 2; have hfz191_0 := blk_frozen BK610.out 0; have hfz191_1 := blk_frozen BK610.out 1; have hfz191_2 := blk_frozen BK610.out 2) | (go_at_call 17; (with_reducible refine (dec_Cmp.calls kj31 t603 t604 t605 t607 t608 t609 t619 _ A160.out).mono ?_); rintro e w192 ⟨rfl, hb⟩; have n0_ := bb_ BK577 hb; have n1_ := bb_ BK578 hb; have n2_ := bb_ BK586 hb; have n3_ := bb_ BK590 hb; have n4_ := bb_ BK594 hb; have n5_ := bb_ BK598 hb; have n6_ := bb_ BK602 hb; have n7_ := bb_ BK606 hb; have n8_ := bb_ BK610 hb; have n9_ := Aside0.mk (below_step (bl_ HB).out hb); clear BK577; clear BK578; clear BK586; clear BK590; clear BK594; clear BK598; clear BK602; clear BK606; clear BK610; clear HB; have BK577 := n0_; have BK578 := n1_; have BK586 := n2_; have BK590 := n3_; have BK594 := n4_; have BK598 := n5_; have BK602 := n6_; have BK606 := n7_; have BK610 := n8_; have HB := n9_; clear n0_ n1_ n2_ n3_ n4_ n5_ n6_ n7_ n8_ n9_; (try clear hb); (try clear hb2); (try clear hk); (try clear hi)))
          go_ret
          exact ⟨by first | rfl | (simp [errW_none, errW_some] <;> rfl) | (simp [*, errW_none, errW_some] <;> first | rfl | exact given_isEmpty _ | exact (given_isEmpty _).symm), by repeat (first | (with_reducible first | exact HB.out | apply below_alloc | apply pw_below_drewN | apply below_drew1 | refine below_set ?_ GE577.out | refine below_set ?_ GE578.out | refine below_set ?_ GE586.out | refine below_set ?_ GE590.out | refine below_set ?_ GE594.out | refine below_set ?_ GE598.out | refine below_set ?_ GE602.out | refine below_set ?_ GE606.out | refine below_set ?_ GE610.out) | exact HB.out)⟩
         ·rw [if_neg c159] at H
          have c159b0 : decide (0 ≤ (wrap64 (t618 * t611))) = false := decide_eq_false c159
          clear c159
          obtain rfl := Option.some.inj H
          have hnb193 := NB594_577.out
          have hnc193 := NB577_594.out
          have hnb194 := NB594_578.out
          have hnc194 := NB578_594.out
          have hnb195 := NB594_586.out
          have hnc195 := NB586_594.out
          have hnb196 := NB594_590.out
          have hnc196 := NB590_594.out
          have hnb197 := NB594_598.out
          have hnc197 := NB598_594.out
          have hnb198 := NB594_602.out
          have hnc198 := NB602_594.out
          have hnb199 := NB594_606.out
          have hnc199 := NB606_594.out
          have hnb200 := NB594_610.out
          have hnc200 := NB610_594.out
          have hcz201_0 : wc.cell? ⟨gb594, 0, none⟩ = some (.bool t591) := bc_ BK594 0
          have hcz201_1 : wc.cell? ⟨gb594, 1, none⟩ = some (.string t592) := bc_ BK594 1
          have hcz201_2 : wc.cell? ⟨gb594, 2, none⟩ = some (.int .i64 t593) := bc_ BK594 2
          have hfz201_0 := blk_frozen BK594.out 0
          have hfz201_1 := blk_frozen BK594.out 1
          have hfz201_2 := blk_frozen BK594.out 2
          have hnb202 := NB598_577.out
          have hnc202 := NB577_598.out
          have hnb203 := NB598_578.out
          have hnc203 := NB578_598.out
          have hnb204 := NB598_586.out
          have hnc204 := NB586_598.out
          have hnb205 := NB598_590.out
          have hnc205 := NB590_598.out
          have hnb206 := NB598_602.out
          have hnc206 := NB602_598.out
          have hnb207 := NB598_606.out
          have hnc207 := NB606_598.out
          have hnb208 := NB598_610.out
          have hnc208 := NB610_598.out
          have hcz209_0 : wc.cell? ⟨gb598, 0, none⟩ = some (.bool t595) := bc_ BK598 0
          have hcz209_1 : wc.cell? ⟨gb598, 1, none⟩ = some (.string t596) := bc_ BK598 1
          have hcz209_2 : wc.cell? ⟨gb598, 2, none⟩ = some (.int .i64 t597) := bc_ BK598 2
          have hfz209_0 := blk_frozen BK598.out 0
          have hfz209_1 := blk_frozen BK598.out 1
          have hfz209_2 := blk_frozen BK598.out 2
          go_wp2_with (first | ((with_reducible refine gate_callee (f := 17) rfl ?_); refine goesL_ (some 87) rfl rfl Tryd.func17 (by kernel_rfl) rfl #[.agg #[.bool t591, .string t592, .int .i64 t593], .agg #[.bool t595, .string t596, .int .i64 t597]] rfl (by (try simp only [List.map_toArray, List.map_cons, List.map_nil]); first | done | rfl | (simp only [List.length_drop, List.length_take]; rfl) | (have z_ : ∀ s_ : ByteArray, s_.size ≤ 9223372036854775807 → -(s_.size : Int) = wrap64 (-(s_.size : Int)) := (fun s_ h_ => by unfold wrap64; omega); rw [← z_ _ (by omega)]; rfl) | (simp only [ByteArray.size_append]; rfl)) ?_; (with_reducible refine (dec_Cmp.calls kj31 t591 t592 t593 t595 t596 t597 t618 _ A158.out).mono ?_); rintro e w210 ⟨rfl, hb⟩; refine ⟨_, rfl, ?_⟩; have n0_ := bb_ BK577 hb; have n1_ := bb_ BK578 hb; have n2_ := bb_ BK586 hb; have n3_ := bb_ BK590 hb; have n4_ := bb_ BK594 hb; have n5_ := bb_ BK598 hb; have n6_ := bb_ BK602 hb; have n7_ := bb_ BK606 hb; have n8_ := bb_ BK610 hb; have n9_ := Aside0.mk (below_step (bl_ HB).out hb); clear BK577; clear BK578; clear BK586; clear BK590; clear BK594; clear BK598; clear BK602; clear BK606; clear BK610; clear HB; have BK577 := n0_; have BK578 := n1_; have BK586 := n2_; have BK590 := n3_; have BK594 := n4_; have BK598 := n5_; have BK602 := n6_; have BK606 := n7_; have BK610 := n8_; have HB := n9_; clear n0_ n1_ n2_ n3_ n4_ n5_ n6_ n7_ n8_ n9_; (try clear hb); (try clear hb2); (try clear hk); (try clear hi)))
          go_ret
          exact ⟨by first | rfl | (simp [errW_none, errW_some] <;> rfl) | (simp [*, errW_none, errW_some] <;> first | rfl | exact given_isEmpty _ | exact (given_isEmpty _).symm), by repeat (first | (with_reducible first | exact HB.out | apply below_alloc | apply pw_below_drewN | apply below_drew1 | refine below_set ?_ GE577.out | refine below_set ?_ GE578.out | refine below_set ?_ GE586.out | refine below_set ?_ GE590.out | refine below_set ?_ GE594.out | refine below_set ?_ GE598.out | refine below_set ?_ GE602.out | refine below_set ?_ GE606.out | refine below_set ?_ GE610.out) | exact HB.out)⟩
 ·replace c6 := Bool.eq_false_iff.mpr c6
  subst c6
  have H1 : (some false) = some r := by rw [if_neg (show ¬ (false = true) by decide)] at H; exact H
  clear H
  have H := H1
  clear H1
  obtain rfl := Option.some.inj H
  go_enter Tryd.func8, Tryd.ntmps8
  go_wp2_with (first | ((with_reducible refine gate_dst (N := 4) rfl ?_); refine box_event ?hg (N := 4) ?hd (cs := #[.bool a0_0, .slice A0_1 l0_1.length c0_1, .int .i64 a0_2]) (t := 24) ?hr ?_; (case hd => rfl); (case hg => rfl); (case hr => first | (go_simp; done) | (go_simp; rfl)); intro gb577 hg w211 hbox hb; have n0_ := Aside0.mk (below_step (bl_ HB).out hb); have n1_ := Aside0.mk (hbox); have n2_ := Aside0.mk ((by rw [hg]; exact (below_size (bl_ HB).out) : w.heap.size ≤ gb577)); have n3_ := Aside0.mk ((by rw [hg]; exact (below_size (bl_ HB).out) : w.heap.size ≤ gb577)); clear HB; have HB := n0_; have BK577 := n1_; have GW577 := n2_; have GE577 := n3_; clear n0_ n1_ n2_ n3_; clear hb hbox hg) | ((with_reducible refine gate_dst (N := 5) rfl ?_); refine box_event ?hg (N := 5) ?hd (cs := #[.bool a1_0, .slice A1_1 l1_1.length c1_1, .int .i64 a1_2]) (t := 24) ?hr ?_; (case hd => rfl); (case hg => rfl); (case hr => first | (go_simp; done) | (go_simp; rfl)); intro gb578 hg w212 hbox hb; have n0_ := bb_ BK577 hb; have n1_ := Aside0.mk (below_step (bl_ HB).out hb); have n2_ := Aside0.mk (hbox); have n3_ := Aside0.mk ((by rw [hg]; exact (below_size (bl_ HB).out) : w.heap.size ≤ gb578)); have n4_ := Aside0.mk ((by rw [hg]; exact (below_size (bl_ HB).out) : w.heap.size ≤ gb578)); have n5_ := Aside0.mk ((by rw [hg]; exact Nat.ne_of_lt (blk_lt (g := gb577) (o := .cells #[.bool a0_0, .slice A0_1 l0_1.length c0_1, .int .i64 a0_2] 24 (0, 0)) (by (with_reducible repeat (first | refine blk_drewN ?_ _ | refine blk_drew ?_ | refine blk_alloc ?_ _)); exact BK577.out)) : gb577 ≠ gb578)); have n6_ := Aside0.mk ((by rw [hg]; exact Nat.ne_of_gt (blk_lt (g := gb577) (o := .cells #[.bool a0_0, .slice A0_1 l0_1.length c0_1, .int .i64 a0_2] 24 (0, 0)) (by (with_reducible repeat (first | refine blk_drewN ?_ _ | refine blk_drew ?_ | refine blk_alloc ?_ _)); exact BK577.out)) : gb578 ≠ gb577)); clear BK577; clear HB; have BK577 := n0_; have HB := n1_; have BK578 := n2_; have GW578 := n3_; have GE578 := n4_; have NB577_578 := n5_; have NB578_577 := n6_; clear n0_ n1_ n2_ n3_ n4_ n5_ n6_; clear hb hbox hg) | ((with_reducible refine gate_callee (f := 10) rfl ?_); refine goesL_ (some 18) rfl rfl Tryd.func10 (by kernel_rfl) rfl #[] rfl (by (try simp only [List.map_toArray, List.map_cons, List.map_nil]); first | done | rfl | (simp only [List.length_drop, List.length_take]; rfl) | (have z_ : ∀ s_ : ByteArray, s_.size ≤ 9223372036854775807 → -(s_.size : Int) = wrap64 (-(s_.size : Int)) := (fun s_ h_ => by unfold wrap64; omega); rw [← z_ _ (by omega)]; rfl) | (simp only [ByteArray.size_append]; rfl)) ?_; (with_reducible refine (florinlaw03_head.calls k  false _ A5.out).mono ?_); rintro e w213 ⟨rfl, hb⟩; refine ⟨_, rfl, ?_⟩; have n0_ := bb_ BK577 hb; have n1_ := bb_ BK578 hb; have n2_ := Aside0.mk (below_step (bl_ HB).out hb); clear BK577; clear BK578; clear HB; have BK577 := n0_; have BK578 := n1_; have HB := n2_; clear n0_ n1_ n2_; (try clear hb); (try clear hb2); (try clear hk); (try clear hi)))
  go_ret
  exact ⟨by first | rfl | (simp [errW_none, errW_some] <;> rfl) | (simp [*, errW_none, errW_some] <;> first | rfl | exact given_isEmpty _ | exact (given_isEmpty _).symm), by repeat (first | (with_reducible first | exact HB.out | apply below_alloc | apply pw_below_drewN | apply below_drew1 | refine below_set ?_ GE577.out | refine below_set ?_ GE578.out) | exact HB.out)⟩

end Go.Proofs.YtoegmienlhgjnaaDoor.P
