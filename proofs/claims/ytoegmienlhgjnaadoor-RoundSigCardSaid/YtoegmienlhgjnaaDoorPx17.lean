-- written by a program of this session (wip/p2)
import Derived.Test.YtoegmienlhgjnaaDoorPx0
import Derived.Test.YtoegmienlhgjnaaDoorPx1
import Derived.Test.YtoegmienlhgjnaaDoorPx2
import Derived.Test.YtoegmienlhgjnaaDoorPx11
import Derived.Test.YtoegmienlhgjnaaDoorPx16
namespace Go.Proofs.YtoegmienlhgjnaaDoor.P
open Go.RowKit Go.Proofs.YtoegmienlhgjnaaDoorW.PrintWords Go.Proofs.YtoegmienlhgjnaaDoorW.PrintLast Go.Proofs.YtoegmienlhgjnaaDoorW.PrintMore
attribute [local go_sem] max2_int min2_int max_two min_two max_three min_three max_four min_four   -- for this text's walks alone
set_option linter.unusedVariables false
set_option linter.unusedSimpArgs false

attribute [local go_sem high] eqA30
/-! ### florinlaw03_Rounded: function 27 -/
def florinlaw03_Rounded.j0 : Nat → Int → Bool → Bool → ByteArray → Int → Bool → ByteArray → Int → Bool → ByteArray → Int → Bool → ByteArray → Int → Option (Bool)
 | 0, _, _, _, _, _, _, _, _, _, _, _, _, _, _ => none
 | k + 1, x3, x35, x505000, x505001, x505002, x506000, x506001, x506002, x507000, x507001, x507002, x515000, x515001, x515002 => if x35 = true then (some false) else ((dec_Dec_Abs.f k x506000 x506001 x506002).bind fun bt521 => ((dec_Dec_Abs.f k x505000 x505001 x505002).bind fun bt524 => ((dec_Cmp.f k bt521.1 bt521.2.1 bt521.2.2 bt524.1 bt524.2.1 bt524.2.2).bind fun t527 => ((dec_Dec_Abs.f k x515000 x515001 x515002).bind fun bt528 => ((florinlaw03_twice.f k bt528.1 bt528.2.1 bt528.2.2).bind fun bt531 => ((dec_Cmp.f k bt531.1 bt531.2.1 bt531.2.2 x507000 x507001 x507002).bind fun t534 => (if x3 = 3 then (some (decide (t527 > 0))) else (if x3 = 4 then (some (!(decide (t527 > 0)))) else (if x3 = 5 then (some x515000) else (if x3 = 6 then (some (!x515000)) else (if x3 = 1 then (if t534 < 0 then (some true) else (if t534 = 0 then (some (decide (t527 > 0))) else (some false))) else (if x3 = 2 then (if t534 < 0 then (some true) else (if t534 = 0 then (some (!(decide (t527 > 0)))) else (some false))) else (if t534 < 0 then (some true) else (if t534 = 0 then ((florinlaw03_even.f k x506000 x506001 x506002 x507000 x507001 x507002).bind fun t535 => (some t535)) else (some false)))))))))))))))
def florinlaw03_Rounded.f (k : Nat) (a0_0 : Bool) (a0_1 : ByteArray) (a0_2 : Int) (a1_0 : Bool) (a1_1 : ByteArray) (a1_2 : Int) (a2_0 : Bool) (a2_1 : ByteArray) (a2_2 : Int) (a3 : Int) : Option (Bool) := (dec_Dec_Norm.f k a0_0 a0_1 a0_2).bind fun bt507 => ((florinlaw03_multiple.f k a1_0 a1_1 a1_2 a2_0 a2_1 a2_2).bind fun t510 => (if t510 = true then ((dec_Sub.f k bt507.1 bt507.2.1 bt507.2.2 a1_0 a1_1 a1_2).bind fun bt511 => ((dec_Dec_Zero.f k bt511.1 bt511.2.1 bt511.2.2).bind fun t515 => (if t515 = true then (some (a1_0 == bt507.1 && (a1_1.toList == bt507.2.1.toList && (a1_2 == bt507.2.2)))) else ((florinlaw03_multiple.f k bt507.1 bt507.2.1 bt507.2.2 a2_0 a2_1 a2_2).bind fun t516 => (if t516 = true then (florinlaw03_Rounded.j0 k a3 true bt507.1 bt507.2.1 bt507.2.2 a1_0 a1_1 a1_2 a2_0 a2_1 a2_2 bt511.1 bt511.2.1 bt511.2.2) else ((dec_Dec_Abs.f k bt511.1 bt511.2.1 bt511.2.2).bind fun bt517 => ((dec_Cmp.f k bt517.1 bt517.2.1 bt517.2.2 a2_0 a2_1 a2_2).bind fun t520 => (florinlaw03_Rounded.j0 k a3 (decide (t520 ≥ 0)) bt507.1 bt507.2.1 bt507.2.2 a1_0 a1_1 a1_2 a2_0 a2_1 a2_2 bt511.1 bt511.2.1 bt511.2.2)))))))) else (some false)))
theorem florinlaw03_Rounded.mono_l : ∀ k, (∀ y0 y1 y2 y3 y4 y5 y6 y7 y8 y9 y10 y11 y12 y13, LeO (florinlaw03_Rounded.j0 k y0 y1 y2 y3 y4 y5 y6 y7 y8 y9 y10 y11 y12 y13) (florinlaw03_Rounded.j0 (k + 1) y0 y1 y2 y3 y4 y5 y6 y7 y8 y9 y10 y11 y12 y13))
 | 0 => fun _ _ _ _ _ _ _ _ _ _ _ _ _ _ r h => by simp [florinlaw03_Rounded.j0] at h
 | k + 1 => by
  have ih0 := florinlaw03_Rounded.mono_l k
  ·intro y0 y1 y2 y3 y4 y5 y6 y7 y8 y9 y10 y11 y12 y13
   unfold florinlaw03_Rounded.j0
   repeat' first
   | (with_reducible exact ih0 _ _ _ _ _ _ _ _ _ _ _ _ _ _)
   | (with_reducible exact dec_Cmp.mono _ _ _ _ _ _ _)
   | (with_reducible exact dec_Dec_Abs.mono _ _ _ _)
   | (with_reducible exact dec_Dec_Norm.mono _ _ _ _)
   | (with_reducible exact dec_Dec_Zero.mono _ _ _ _)
   | (with_reducible exact dec_Sub.mono _ _ _ _ _ _ _)
   | (with_reducible exact florinlaw03_even.mono _ _ _ _ _ _ _)
   | (with_reducible exact florinlaw03_multiple.mono _ _ _ _ _ _ _)
   | (with_reducible exact florinlaw03_twice.mono _ _ _ _)
   | (with_reducible exact LeO.refl _)
   | (with_reducible exact LeO.none _)
   | (with_reducible refine LeO.ite ?_ ?_)
   | (with_reducible refine LeO.bind ?_ (fun _ => ?_))
   | exact ih0 _ _ _ _ _ _ _ _ _ _ _ _ _ _
   | exact dec_Cmp.mono _ _ _ _ _ _ _
   | exact dec_Dec_Abs.mono _ _ _ _
   | exact dec_Dec_Norm.mono _ _ _ _
   | exact dec_Dec_Zero.mono _ _ _ _
   | exact dec_Sub.mono _ _ _ _ _ _ _
   | exact florinlaw03_even.mono _ _ _ _ _ _ _
   | exact florinlaw03_multiple.mono _ _ _ _ _ _ _
   | exact florinlaw03_twice.mono _ _ _ _
   | exact LeO.none _
   | refine LeO.ite ?_ ?_
   | refine LeO.bind ?_ (fun _ => ?_)
theorem florinlaw03_Rounded.mono : ∀ a0 a1 a2 a3 a4 a5 a6 a7 a8 a9 k, LeO (florinlaw03_Rounded.f k a0 a1 a2 a3 a4 a5 a6 a7 a8 a9) (florinlaw03_Rounded.f (k + 1) a0 a1 a2 a3 a4 a5 a6 a7 a8 a9) := by
 intro a0 a1 a2 a3 a4 a5 a6 a7 a8 a9 k
 have ih0 := florinlaw03_Rounded.mono_l k
 unfold florinlaw03_Rounded.f
 repeat' first
   | (with_reducible exact ih0 _ _ _ _ _ _ _ _ _ _ _ _ _ _)
   | (with_reducible exact dec_Cmp.mono _ _ _ _ _ _ _)
   | (with_reducible exact dec_Dec_Abs.mono _ _ _ _)
   | (with_reducible exact dec_Dec_Norm.mono _ _ _ _)
   | (with_reducible exact dec_Dec_Zero.mono _ _ _ _)
   | (with_reducible exact dec_Sub.mono _ _ _ _ _ _ _)
   | (with_reducible exact florinlaw03_even.mono _ _ _ _ _ _ _)
   | (with_reducible exact florinlaw03_multiple.mono _ _ _ _ _ _ _)
   | (with_reducible exact florinlaw03_twice.mono _ _ _ _)
   | (with_reducible exact LeO.refl _)
   | (with_reducible exact LeO.none _)
   | (with_reducible refine LeO.ite ?_ ?_)
   | (with_reducible refine LeO.bind ?_ (fun _ => ?_))
   | exact ih0 _ _ _ _ _ _ _ _ _ _ _ _ _ _
   | exact dec_Cmp.mono _ _ _ _ _ _ _
   | exact dec_Dec_Abs.mono _ _ _ _
   | exact dec_Dec_Norm.mono _ _ _ _
   | exact dec_Dec_Zero.mono _ _ _ _
   | exact dec_Sub.mono _ _ _ _ _ _ _
   | exact florinlaw03_even.mono _ _ _ _ _ _ _
   | exact florinlaw03_multiple.mono _ _ _ _ _ _ _
   | exact florinlaw03_twice.mono _ _ _ _
   | exact LeO.none _
   | refine LeO.ite ?_ ?_
   | refine LeO.bind ?_ (fun _ => ?_)
def florinlaw03_Rounded.T7 : Bool × List (List Nat × List Nat) := (true, [([], []), ([], []), ([0, 1], [0, 1]), ([2, 2], [2]), ([3], [3]), ([4, 3, 3], [3, 4]), ([3], [3]), ([5, 6, 5, 3], [3, 5, 6]), ([7, 3], [3, 7]), ([3, 8], [3, 8])])
def florinlaw03_Rounded.B7 : List Nat := [0, 0, 3, 7, 15, 31, 15, 127, 255, 511]
theorem florinlaw03_Rounded.tab7 : rtab .any (opsOf Tryd.f27 7) = florinlaw03_Rounded.T7 := by kernel_rfl
theorem florinlaw03_Rounded.bits7 : waitsOk florinlaw03_Rounded.T7.2 florinlaw03_Rounded.B7 = true := by kernel_rfl
set_option maxHeartbeats 8000000 in
set_option maxRecDepth 100000 in
theorem florinlaw03_Rounded.calls (k : Nat) (a0_0 : Bool) (a0_1 : ByteArray) (a0_2 : Int) (a1_0 : Bool) (a1_1 : ByteArray) (a1_2 : Int) (a2_0 : Bool) (a2_1 : ByteArray) (a2_2 : Int) (a3 : Int) (r : Bool) (w : World) (h : florinlaw03_Rounded.f k a0_0 a0_1 a0_2 a1_0 a1_1 a1_2 a2_0 a2_1 a2_2 a3 = some r) :
  Calls Tryd.prog 27 #[.agg #[.bool a0_0, .string a0_1, .int .i64 a0_2], .agg #[.bool a1_0, .string a1_1, .int .i64 a1_2], .agg #[.bool a2_0, .string a2_1, .int .i64 a2_2], .int .i64 a3] w fun e w' => e = .returned (.bool r) ∧ Below w.heap.size w w' := by
 have hu30 := Tryd.underlying30
 have HB := Aside0.mk (Below.refl w.heap.size w)
 have H : ((dec_Dec_Norm.f k a0_0 a0_1 a0_2).bind fun bt507 => ((florinlaw03_multiple.f k a1_0 a1_1 a1_2 a2_0 a2_1 a2_2).bind fun t510 => (if t510 = true then ((dec_Sub.f k bt507.1 bt507.2.1 bt507.2.2 a1_0 a1_1 a1_2).bind fun bt511 => ((dec_Dec_Zero.f k bt511.1 bt511.2.1 bt511.2.2).bind fun t515 => (if t515 = true then (some (a1_0 == bt507.1 && (a1_1.toList == bt507.2.1.toList && (a1_2 == bt507.2.2)))) else ((florinlaw03_multiple.f k bt507.1 bt507.2.1 bt507.2.2 a2_0 a2_1 a2_2).bind fun t516 => (if t516 = true then (florinlaw03_Rounded.j0 k a3 true bt507.1 bt507.2.1 bt507.2.2 a1_0 a1_1 a1_2 a2_0 a2_1 a2_2 bt511.1 bt511.2.1 bt511.2.2) else ((dec_Dec_Abs.f k bt511.1 bt511.2.1 bt511.2.2).bind fun bt517 => ((dec_Cmp.f k bt517.1 bt517.2.1 bt517.2.2 a2_0 a2_1 a2_2).bind fun t520 => (florinlaw03_Rounded.j0 k a3 (decide (t520 ≥ 0)) bt507.1 bt507.2.1 bt507.2.2 a1_0 a1_1 a1_2 a2_0 a2_1 a2_2 bt511.1 bt511.2.1 bt511.2.2)))))))) else (some false)))) = some r := h
 clear h
 replace H := Option.bind_eq_some_iff.mp H
 obtain ⟨⟨t507, t508, t509⟩, A50, H⟩ := H
 replace H : ((florinlaw03_multiple.f k a1_0 a1_1 a1_2 a2_0 a2_1 a2_2).bind fun t510 => (if t510 = true then ((dec_Sub.f k t507 t508 t509 a1_0 a1_1 a1_2).bind fun bt511 => ((dec_Dec_Zero.f k bt511.1 bt511.2.1 bt511.2.2).bind fun t515 => (if t515 = true then (some (a1_0 == t507 && (a1_1.toList == t508.toList && (a1_2 == t509)))) else ((florinlaw03_multiple.f k t507 t508 t509 a2_0 a2_1 a2_2).bind fun t516 => (if t516 = true then (florinlaw03_Rounded.j0 k a3 true t507 t508 t509 a1_0 a1_1 a1_2 a2_0 a2_1 a2_2 bt511.1 bt511.2.1 bt511.2.2) else ((dec_Dec_Abs.f k bt511.1 bt511.2.1 bt511.2.2).bind fun bt517 => ((dec_Cmp.f k bt517.1 bt517.2.1 bt517.2.2 a2_0 a2_1 a2_2).bind fun t520 => (florinlaw03_Rounded.j0 k a3 (decide (t520 ≥ 0)) t507 t508 t509 a1_0 a1_1 a1_2 a2_0 a2_1 a2_2 bt511.1 bt511.2.1 bt511.2.2)))))))) else (some false))) = some r := H
 have A5 := Aside0.mk A50
 clear A50
 replace H := Option.bind_eq_some_iff.mp H
 obtain ⟨t510, A60, H⟩ := H
 replace H : (if t510 = true then ((dec_Sub.f k t507 t508 t509 a1_0 a1_1 a1_2).bind fun bt511 => ((dec_Dec_Zero.f k bt511.1 bt511.2.1 bt511.2.2).bind fun t515 => (if t515 = true then (some (a1_0 == t507 && (a1_1.toList == t508.toList && (a1_2 == t509)))) else ((florinlaw03_multiple.f k t507 t508 t509 a2_0 a2_1 a2_2).bind fun t516 => (if t516 = true then (florinlaw03_Rounded.j0 k a3 true t507 t508 t509 a1_0 a1_1 a1_2 a2_0 a2_1 a2_2 bt511.1 bt511.2.1 bt511.2.2) else ((dec_Dec_Abs.f k bt511.1 bt511.2.1 bt511.2.2).bind fun bt517 => ((dec_Cmp.f k bt517.1 bt517.2.1 bt517.2.2 a2_0 a2_1 a2_2).bind fun t520 => (florinlaw03_Rounded.j0 k a3 (decide (t520 ≥ 0)) t507 t508 t509 a1_0 a1_1 a1_2 a2_0 a2_1 a2_2 bt511.1 bt511.2.1 bt511.2.2)))))))) else (some false)) = some r := H
 have A6 := Aside0.mk A60
 clear A60
 by_cases c7 : t510 = true
 ·subst c7
  have H1 : ((dec_Sub.f k t507 t508 t509 a1_0 a1_1 a1_2).bind fun bt511 => ((dec_Dec_Zero.f k bt511.1 bt511.2.1 bt511.2.2).bind fun t515 => (if t515 = true then (some (a1_0 == t507 && (a1_1.toList == t508.toList && (a1_2 == t509)))) else ((florinlaw03_multiple.f k t507 t508 t509 a2_0 a2_1 a2_2).bind fun t516 => (if t516 = true then (florinlaw03_Rounded.j0 k a3 true t507 t508 t509 a1_0 a1_1 a1_2 a2_0 a2_1 a2_2 bt511.1 bt511.2.1 bt511.2.2) else ((dec_Dec_Abs.f k bt511.1 bt511.2.1 bt511.2.2).bind fun bt517 => ((dec_Cmp.f k bt517.1 bt517.2.1 bt517.2.2 a2_0 a2_1 a2_2).bind fun t520 => (florinlaw03_Rounded.j0 k a3 (decide (t520 ≥ 0)) t507 t508 t509 a1_0 a1_1 a1_2 a2_0 a2_1 a2_2 bt511.1 bt511.2.1 bt511.2.2)))))))) = some r := by rw [if_pos rfl] at H; exact H
  clear H
  have H := H1
  clear H1
  replace H := Option.bind_eq_some_iff.mp H
  obtain ⟨⟨t511, t512, t513⟩, A80, H⟩ := H
  replace H : ((dec_Dec_Zero.f k t511 t512 t513).bind fun t515 => (if t515 = true then (some (a1_0 == t507 && (a1_1.toList == t508.toList && (a1_2 == t509)))) else ((florinlaw03_multiple.f k t507 t508 t509 a2_0 a2_1 a2_2).bind fun t516 => (if t516 = true then (florinlaw03_Rounded.j0 k a3 true t507 t508 t509 a1_0 a1_1 a1_2 a2_0 a2_1 a2_2 t511 t512 t513) else ((dec_Dec_Abs.f k t511 t512 t513).bind fun bt517 => ((dec_Cmp.f k bt517.1 bt517.2.1 bt517.2.2 a2_0 a2_1 a2_2).bind fun t520 => (florinlaw03_Rounded.j0 k a3 (decide (t520 ≥ 0)) t507 t508 t509 a1_0 a1_1 a1_2 a2_0 a2_1 a2_2 t511 t512 t513))))))) = some r := H
  have A8 := Aside0.mk A80
  clear A80
  replace H := Option.bind_eq_some_iff.mp H
  obtain ⟨t515, A90, H⟩ := H
  replace H : (if t515 = true then (some (a1_0 == t507 && (a1_1.toList == t508.toList && (a1_2 == t509)))) else ((florinlaw03_multiple.f k t507 t508 t509 a2_0 a2_1 a2_2).bind fun t516 => (if t516 = true then (florinlaw03_Rounded.j0 k a3 true t507 t508 t509 a1_0 a1_1 a1_2 a2_0 a2_1 a2_2 t511 t512 t513) else ((dec_Dec_Abs.f k t511 t512 t513).bind fun bt517 => ((dec_Cmp.f k bt517.1 bt517.2.1 bt517.2.2 a2_0 a2_1 a2_2).bind fun t520 => (florinlaw03_Rounded.j0 k a3 (decide (t520 ≥ 0)) t507 t508 t509 a1_0 a1_1 a1_2 a2_0 a2_1 a2_2 t511 t512 t513)))))) = some r := H
  have A9 := Aside0.mk A90
  clear A90
  by_cases c10 : t515 = true
  ·subst c10
   have H1 : (some (a1_0 == t507 && (a1_1.toList == t508.toList && (a1_2 == t509)))) = some r := by rw [if_pos rfl] at H; exact H
   clear H
   have H := H1
   clear H1
   obtain rfl := Option.some.inj H
   go_enter Tryd.func27, Tryd.ntmps27
   go_wp2_with (first | ((with_reducible refine gate_dst (N := 4) rfl ?_); refine box_event ?hg (N := 4) ?hd (cs := #[.bool a0_0, .string a0_1, .int .i64 a0_2]) (t := 30) ?hr ?_; (case hd => rfl); (case hg => rfl); (case hr => first | (go_simp; done) | (go_simp; rfl)); intro gb504 hg w11 hbox hb; have n0_ := Aside0.mk (below_step (bl_ HB).out hb); have n1_ := Aside0.mk (hbox); have n2_ := Aside0.mk ((by rw [hg]; exact (below_size (bl_ HB).out) : w.heap.size ≤ gb504)); have n3_ := Aside0.mk ((by rw [hg]; exact (below_size (bl_ HB).out) : w.heap.size ≤ gb504)); clear HB; have HB := n0_; have BK504 := n1_; have GW504 := n2_; have GE504 := n3_; clear n0_ n1_ n2_ n3_; clear hb hbox hg) | ((with_reducible refine gate_dst (N := 5) rfl ?_); refine box_event ?hg (N := 5) ?hd (cs := #[.bool a1_0, .string a1_1, .int .i64 a1_2]) (t := 30) ?hr ?_; (case hd => rfl); (case hg => rfl); (case hr => first | (go_simp; done) | (go_simp; rfl)); intro gb505 hg w12 hbox hb; have n0_ := bb_ BK504 hb; have n1_ := Aside0.mk (below_step (bl_ HB).out hb); have n2_ := Aside0.mk (hbox); have n3_ := Aside0.mk ((by rw [hg]; exact (below_size (bl_ HB).out) : w.heap.size ≤ gb505)); have n4_ := Aside0.mk ((by rw [hg]; exact (below_size (bl_ HB).out) : w.heap.size ≤ gb505)); have n5_ := Aside0.mk ((by rw [hg]; exact Nat.ne_of_lt (blk_lt (g := gb504) (o := .cells #[.bool a0_0, .string a0_1, .int .i64 a0_2] 30 (0, 0)) (by (with_reducible repeat (first | refine blk_drewN ?_ _ | refine blk_drew ?_ | refine blk_alloc ?_ _)); exact BK504.out)) : gb504 ≠ gb505)); have n6_ := Aside0.mk ((by rw [hg]; exact Nat.ne_of_gt (blk_lt (g := gb504) (o := .cells #[.bool a0_0, .string a0_1, .int .i64 a0_2] 30 (0, 0)) (by (with_reducible repeat (first | refine blk_drewN ?_ _ | refine blk_drew ?_ | refine blk_alloc ?_ _)); exact BK504.out)) : gb505 ≠ gb504)); clear BK504; clear HB; have BK504 := n0_; have HB := n1_; have BK505 := n2_; have GW505 := n3_; have GE505 := n4_; have NB504_505 := n5_; have NB505_504 := n6_; clear n0_ n1_ n2_ n3_ n4_ n5_ n6_; clear hb hbox hg) | ((with_reducible refine gate_dst (N := 6) rfl ?_); refine box_event ?hg (N := 6) ?hd (cs := #[.bool a2_0, .string a2_1, .int .i64 a2_2]) (t := 30) ?hr ?_; (case hd => rfl); (case hg => rfl); (case hr => first | (go_simp; done) | (go_simp; rfl)); intro gb506 hg w13 hbox hb; have n0_ := bb_ BK504 hb; have n1_ := bb_ BK505 hb; have n2_ := Aside0.mk (below_step (bl_ HB).out hb); have n3_ := Aside0.mk (hbox); have n4_ := Aside0.mk ((by rw [hg]; exact (below_size (bl_ HB).out) : w.heap.size ≤ gb506)); have n5_ := Aside0.mk ((by rw [hg]; exact (below_size (bl_ HB).out) : w.heap.size ≤ gb506)); have n6_ := Aside0.mk ((by rw [hg]; exact Nat.ne_of_lt (blk_lt (g := gb504) (o := .cells #[.bool a0_0, .string a0_1, .int .i64 a0_2] 30 (0, 0)) (by (with_reducible repeat (first | refine blk_drewN ?_ _ | refine blk_drew ?_ | refine blk_alloc ?_ _)); exact BK504.out)) : gb504 ≠ gb506)); have n7_ := Aside0.mk ((by rw [hg]; exact Nat.ne_of_gt (blk_lt (g := gb504) (o := .cells #[.bool a0_0, .string a0_1, .int .i64 a0_2] 30 (0, 0)) (by (with_reducible repeat (first | refine blk_drewN ?_ _ | refine blk_drew ?_ | refine blk_alloc ?_ _)); exact BK504.out)) : gb506 ≠ gb504)); have n8_ := Aside0.mk ((by rw [hg]; exact Nat.ne_of_lt (blk_lt (g := gb505) (o := .cells #[.bool a1_0, .string a1_1, .int .i64 a1_2] 30 (0, 0)) (by (with_reducible repeat (first | refine blk_drewN ?_ _ | refine blk_drew ?_ | refine blk_alloc ?_ _)); exact BK505.out)) : gb505 ≠ gb506)); have n9_ := Aside0.mk ((by rw [hg]; exact Nat.ne_of_gt (blk_lt (g := gb505) (o := .cells #[.bool a1_0, .string a1_1, .int .i64 a1_2] 30 (0, 0)) (by (with_reducible repeat (first | refine blk_drewN ?_ _ | refine blk_drew ?_ | refine blk_alloc ?_ _)); exact BK505.out)) : gb506 ≠ gb505)); clear BK504; clear BK505; clear HB; have BK504 := n0_; have BK505 := n1_; have HB := n2_; have BK506 := n3_; have GW506 := n4_; have GE506 := n5_; have NB504_506 := n6_; have NB506_504 := n7_; have NB505_506 := n8_; have NB506_505 := n9_; clear n0_ n1_ n2_ n3_ n4_ n5_ n6_ n7_ n8_ n9_; clear hb hbox hg; have hnb14 := NB504_505.out; have hnc14 := NB505_504.out; have hnb15 := NB504_506.out; have hnc15 := NB506_504.out; have hcz16_0 : w13.cell? ⟨gb504, 0, none⟩ = some (.bool a0_0) := bc_ BK504 0; have hcz16_1 : w13.cell? ⟨gb504, 1, none⟩ = some (.string a0_1) := bc_ BK504 1; have hcz16_2 : w13.cell? ⟨gb504, 2, none⟩ = some (.int .i64 a0_2) := bc_ BK504 2; have hfz16_0 := blk_frozen BK504.out 0; have hfz16_1 := blk_frozen BK504.out 1; have hfz16_2 := blk_frozen BK504.out 2) | ((with_reducible refine gate_callee (f := 22) rfl ?_); refine goesL_ (some 13) rfl rfl Tryd.func22 (by kernel_rfl) rfl #[.agg #[.bool a0_0, .string a0_1, .int .i64 a0_2]] rfl (by (try simp only [List.map_toArray, List.map_cons, List.map_nil]); first | done | rfl | (simp only [List.length_drop, List.length_take]; rfl) | (have z_ : ∀ s_ : ByteArray, s_.size ≤ 9223372036854775807 → -(s_.size : Int) = wrap64 (-(s_.size : Int)) := (fun s_ h_ => by unfold wrap64; omega); rw [← z_ _ (by omega)]; rfl) | (simp only [ByteArray.size_append]; rfl)) ?_; (with_reducible refine (dec_Dec_Norm.calls k a0_0 a0_1 a0_2 t507 t508 t509 _ A5.out).mono ?_); rintro e w17 ⟨rfl, hb⟩; refine ⟨_, rfl, ?_⟩; have n0_ := bb_ BK504 hb; have n1_ := bb_ BK505 hb; have n2_ := bb_ BK506 hb; have n3_ := Aside0.mk (below_step (bl_ HB).out hb); clear BK504; clear BK505; clear BK506; clear HB; have BK504 := n0_; have BK505 := n1_; have BK506 := n2_; have HB := n3_; clear n0_ n1_ n2_ n3_; (try clear hb); (try clear hb2); (try clear hk); (try clear hi); have hcz18_0 : w17.cell? ⟨gb504, 0, none⟩ = some (.bool a0_0) := bc_ BK504 0; have hcz18_1 : w17.cell? ⟨gb504, 1, none⟩ = some (.string a0_1) := bc_ BK504 1; have hcz18_2 : w17.cell? ⟨gb504, 2, none⟩ = some (.int .i64 a0_2) := bc_ BK504 2; have hfz18_0 := blk_frozen BK504.out 0; have hfz18_1 := blk_frozen BK504.out 1; have hfz18_2 := blk_frozen BK504.out 2; have hnb19 := NB505_506.out; have hnc19 := NB506_505.out; have hcz20_0 : w17.cell? ⟨gb505, 0, none⟩ = some (.bool a1_0) := bc_ BK505 0; have hcz20_1 : w17.cell? ⟨gb505, 1, none⟩ = some (.string a1_1) := bc_ BK505 1; have hcz20_2 : w17.cell? ⟨gb505, 2, none⟩ = some (.int .i64 a1_2) := bc_ BK505 2; have hfz20_0 := blk_frozen BK505.out 0; have hfz20_1 := blk_frozen BK505.out 1; have hfz20_2 := blk_frozen BK505.out 2; have hcz21_0 : w17.cell? ⟨gb506, 0, none⟩ = some (.bool a2_0) := bc_ BK506 0; have hcz21_1 : w17.cell? ⟨gb506, 1, none⟩ = some (.string a2_1) := bc_ BK506 1; have hcz21_2 : w17.cell? ⟨gb506, 2, none⟩ = some (.int .i64 a2_2) := bc_ BK506 2; have hfz21_0 := blk_frozen BK506.out 0; have hfz21_1 := blk_frozen BK506.out 1; have hfz21_2 := blk_frozen BK506.out 2) | ((with_reducible refine gate_callee (f := 47) rfl ?_); refine goesL_ (some 16) rfl rfl Tryd.func47 (by kernel_rfl) rfl #[.agg #[.bool a1_0, .string a1_1, .int .i64 a1_2], .agg #[.bool a2_0, .string a2_1, .int .i64 a2_2]] rfl (by (try simp only [List.map_toArray, List.map_cons, List.map_nil]); first | done | rfl | (simp only [List.length_drop, List.length_take]; rfl) | (have z_ : ∀ s_ : ByteArray, s_.size ≤ 9223372036854775807 → -(s_.size : Int) = wrap64 (-(s_.size : Int)) := (fun s_ h_ => by unfold wrap64; omega); rw [← z_ _ (by omega)]; rfl) | (simp only [ByteArray.size_append]; rfl)) ?_; (with_reducible refine (florinlaw03_multiple.calls k a1_0 a1_1 a1_2 a2_0 a2_1 a2_2 true _ A6.out).mono ?_); rintro e w22 ⟨rfl, hb⟩; refine ⟨_, rfl, ?_⟩; have n0_ := Aside0.mk (blk_below (g := gb504) (o := .cells #[.bool t507, .string t508, .int .i64 t509] 30 (0, 0)) (by (with_reducible repeat (first | refine blk_drewN ?_ _ | refine blk_drew ?_ | refine blk_alloc ?_ _)); refine blk_put (cs := #[.bool t507, .string t508, .int .i64 a0_2]) ?_ 2 _ rfl; (with_reducible repeat (first | refine blk_drewN ?_ _ | refine blk_drew ?_ | refine blk_alloc ?_ _)); refine blk_put (cs := #[.bool t507, .string a0_1, .int .i64 a0_2]) ?_ 1 _ rfl; (with_reducible repeat (first | refine blk_drewN ?_ _ | refine blk_drew ?_ | refine blk_alloc ?_ _)); refine blk_put (cs := #[.bool a0_0, .string a0_1, .int .i64 a0_2]) ?_ 0 _ rfl; (with_reducible repeat (first | refine blk_drewN ?_ _ | refine blk_drew ?_ | refine blk_alloc ?_ _)); exact BK504.out) hb); have n1_ := Aside0.mk (blk_below (g := gb505) (o := .cells #[.bool a1_0, .string a1_1, .int .i64 a1_2] 30 (0, 0)) (by (with_reducible repeat (first | refine blk_drewN ?_ _ | refine blk_drew ?_ | refine blk_alloc ?_ _)); refine blk_far ?_ NB505_504.out _; (with_reducible repeat (first | refine blk_drewN ?_ _ | refine blk_drew ?_ | refine blk_alloc ?_ _)); refine blk_far ?_ NB505_504.out _; (with_reducible repeat (first | refine blk_drewN ?_ _ | refine blk_drew ?_ | refine blk_alloc ?_ _)); refine blk_far ?_ NB505_504.out _; (with_reducible repeat (first | refine blk_drewN ?_ _ | refine blk_drew ?_ | refine blk_alloc ?_ _)); exact BK505.out) hb); have n2_ := Aside0.mk (blk_below (g := gb506) (o := .cells #[.bool a2_0, .string a2_1, .int .i64 a2_2] 30 (0, 0)) (by (with_reducible repeat (first | refine blk_drewN ?_ _ | refine blk_drew ?_ | refine blk_alloc ?_ _)); refine blk_far ?_ NB506_504.out _; (with_reducible repeat (first | refine blk_drewN ?_ _ | refine blk_drew ?_ | refine blk_alloc ?_ _)); refine blk_far ?_ NB506_504.out _; (with_reducible repeat (first | refine blk_drewN ?_ _ | refine blk_drew ?_ | refine blk_alloc ?_ _)); refine blk_far ?_ NB506_504.out _; (with_reducible repeat (first | refine blk_drewN ?_ _ | refine blk_drew ?_ | refine blk_alloc ?_ _)); exact BK506.out) hb); have n3_ := Aside0.mk (below_step (bl_ HB).out hb); clear BK504; clear BK505; clear BK506; clear HB; have BK504 := n0_; have BK505 := n1_; have BK506 := n2_; have HB := n3_; clear n0_ n1_ n2_ n3_; (try clear hb); (try clear hb2); (try clear hk); (try clear hi); have hcz23_0 : w22.cell? ⟨gb504, 0, none⟩ = some (.bool t507) := bc_ BK504 0; have hcz23_1 : w22.cell? ⟨gb504, 1, none⟩ = some (.string t508) := bc_ BK504 1; have hcz23_2 : w22.cell? ⟨gb504, 2, none⟩ = some (.int .i64 t509) := bc_ BK504 2; have hfz23_0 := blk_frozen BK504.out 0; have hfz23_1 := blk_frozen BK504.out 1; have hfz23_2 := blk_frozen BK504.out 2; have hcz24_0 : w22.cell? ⟨gb505, 0, none⟩ = some (.bool a1_0) := bc_ BK505 0; have hcz24_1 : w22.cell? ⟨gb505, 1, none⟩ = some (.string a1_1) := bc_ BK505 1; have hcz24_2 : w22.cell? ⟨gb505, 2, none⟩ = some (.int .i64 a1_2) := bc_ BK505 2; have hfz24_0 := blk_frozen BK505.out 0; have hfz24_1 := blk_frozen BK505.out 1; have hfz24_2 := blk_frozen BK505.out 2) | ((with_reducible refine gate_callee (f := 15) rfl ?_); refine goesL_ (some 20) rfl rfl Tryd.func15 (by kernel_rfl) rfl #[.agg #[.bool t507, .string t508, .int .i64 t509], .agg #[.bool a1_0, .string a1_1, .int .i64 a1_2]] rfl (by (try simp only [List.map_toArray, List.map_cons, List.map_nil]); first | done | rfl | (simp only [List.length_drop, List.length_take]; rfl) | (have z_ : ∀ s_ : ByteArray, s_.size ≤ 9223372036854775807 → -(s_.size : Int) = wrap64 (-(s_.size : Int)) := (fun s_ h_ => by unfold wrap64; omega); rw [← z_ _ (by omega)]; rfl) | (simp only [ByteArray.size_append]; rfl)) ?_; (with_reducible refine (dec_Sub.calls k t507 t508 t509 a1_0 a1_1 a1_2 t511 t512 t513 _ A8.out).mono ?_); rintro e w25 ⟨rfl, hb⟩; refine ⟨_, rfl, ?_⟩; have n0_ := bb_ BK504 hb; have n1_ := bb_ BK505 hb; have n2_ := bb_ BK506 hb; have n3_ := Aside0.mk (below_step (bl_ HB).out hb); clear BK504; clear BK505; clear BK506; clear HB; have BK504 := n0_; have BK505 := n1_; have BK506 := n2_; have HB := n3_; clear n0_ n1_ n2_ n3_; (try clear hb); (try clear hb2); (try clear hk); (try clear hi)) | ((with_reducible refine gate_dst (N := 9) rfl ?_); refine box_event ?hg (N := 9) ?hd (cs := #[.bool false, .string (⟨#[]⟩ : ByteArray), .int .i64 0]) (t := 30) ?hr ?_; (case hd => rfl); (case hg => rfl); (case hr => first | (go_simp; done) | (go_simp; rfl)); intro gb514 hg w26 hbox hb; have n0_ := bb_ BK504 hb; have n1_ := bb_ BK505 hb; have n2_ := bb_ BK506 hb; have n3_ := Aside0.mk (below_step (bl_ HB).out hb); have n4_ := Aside0.mk (hbox); have n5_ := Aside0.mk ((by rw [hg]; exact (below_size (bl_ HB).out) : w.heap.size ≤ gb514)); have n6_ := Aside0.mk ((by rw [hg]; exact (below_size (bl_ HB).out) : w.heap.size ≤ gb514)); have n7_ := Aside0.mk ((by rw [hg]; exact Nat.ne_of_lt (blk_lt (g := gb504) (o := .cells #[.bool t507, .string t508, .int .i64 t509] 30 (0, 0)) (by (with_reducible repeat (first | refine blk_drewN ?_ _ | refine blk_drew ?_ | refine blk_alloc ?_ _)); exact BK504.out)) : gb504 ≠ gb514)); have n8_ := Aside0.mk ((by rw [hg]; exact Nat.ne_of_gt (blk_lt (g := gb504) (o := .cells #[.bool t507, .string t508, .int .i64 t509] 30 (0, 0)) (by (with_reducible repeat (first | refine blk_drewN ?_ _ | refine blk_drew ?_ | refine blk_alloc ?_ _)); exact BK504.out)) : gb514 ≠ gb504)); have n9_ := Aside0.mk ((by rw [hg]; exact Nat.ne_of_lt (blk_lt (g := gb505) (o := .cells #[.bool a1_0, .string a1_1, .int .i64 a1_2] 30 (0, 0)) (by (with_reducible repeat (first | refine blk_drewN ?_ _ | refine blk_drew ?_ | refine blk_alloc ?_ _)); exact BK505.out)) : gb505 ≠ gb514)); have n10_ := Aside0.mk ((by rw [hg]; exact Nat.ne_of_gt (blk_lt (g := gb505) (o := .cells #[.bool a1_0, .string a1_1, .int .i64 a1_2] 30 (0, 0)) (by (with_reducible repeat (first | refine blk_drewN ?_ _ | refine blk_drew ?_ | refine blk_alloc ?_ _)); exact BK505.out)) : gb514 ≠ gb505)); have n11_ := Aside0.mk ((by rw [hg]; exact Nat.ne_of_lt (blk_lt (g := gb506) (o := .cells #[.bool a2_0, .string a2_1, .int .i64 a2_2] 30 (0, 0)) (by (with_reducible repeat (first | refine blk_drewN ?_ _ | refine blk_drew ?_ | refine blk_alloc ?_ _)); exact BK506.out)) : gb506 ≠ gb514)); have n12_ := Aside0.mk ((by rw [hg]; exact Nat.ne_of_gt (blk_lt (g := gb506) (o := .cells #[.bool a2_0, .string a2_1, .int .i64 a2_2] 30 (0, 0)) (by (with_reducible repeat (first | refine blk_drewN ?_ _ | refine blk_drew ?_ | refine blk_alloc ?_ _)); exact BK506.out)) : gb514 ≠ gb506)); clear BK504; clear BK505; clear BK506; clear HB; have BK504 := n0_; have BK505 := n1_; have BK506 := n2_; have HB := n3_; have BK514 := n4_; have GW514 := n5_; have GE514 := n6_; have NB504_514 := n7_; have NB514_504 := n8_; have NB505_514 := n9_; have NB514_505 := n10_; have NB506_514 := n11_; have NB514_506 := n12_; clear n0_ n1_ n2_ n3_ n4_ n5_ n6_ n7_ n8_ n9_ n10_ n11_ n12_; clear hb hbox hg; have hnb27 := NB514_504.out; have hnc27 := NB504_514.out; have hnb28 := NB514_505.out; have hnc28 := NB505_514.out; have hnb29 := NB514_506.out; have hnc29 := NB506_514.out; have hcz30_0 : w26.cell? ⟨gb514, 0, none⟩ = some (.bool false) := bc_ BK514 0; have hcz30_1 : w26.cell? ⟨gb514, 1, none⟩ = some (.string (⟨#[]⟩ : ByteArray)) := bc_ BK514 1; have hcz30_2 : w26.cell? ⟨gb514, 2, none⟩ = some (.int .i64 0) := bc_ BK514 2; have hfz30_0 := blk_frozen BK514.out 0; have hfz30_1 := blk_frozen BK514.out 1; have hfz30_2 := blk_frozen BK514.out 2) | ((with_reducible refine gate_callee (f := 38) rfl ?_); refine goesL_ (some 22) rfl rfl Tryd.func38 (by kernel_rfl) rfl #[.agg #[.bool t511, .string t512, .int .i64 t513]] rfl (by (try simp only [List.map_toArray, List.map_cons, List.map_nil]); first | done | rfl | (simp only [List.length_drop, List.length_take]; rfl) | (have z_ : ∀ s_ : ByteArray, s_.size ≤ 9223372036854775807 → -(s_.size : Int) = wrap64 (-(s_.size : Int)) := (fun s_ h_ => by unfold wrap64; omega); rw [← z_ _ (by omega)]; rfl) | (simp only [ByteArray.size_append]; rfl)) ?_; (with_reducible refine (dec_Dec_Zero.calls k t511 t512 t513 true _ A9.out).mono ?_); rintro e w31 ⟨rfl, hb⟩; refine ⟨_, rfl, ?_⟩; have n0_ := Aside0.mk (blk_below (g := gb504) (o := .cells #[.bool t507, .string t508, .int .i64 t509] 30 (0, 0)) (by (with_reducible repeat (first | refine blk_drewN ?_ _ | refine blk_drew ?_ | refine blk_alloc ?_ _)); refine blk_far ?_ NB504_514.out _; (with_reducible repeat (first | refine blk_drewN ?_ _ | refine blk_drew ?_ | refine blk_alloc ?_ _)); refine blk_far ?_ NB504_514.out _; (with_reducible repeat (first | refine blk_drewN ?_ _ | refine blk_drew ?_ | refine blk_alloc ?_ _)); refine blk_far ?_ NB504_514.out _; (with_reducible repeat (first | refine blk_drewN ?_ _ | refine blk_drew ?_ | refine blk_alloc ?_ _)); exact BK504.out) hb); have n1_ := Aside0.mk (blk_below (g := gb505) (o := .cells #[.bool a1_0, .string a1_1, .int .i64 a1_2] 30 (0, 0)) (by (with_reducible repeat (first | refine blk_drewN ?_ _ | refine blk_drew ?_ | refine blk_alloc ?_ _)); refine blk_far ?_ NB505_514.out _; (with_reducible repeat (first | refine blk_drewN ?_ _ | refine blk_drew ?_ | refine blk_alloc ?_ _)); refine blk_far ?_ NB505_514.out _; (with_reducible repeat (first | refine blk_drewN ?_ _ | refine blk_drew ?_ | refine blk_alloc ?_ _)); refine blk_far ?_ NB505_514.out _; (with_reducible repeat (first | refine blk_drewN ?_ _ | refine blk_drew ?_ | refine blk_alloc ?_ _)); exact BK505.out) hb); have n2_ := Aside0.mk (blk_below (g := gb506) (o := .cells #[.bool a2_0, .string a2_1, .int .i64 a2_2] 30 (0, 0)) (by (with_reducible repeat (first | refine blk_drewN ?_ _ | refine blk_drew ?_ | refine blk_alloc ?_ _)); refine blk_far ?_ NB506_514.out _; (with_reducible repeat (first | refine blk_drewN ?_ _ | refine blk_drew ?_ | refine blk_alloc ?_ _)); refine blk_far ?_ NB506_514.out _; (with_reducible repeat (first | refine blk_drewN ?_ _ | refine blk_drew ?_ | refine blk_alloc ?_ _)); refine blk_far ?_ NB506_514.out _; (with_reducible repeat (first | refine blk_drewN ?_ _ | refine blk_drew ?_ | refine blk_alloc ?_ _)); exact BK506.out) hb); have n3_ := Aside0.mk (blk_below (g := gb514) (o := .cells #[.bool t511, .string t512, .int .i64 t513] 30 (0, 0)) (by (with_reducible repeat (first | refine blk_drewN ?_ _ | refine blk_drew ?_ | refine blk_alloc ?_ _)); refine blk_put (cs := #[.bool t511, .string t512, .int .i64 0]) ?_ 2 _ rfl; (with_reducible repeat (first | refine blk_drewN ?_ _ | refine blk_drew ?_ | refine blk_alloc ?_ _)); refine blk_put (cs := #[.bool t511, .string (⟨#[]⟩ : ByteArray), .int .i64 0]) ?_ 1 _ rfl; (with_reducible repeat (first | refine blk_drewN ?_ _ | refine blk_drew ?_ | refine blk_alloc ?_ _)); refine blk_put (cs := #[.bool false, .string (⟨#[]⟩ : ByteArray), .int .i64 0]) ?_ 0 _ rfl; (with_reducible repeat (first | refine blk_drewN ?_ _ | refine blk_drew ?_ | refine blk_alloc ?_ _)); exact BK514.out) hb); have n4_ := Aside0.mk (below_step (bl_ HB).out hb); clear BK504; clear BK505; clear BK506; clear BK514; clear HB; have BK504 := n0_; have BK505 := n1_; have BK506 := n2_; have BK514 := n3_; have HB := n4_; clear n0_ n1_ n2_ n3_ n4_; (try clear hb); (try clear hb2); (try clear hk); (try clear hi); have hcz32_0 : w31.cell? ⟨gb505, 0, none⟩ = some (.bool a1_0) := bc_ BK505 0; have hcz32_1 : w31.cell? ⟨gb505, 1, none⟩ = some (.string a1_1) := bc_ BK505 1; have hcz32_2 : w31.cell? ⟨gb505, 2, none⟩ = some (.int .i64 a1_2) := bc_ BK505 2; have hfz32_0 := blk_frozen BK505.out 0; have hfz32_1 := blk_frozen BK505.out 1; have hfz32_2 := blk_frozen BK505.out 2; have hcz33_0 : w31.cell? ⟨gb504, 0, none⟩ = some (.bool t507) := bc_ BK504 0; have hcz33_1 : w31.cell? ⟨gb504, 1, none⟩ = some (.string t508) := bc_ BK504 1; have hcz33_2 : w31.cell? ⟨gb504, 2, none⟩ = some (.int .i64 t509) := bc_ BK504 2; have hfz33_0 := blk_frozen BK504.out 0; have hfz33_1 := blk_frozen BK504.out 1; have hfz33_2 := blk_frozen BK504.out 2))
   go_ret
   exact ⟨by first | rfl | (simp [errW_none, errW_some] <;> rfl) | (simp [*, errW_none, errW_some] <;> first | rfl | exact given_isEmpty _ | exact (given_isEmpty _).symm), by repeat (first | (with_reducible first | exact HB.out | apply below_alloc | apply pw_below_drewN | apply below_drew1 | refine below_set ?_ GE504.out | refine below_set ?_ GE505.out | refine below_set ?_ GE506.out | refine below_set ?_ GE514.out) | exact HB.out)⟩
  ·replace c10 := Bool.eq_false_iff.mpr c10
   subst c10
   have H1 : ((florinlaw03_multiple.f k t507 t508 t509 a2_0 a2_1 a2_2).bind fun t516 => (if t516 = true then (florinlaw03_Rounded.j0 k a3 true t507 t508 t509 a1_0 a1_1 a1_2 a2_0 a2_1 a2_2 t511 t512 t513) else ((dec_Dec_Abs.f k t511 t512 t513).bind fun bt517 => ((dec_Cmp.f k bt517.1 bt517.2.1 bt517.2.2 a2_0 a2_1 a2_2).bind fun t520 => (florinlaw03_Rounded.j0 k a3 (decide (t520 ≥ 0)) t507 t508 t509 a1_0 a1_1 a1_2 a2_0 a2_1 a2_2 t511 t512 t513))))) = some r := by rw [if_neg (show ¬ (false = true) by decide)] at H; exact H
   clear H
   have H := H1
   clear H1
   have HC34 := Aside0.mk H
   clear H
   go_enter Tryd.func27, Tryd.ntmps27
   go_upto_region 7 with (first | ((with_reducible refine gate_dst (N := 4) rfl ?_); refine box_event ?hg (N := 4) ?hd (cs := #[.bool a0_0, .string a0_1, .int .i64 a0_2]) (t := 30) ?hr ?_; (case hd => rfl); (case hg => rfl); (case hr => first | (go_simp; done) | (go_simp; rfl)); intro gb504 hg w35 hbox hb; have n0_ := Aside0.mk (below_step (bl_ HB).out hb); have n1_ := Aside0.mk (hbox); have n2_ := Aside0.mk ((by rw [hg]; exact (below_size (bl_ HB).out) : w.heap.size ≤ gb504)); have n3_ := Aside0.mk ((by rw [hg]; exact (below_size (bl_ HB).out) : w.heap.size ≤ gb504)); clear HB; have HB := n0_; have BK504 := n1_; have GW504 := n2_; have GE504 := n3_; clear n0_ n1_ n2_ n3_; clear hb hbox hg) | ((with_reducible refine gate_dst (N := 5) rfl ?_); refine box_event ?hg (N := 5) ?hd (cs := #[.bool a1_0, .string a1_1, .int .i64 a1_2]) (t := 30) ?hr ?_; (case hd => rfl); (case hg => rfl); (case hr => first | (go_simp; done) | (go_simp; rfl)); intro gb505 hg w36 hbox hb; have n0_ := bb_ BK504 hb; have n1_ := Aside0.mk (below_step (bl_ HB).out hb); have n2_ := Aside0.mk (hbox); have n3_ := Aside0.mk ((by rw [hg]; exact (below_size (bl_ HB).out) : w.heap.size ≤ gb505)); have n4_ := Aside0.mk ((by rw [hg]; exact (below_size (bl_ HB).out) : w.heap.size ≤ gb505)); have n5_ := Aside0.mk ((by rw [hg]; exact Nat.ne_of_lt (blk_lt (g := gb504) (o := .cells #[.bool a0_0, .string a0_1, .int .i64 a0_2] 30 (0, 0)) (by (with_reducible repeat (first | refine blk_drewN ?_ _ | refine blk_drew ?_ | refine blk_alloc ?_ _)); exact BK504.out)) : gb504 ≠ gb505)); have n6_ := Aside0.mk ((by rw [hg]; exact Nat.ne_of_gt (blk_lt (g := gb504) (o := .cells #[.bool a0_0, .string a0_1, .int .i64 a0_2] 30 (0, 0)) (by (with_reducible repeat (first | refine blk_drewN ?_ _ | refine blk_drew ?_ | refine blk_alloc ?_ _)); exact BK504.out)) : gb505 ≠ gb504)); clear BK504; clear HB; have BK504 := n0_; have HB := n1_; have BK505 := n2_; have GW505 := n3_; have GE505 := n4_; have NB504_505 := n5_; have NB505_504 := n6_; clear n0_ n1_ n2_ n3_ n4_ n5_ n6_; clear hb hbox hg) | ((with_reducible refine gate_dst (N := 6) rfl ?_); refine box_event ?hg (N := 6) ?hd (cs := #[.bool a2_0, .string a2_1, .int .i64 a2_2]) (t := 30) ?hr ?_; (case hd => rfl); (case hg => rfl); (case hr => first | (go_simp; done) | (go_simp; rfl)); intro gb506 hg w37 hbox hb; have n0_ := bb_ BK504 hb; have n1_ := bb_ BK505 hb; have n2_ := Aside0.mk (below_step (bl_ HB).out hb); have n3_ := Aside0.mk (hbox); have n4_ := Aside0.mk ((by rw [hg]; exact (below_size (bl_ HB).out) : w.heap.size ≤ gb506)); have n5_ := Aside0.mk ((by rw [hg]; exact (below_size (bl_ HB).out) : w.heap.size ≤ gb506)); have n6_ := Aside0.mk ((by rw [hg]; exact Nat.ne_of_lt (blk_lt (g := gb504) (o := .cells #[.bool a0_0, .string a0_1, .int .i64 a0_2] 30 (0, 0)) (by (with_reducible repeat (first | refine blk_drewN ?_ _ | refine blk_drew ?_ | refine blk_alloc ?_ _)); exact BK504.out)) : gb504 ≠ gb506)); have n7_ := Aside0.mk ((by rw [hg]; exact Nat.ne_of_gt (blk_lt (g := gb504) (o := .cells #[.bool a0_0, .string a0_1, .int .i64 a0_2] 30 (0, 0)) (by (with_reducible repeat (first | refine blk_drewN ?_ _ | refine blk_drew ?_ | refine blk_alloc ?_ _)); exact BK504.out)) : gb506 ≠ gb504)); have n8_ := Aside0.mk ((by rw [hg]; exact Nat.ne_of_lt (blk_lt (g := gb505) (o := .cells #[.bool a1_0, .string a1_1, .int .i64 a1_2] 30 (0, 0)) (by (with_reducible repeat (first | refine blk_drewN ?_ _ | refine blk_drew ?_ | refine blk_alloc ?_ _)); exact BK505.out)) : gb505 ≠ gb506)); have n9_ := Aside0.mk ((by rw [hg]; exact Nat.ne_of_gt (blk_lt (g := gb505) (o := .cells #[.bool a1_0, .string a1_1, .int .i64 a1_2] 30 (0, 0)) (by (with_reducible repeat (first | refine blk_drewN ?_ _ | refine blk_drew ?_ | refine blk_alloc ?_ _)); exact BK505.out)) : gb506 ≠ gb505)); clear BK504; clear BK505; clear HB; have BK504 := n0_; have BK505 := n1_; have HB := n2_; have BK506 := n3_; have GW506 := n4_; have GE506 := n5_; have NB504_506 := n6_; have NB506_504 := n7_; have NB505_506 := n8_; have NB506_505 := n9_; clear n0_ n1_ n2_ n3_ n4_ n5_ n6_ n7_ n8_ n9_; clear hb hbox hg; have hnb38 := NB504_505.out; have hnc38 := NB505_504.out; have hnb39 := NB504_506.out; have hnc39 := NB506_504.out; have hcz40_0 : w37.cell? ⟨gb504, 0, none⟩ = some (.bool a0_0) := bc_ BK504 0; have hcz40_1 : w37.cell? ⟨gb504, 1, none⟩ = some (.string a0_1) := bc_ BK504 1; have hcz40_2 : w37.cell? ⟨gb504, 2, none⟩ = some (.int .i64 a0_2) := bc_ BK504 2; have hfz40_0 := blk_frozen BK504.out 0; have hfz40_1 := blk_frozen BK504.out 1; have hfz40_2 := blk_frozen BK504.out 2) | ((with_reducible refine gate_callee (f := 22) rfl ?_); refine goesL_ (some 13) rfl rfl Tryd.func22 (by kernel_rfl) rfl #[.agg #[.bool a0_0, .string a0_1, .int .i64 a0_2]] rfl (by (try simp only [List.map_toArray, List.map_cons, List.map_nil]); first | done | rfl | (simp only [List.length_drop, List.length_take]; rfl) | (have z_ : ∀ s_ : ByteArray, s_.size ≤ 9223372036854775807 → -(s_.size : Int) = wrap64 (-(s_.size : Int)) := (fun s_ h_ => by unfold wrap64; omega); rw [← z_ _ (by omega)]; rfl) | (simp only [ByteArray.size_append]; rfl)) ?_; (with_reducible refine (dec_Dec_Norm.calls k a0_0 a0_1 a0_2 t507 t508 t509 _ A5.out).mono ?_); rintro e w41 ⟨rfl, hb⟩; refine ⟨_, rfl, ?_⟩; have n0_ := bb_ BK504 hb; have n1_ := bb_ BK505 hb; have n2_ := bb_ BK506 hb; have n3_ := Aside0.mk (below_step (bl_ HB).out hb); clear BK504; clear BK505; clear BK506; clear HB; have BK504 := n0_; have BK505 := n1_; have BK506 := n2_; have HB := n3_; clear n0_ n1_ n2_ n3_; (try clear hb); (try clear hb2); (try clear hk); (try clear hi); have hcz42_0 : w41.cell? ⟨gb504, 0, none⟩ = some (.bool a0_0) := bc_ BK504 0; have hcz42_1 : w41.cell? ⟨gb504, 1, none⟩ = some (.string a0_1) := bc_ BK504 1; have hcz42_2 : w41.cell? ⟨gb504, 2, none⟩ = some (.int .i64 a0_2) := bc_ BK504 2; have hfz42_0 := blk_frozen BK504.out 0; have hfz42_1 := blk_frozen BK504.out 1; have hfz42_2 := blk_frozen BK504.out 2; have hnb43 := NB505_506.out; have hnc43 := NB506_505.out; have hcz44_0 : w41.cell? ⟨gb505, 0, none⟩ = some (.bool a1_0) := bc_ BK505 0; have hcz44_1 : w41.cell? ⟨gb505, 1, none⟩ = some (.string a1_1) := bc_ BK505 1; have hcz44_2 : w41.cell? ⟨gb505, 2, none⟩ = some (.int .i64 a1_2) := bc_ BK505 2; have hfz44_0 := blk_frozen BK505.out 0; have hfz44_1 := blk_frozen BK505.out 1; have hfz44_2 := blk_frozen BK505.out 2; have hcz45_0 : w41.cell? ⟨gb506, 0, none⟩ = some (.bool a2_0) := bc_ BK506 0; have hcz45_1 : w41.cell? ⟨gb506, 1, none⟩ = some (.string a2_1) := bc_ BK506 1; have hcz45_2 : w41.cell? ⟨gb506, 2, none⟩ = some (.int .i64 a2_2) := bc_ BK506 2; have hfz45_0 := blk_frozen BK506.out 0; have hfz45_1 := blk_frozen BK506.out 1; have hfz45_2 := blk_frozen BK506.out 2) | ((with_reducible refine gate_callee (f := 47) rfl ?_); refine goesL_ (some 16) rfl rfl Tryd.func47 (by kernel_rfl) rfl #[.agg #[.bool a1_0, .string a1_1, .int .i64 a1_2], .agg #[.bool a2_0, .string a2_1, .int .i64 a2_2]] rfl (by (try simp only [List.map_toArray, List.map_cons, List.map_nil]); first | done | rfl | (simp only [List.length_drop, List.length_take]; rfl) | (have z_ : ∀ s_ : ByteArray, s_.size ≤ 9223372036854775807 → -(s_.size : Int) = wrap64 (-(s_.size : Int)) := (fun s_ h_ => by unfold wrap64; omega); rw [← z_ _ (by omega)]; rfl) | (simp only [ByteArray.size_append]; rfl)) ?_; (with_reducible refine (florinlaw03_multiple.calls k a1_0 a1_1 a1_2 a2_0 a2_1 a2_2 true _ A6.out).mono ?_); rintro e w46 ⟨rfl, hb⟩; refine ⟨_, rfl, ?_⟩; have n0_ := Aside0.mk (blk_below (g := gb504) (o := .cells #[.bool t507, .string t508, .int .i64 t509] 30 (0, 0)) (by (with_reducible repeat (first | refine blk_drewN ?_ _ | refine blk_drew ?_ | refine blk_alloc ?_ _)); refine blk_put (cs := #[.bool t507, .string t508, .int .i64 a0_2]) ?_ 2 _ rfl; (with_reducible repeat (first | refine blk_drewN ?_ _ | refine blk_drew ?_ | refine blk_alloc ?_ _)); refine blk_put (cs := #[.bool t507, .string a0_1, .int .i64 a0_2]) ?_ 1 _ rfl; (with_reducible repeat (first | refine blk_drewN ?_ _ | refine blk_drew ?_ | refine blk_alloc ?_ _)); refine blk_put (cs := #[.bool a0_0, .string a0_1, .int .i64 a0_2]) ?_ 0 _ rfl; (with_reducible repeat (first | refine blk_drewN ?_ _ | refine blk_drew ?_ | refine blk_alloc ?_ _)); exact BK504.out) hb); have n1_ := Aside0.mk (blk_below (g := gb505) (o := .cells #[.bool a1_0, .string a1_1, .int .i64 a1_2] 30 (0, 0)) (by (with_reducible repeat (first | refine blk_drewN ?_ _ | refine blk_drew ?_ | refine blk_alloc ?_ _)); refine blk_far ?_ NB505_504.out _; (with_reducible repeat (first | refine blk_drewN ?_ _ | refine blk_drew ?_ | refine blk_alloc ?_ _)); refine blk_far ?_ NB505_504.out _; (with_reducible repeat (first | refine blk_drewN ?_ _ | refine blk_drew ?_ | refine blk_alloc ?_ _)); refine blk_far ?_ NB505_504.out _; (with_reducible repeat (first | refine blk_drewN ?_ _ | refine blk_drew ?_ | refine blk_alloc ?_ _)); exact BK505.out) hb); have n2_ := Aside0.mk (blk_below (g := gb506) (o := .cells #[.bool a2_0, .string a2_1, .int .i64 a2_2] 30 (0, 0)) (by (with_reducible repeat (first | refine blk_drewN ?_ _ | refine blk_drew ?_ | refine blk_alloc ?_ _)); refine blk_far ?_ NB506_504.out _; (with_reducible repeat (first | refine blk_drewN ?_ _ | refine blk_drew ?_ | refine blk_alloc ?_ _)); refine blk_far ?_ NB506_504.out _; (with_reducible repeat (first | refine blk_drewN ?_ _ | refine blk_drew ?_ | refine blk_alloc ?_ _)); refine blk_far ?_ NB506_504.out _; (with_reducible repeat (first | refine blk_drewN ?_ _ | refine blk_drew ?_ | refine blk_alloc ?_ _)); exact BK506.out) hb); have n3_ := Aside0.mk (below_step (bl_ HB).out hb); clear BK504; clear BK505; clear BK506; clear HB; have BK504 := n0_; have BK505 := n1_; have BK506 := n2_; have HB := n3_; clear n0_ n1_ n2_ n3_; (try clear hb); (try clear hb2); (try clear hk); (try clear hi); have hcz47_0 : w46.cell? ⟨gb504, 0, none⟩ = some (.bool t507) := bc_ BK504 0; have hcz47_1 : w46.cell? ⟨gb504, 1, none⟩ = some (.string t508) := bc_ BK504 1; have hcz47_2 : w46.cell? ⟨gb504, 2, none⟩ = some (.int .i64 t509) := bc_ BK504 2; have hfz47_0 := blk_frozen BK504.out 0; have hfz47_1 := blk_frozen BK504.out 1; have hfz47_2 := blk_frozen BK504.out 2; have hcz48_0 : w46.cell? ⟨gb505, 0, none⟩ = some (.bool a1_0) := bc_ BK505 0; have hcz48_1 : w46.cell? ⟨gb505, 1, none⟩ = some (.string a1_1) := bc_ BK505 1; have hcz48_2 : w46.cell? ⟨gb505, 2, none⟩ = some (.int .i64 a1_2) := bc_ BK505 2; have hfz48_0 := blk_frozen BK505.out 0; have hfz48_1 := blk_frozen BK505.out 1; have hfz48_2 := blk_frozen BK505.out 2) | ((with_reducible refine gate_callee (f := 15) rfl ?_); refine goesL_ (some 20) rfl rfl Tryd.func15 (by kernel_rfl) rfl #[.agg #[.bool t507, .string t508, .int .i64 t509], .agg #[.bool a1_0, .string a1_1, .int .i64 a1_2]] rfl (by (try simp only [List.map_toArray, List.map_cons, List.map_nil]); first | done | rfl | (simp only [List.length_drop, List.length_take]; rfl) | (have z_ : ∀ s_ : ByteArray, s_.size ≤ 9223372036854775807 → -(s_.size : Int) = wrap64 (-(s_.size : Int)) := (fun s_ h_ => by unfold wrap64; omega); rw [← z_ _ (by omega)]; rfl) | (simp only [ByteArray.size_append]; rfl)) ?_; (with_reducible refine (dec_Sub.calls k t507 t508 t509 a1_0 a1_1 a1_2 t511 t512 t513 _ A8.out).mono ?_); rintro e w49 ⟨rfl, hb⟩; refine ⟨_, rfl, ?_⟩; have n0_ := bb_ BK504 hb; have n1_ := bb_ BK505 hb; have n2_ := bb_ BK506 hb; have n3_ := Aside0.mk (below_step (bl_ HB).out hb); clear BK504; clear BK505; clear BK506; clear HB; have BK504 := n0_; have BK505 := n1_; have BK506 := n2_; have HB := n3_; clear n0_ n1_ n2_ n3_; (try clear hb); (try clear hb2); (try clear hk); (try clear hi)) | ((with_reducible refine gate_dst (N := 9) rfl ?_); refine box_event ?hg (N := 9) ?hd (cs := #[.bool false, .string (⟨#[]⟩ : ByteArray), .int .i64 0]) (t := 30) ?hr ?_; (case hd => rfl); (case hg => rfl); (case hr => first | (go_simp; done) | (go_simp; rfl)); intro gb514 hg w50 hbox hb; have n0_ := bb_ BK504 hb; have n1_ := bb_ BK505 hb; have n2_ := bb_ BK506 hb; have n3_ := Aside0.mk (below_step (bl_ HB).out hb); have n4_ := Aside0.mk (hbox); have n5_ := Aside0.mk ((by rw [hg]; exact (below_size (bl_ HB).out) : w.heap.size ≤ gb514)); have n6_ := Aside0.mk ((by rw [hg]; exact (below_size (bl_ HB).out) : w.heap.size ≤ gb514)); have n7_ := Aside0.mk ((by rw [hg]; exact Nat.ne_of_lt (blk_lt (g := gb504) (o := .cells #[.bool t507, .string t508, .int .i64 t509] 30 (0, 0)) (by (with_reducible repeat (first | refine blk_drewN ?_ _ | refine blk_drew ?_ | refine blk_alloc ?_ _)); exact BK504.out)) : gb504 ≠ gb514)); have n8_ := Aside0.mk ((by rw [hg]; exact Nat.ne_of_gt (blk_lt (g := gb504) (o := .cells #[.bool t507, .string t508, .int .i64 t509] 30 (0, 0)) (by (with_reducible repeat (first | refine blk_drewN ?_ _ | refine blk_drew ?_ | refine blk_alloc ?_ _)); exact BK504.out)) : gb514 ≠ gb504)); have n9_ := Aside0.mk ((by rw [hg]; exact Nat.ne_of_lt (blk_lt (g := gb505) (o := .cells #[.bool a1_0, .string a1_1, .int .i64 a1_2] 30 (0, 0)) (by (with_reducible repeat (first | refine blk_drewN ?_ _ | refine blk_drew ?_ | refine blk_alloc ?_ _)); exact BK505.out)) : gb505 ≠ gb514)); have n10_ := Aside0.mk ((by rw [hg]; exact Nat.ne_of_gt (blk_lt (g := gb505) (o := .cells #[.bool a1_0, .string a1_1, .int .i64 a1_2] 30 (0, 0)) (by (with_reducible repeat (first | refine blk_drewN ?_ _ | refine blk_drew ?_ | refine blk_alloc ?_ _)); exact BK505.out)) : gb514 ≠ gb505)); have n11_ := Aside0.mk ((by rw [hg]; exact Nat.ne_of_lt (blk_lt (g := gb506) (o := .cells #[.bool a2_0, .string a2_1, .int .i64 a2_2] 30 (0, 0)) (by (with_reducible repeat (first | refine blk_drewN ?_ _ | refine blk_drew ?_ | refine blk_alloc ?_ _)); exact BK506.out)) : gb506 ≠ gb514)); have n12_ := Aside0.mk ((by rw [hg]; exact Nat.ne_of_gt (blk_lt (g := gb506) (o := .cells #[.bool a2_0, .string a2_1, .int .i64 a2_2] 30 (0, 0)) (by (with_reducible repeat (first | refine blk_drewN ?_ _ | refine blk_drew ?_ | refine blk_alloc ?_ _)); exact BK506.out)) : gb514 ≠ gb506)); clear BK504; clear BK505; clear BK506; clear HB; have BK504 := n0_; have BK505 := n1_; have BK506 := n2_; have HB := n3_; have BK514 := n4_; have GW514 := n5_; have GE514 := n6_; have NB504_514 := n7_; have NB514_504 := n8_; have NB505_514 := n9_; have NB514_505 := n10_; have NB506_514 := n11_; have NB514_506 := n12_; clear n0_ n1_ n2_ n3_ n4_ n5_ n6_ n7_ n8_ n9_ n10_ n11_ n12_; clear hb hbox hg; have hnb51 := NB514_504.out; have hnc51 := NB504_514.out; have hnb52 := NB514_505.out; have hnc52 := NB505_514.out; have hnb53 := NB514_506.out; have hnc53 := NB506_514.out; have hcz54_0 : w50.cell? ⟨gb514, 0, none⟩ = some (.bool false) := bc_ BK514 0; have hcz54_1 : w50.cell? ⟨gb514, 1, none⟩ = some (.string (⟨#[]⟩ : ByteArray)) := bc_ BK514 1; have hcz54_2 : w50.cell? ⟨gb514, 2, none⟩ = some (.int .i64 0) := bc_ BK514 2; have hfz54_0 := blk_frozen BK514.out 0; have hfz54_1 := blk_frozen BK514.out 1; have hfz54_2 := blk_frozen BK514.out 2) | ((with_reducible refine gate_callee (f := 38) rfl ?_); refine goesL_ (some 22) rfl rfl Tryd.func38 (by kernel_rfl) rfl #[.agg #[.bool t511, .string t512, .int .i64 t513]] rfl (by (try simp only [List.map_toArray, List.map_cons, List.map_nil]); first | done | rfl | (simp only [List.length_drop, List.length_take]; rfl) | (have z_ : ∀ s_ : ByteArray, s_.size ≤ 9223372036854775807 → -(s_.size : Int) = wrap64 (-(s_.size : Int)) := (fun s_ h_ => by unfold wrap64; omega); rw [← z_ _ (by omega)]; rfl) | (simp only [ByteArray.size_append]; rfl)) ?_; (with_reducible refine (dec_Dec_Zero.calls k t511 t512 t513 false _ A9.out).mono ?_); rintro e w55 ⟨rfl, hb⟩; refine ⟨_, rfl, ?_⟩; have n0_ := Aside0.mk (blk_below (g := gb504) (o := .cells #[.bool t507, .string t508, .int .i64 t509] 30 (0, 0)) (by (with_reducible repeat (first | refine blk_drewN ?_ _ | refine blk_drew ?_ | refine blk_alloc ?_ _)); refine blk_far ?_ NB504_514.out _; (with_reducible repeat (first | refine blk_drewN ?_ _ | refine blk_drew ?_ | refine blk_alloc ?_ _)); refine blk_far ?_ NB504_514.out _; (with_reducible repeat (first | refine blk_drewN ?_ _ | refine blk_drew ?_ | refine blk_alloc ?_ _)); refine blk_far ?_ NB504_514.out _; (with_reducible repeat (first | refine blk_drewN ?_ _ | refine blk_drew ?_ | refine blk_alloc ?_ _)); exact BK504.out) hb); have n1_ := Aside0.mk (blk_below (g := gb505) (o := .cells #[.bool a1_0, .string a1_1, .int .i64 a1_2] 30 (0, 0)) (by (with_reducible repeat (first | refine blk_drewN ?_ _ | refine blk_drew ?_ | refine blk_alloc ?_ _)); refine blk_far ?_ NB505_514.out _; (with_reducible repeat (first | refine blk_drewN ?_ _ | refine blk_drew ?_ | refine blk_alloc ?_ _)); refine blk_far ?_ NB505_514.out _; (with_reducible repeat (first | refine blk_drewN ?_ _ | refine blk_drew ?_ | refine blk_alloc ?_ _)); refine blk_far ?_ NB505_514.out _; (with_reducible repeat (first | refine blk_drewN ?_ _ | refine blk_drew ?_ | refine blk_alloc ?_ _)); exact BK505.out) hb); have n2_ := Aside0.mk (blk_below (g := gb506) (o := .cells #[.bool a2_0, .string a2_1, .int .i64 a2_2] 30 (0, 0)) (by (with_reducible repeat (first | refine blk_drewN ?_ _ | refine blk_drew ?_ | refine blk_alloc ?_ _)); refine blk_far ?_ NB506_514.out _; (with_reducible repeat (first | refine blk_drewN ?_ _ | refine blk_drew ?_ | refine blk_alloc ?_ _)); refine blk_far ?_ NB506_514.out _; (with_reducible repeat (first | refine blk_drewN ?_ _ | refine blk_drew ?_ | refine blk_alloc ?_ _)); refine blk_far ?_ NB506_514.out _; (with_reducible repeat (first | refine blk_drewN ?_ _ | refine blk_drew ?_ | refine blk_alloc ?_ _)); exact BK506.out) hb); have n3_ := Aside0.mk (blk_below (g := gb514) (o := .cells #[.bool t511, .string t512, .int .i64 t513] 30 (0, 0)) (by (with_reducible repeat (first | refine blk_drewN ?_ _ | refine blk_drew ?_ | refine blk_alloc ?_ _)); refine blk_put (cs := #[.bool t511, .string t512, .int .i64 0]) ?_ 2 _ rfl; (with_reducible repeat (first | refine blk_drewN ?_ _ | refine blk_drew ?_ | refine blk_alloc ?_ _)); refine blk_put (cs := #[.bool t511, .string (⟨#[]⟩ : ByteArray), .int .i64 0]) ?_ 1 _ rfl; (with_reducible repeat (first | refine blk_drewN ?_ _ | refine blk_drew ?_ | refine blk_alloc ?_ _)); refine blk_put (cs := #[.bool false, .string (⟨#[]⟩ : ByteArray), .int .i64 0]) ?_ 0 _ rfl; (with_reducible repeat (first | refine blk_drewN ?_ _ | refine blk_drew ?_ | refine blk_alloc ?_ _)); exact BK514.out) hb); have n4_ := Aside0.mk (below_step (bl_ HB).out hb); clear BK504; clear BK505; clear BK506; clear BK514; clear HB; have BK504 := n0_; have BK505 := n1_; have BK506 := n2_; have BK514 := n3_; have HB := n4_; clear n0_ n1_ n2_ n3_ n4_; (try clear hb); (try clear hb2); (try clear hk); (try clear hi)))
   (try simp only [Act.put, List.setIfInBounds_toArray, List.set_cons_zero, List.set_cons_succ])
   go_cut [35] (fun v35 wc => ∃ (kq : Nat) (x35_33 : Bool), v35 = .bool x35_33 ∧ Aside0 (florinlaw03_Rounded.j0 kq a3 x35_33 t507 t508 t509 a1_0 a1_1 a1_2 a2_0 a2_1 a2_2 t511 t512 t513 = some r) ∧ Aside0 (kq ≤ k) ∧ Aside0 (wc.heap[gb504]? = some (.cells #[.bool t507, .string t508, .int .i64 t509] 30 (0, 0))) ∧ Aside0 (wc.heap[gb505]? = some (.cells #[.bool a1_0, .string a1_1, .int .i64 a1_2] 30 (0, 0))) ∧ Aside0 (wc.heap[gb506]? = some (.cells #[.bool a2_0, .string a2_1, .int .i64 a2_2] 30 (0, 0))) ∧ Aside0 (wc.heap[gb514]? = some (.cells #[.bool t511, .string t512, .int .i64 t513] 30 (0, 0))) ∧ Aside0 (Below w.heap.size w wc))
   case first =>
    have H := HC34.out
    clear HC34
    replace H := Option.bind_eq_some_iff.mp H
    obtain ⟨t516, A560, H⟩ := H
    replace H : (if t516 = true then (florinlaw03_Rounded.j0 k a3 true t507 t508 t509 a1_0 a1_1 a1_2 a2_0 a2_1 a2_2 t511 t512 t513) else ((dec_Dec_Abs.f k t511 t512 t513).bind fun bt517 => ((dec_Cmp.f k bt517.1 bt517.2.1 bt517.2.2 a2_0 a2_1 a2_2).bind fun t520 => (florinlaw03_Rounded.j0 k a3 (decide (t520 ≥ 0)) t507 t508 t509 a1_0 a1_1 a1_2 a2_0 a2_1 a2_2 t511 t512 t513)))) = some r := H
    have A56 := Aside0.mk A560
    clear A560
    by_cases c57 : t516 = true
    ·subst c57
     have H1 : (florinlaw03_Rounded.j0 k a3 true t507 t508 t509 a1_0 a1_1 a1_2 a2_0 a2_1 a2_2 t511 t512 t513) = some r := by rw [if_pos rfl] at H; exact H
     clear H
     have H := H1
     clear H1
     have H' := Aside0.mk H
     clear H
     try go_wp2
     replace BK504 := Aside0.mk (blk_drew BK504.out)
     replace BK505 := Aside0.mk (blk_drew BK505.out)
     replace BK506 := Aside0.mk (blk_drew BK506.out)
     replace BK514 := Aside0.mk (blk_drew BK514.out)
     replace HB := Aside0.mk (below_drew1 HB.out)
     refine start_ (n := 10) (S := fun w' => w'.cell? ⟨gb504, 0, none⟩ = some (.bool t507) ∧ w'.cell? ⟨gb504, 1, none⟩ = some (.string t508) ∧ w'.cell? ⟨gb504, 2, none⟩ = some (.int .i64 t509) ∧ w'.cell? ⟨gb506, 0, none⟩ = some (.bool a2_0) ∧ w'.cell? ⟨gb506, 1, none⟩ = some (.string a2_1) ∧ w'.cell? ⟨gb506, 2, none⟩ = some (.int .i64 a2_2)) (ds := []) #[false, false, false, false, false, false, false, false, false, false] (by kernel_rfl) rfl rfl ⟨bc_ BK504 0, bc_ BK504 1, bc_ BK504 2, bc_ BK506 0, bc_ BK506 1, bc_ BK506 2⟩ (fun hHeld => ?_); refine with_tabW florinlaw03_Rounded.tab7 florinlaw03_Rounded.bits7 (fun HT_ HW_ => ?_)
     generalize w55.drew = w58 at BK504 BK505 BK506 BK514 HB hHeld ⊢
     refine tk_ 0 26 (bm_ 10 1) HT_ HW_ hHeld rfl (by rintro w' ⟨s0, s1, s2, s3, s4, s5⟩; go_simp; with_reducible rfl) ?_
     refine tk_ 1 27 (bm_ 10 3) HT_ HW_ hHeld rfl (by rintro w' ⟨s0, s1, s2, s3, s4, s5⟩; go_simp; with_reducible rfl) ?_
     refine one_ (i := 2) (N := some 28) (bm_ 10 7) rfl rfl (one_of HT_.out (by kernel_rfl)) (by decide) (fun K hK => ?_)
     refine gs_ Tryd.func47 #[.agg #[.bool t507, .string t508, .int .i64 t509], .agg #[.bool a2_0, .string a2_1, .int .i64 a2_2]] ?_
     with_reducible refine (florinlaw03_multiple.calls k t507 t508 t509 a2_0 a2_1 a2_2 true _ A56.out).mono ?_
     rintro e w59 ⟨rfl, hb⟩
     refine ⟨_, rfl, ?_⟩
     replace BK504 := bb_ BK504 hb
     replace BK505 := bb_ BK505 hb
     replace BK506 := bb_ BK506 hb
     replace BK514 := bb_ BK514 hb
     replace HB := Aside0.mk (below_step (bl_ HB).out hb)
     (try clear hb)
     (try clear hb2)
     (try clear hk)
     (try clear hi)
     refine hK.out _ _ ⟨bc_ BK504 0, bc_ BK504 1, bc_ BK504 2, bc_ BK506 0, bc_ BK506 1, bc_ BK506 2⟩ (fun hHeld => ?_)
     clear hK K
     refine nm_ 28 ?_
     refine pu_ 3 29 (bm_ 10 15) HT_ ?_
     refine pn_ 4 30 (bm_ 10 31) HT_ ?_
     refine pn_ 5 31 (bm_ 10 63) HT_ ?_
     refine pn_ 6 32 (bm_ 10 127) HT_ ?_
     refine pn_ 7 33 (bm_ 10 255) HT_ ?_
     refine pn_ 8 34 (bm_ 10 511) HT_ ?_
     refine pu_ 9 35 (bm_ 10 1023) HT_ ?_
     refine done_ (done_of HT_.out (by kernel_rfl)) ?_
     try go_wp2
     go_meet
     case rel => exact ⟨_, (true), eq_, H', ⟨by first | omega | exact Nat.le_refl _⟩, (bk_ BK504), (bk_ BK505), (bk_ BK506), (bk_ BK514), (bl_ HB)⟩
    ·replace c57 := Bool.eq_false_iff.mpr c57
     subst c57
     have H1 : ((dec_Dec_Abs.f k t511 t512 t513).bind fun bt517 => ((dec_Cmp.f k bt517.1 bt517.2.1 bt517.2.2 a2_0 a2_1 a2_2).bind fun t520 => (florinlaw03_Rounded.j0 k a3 (decide (t520 ≥ 0)) t507 t508 t509 a1_0 a1_1 a1_2 a2_0 a2_1 a2_2 t511 t512 t513))) = some r := by rw [if_neg (show ¬ (false = true) by decide)] at H; exact H
     clear H
     have H := H1
     clear H1
     replace H := Option.bind_eq_some_iff.mp H
     obtain ⟨⟨t517, t518, t519⟩, A600, H⟩ := H
     replace H : ((dec_Cmp.f k t517 t518 t519 a2_0 a2_1 a2_2).bind fun t520 => (florinlaw03_Rounded.j0 k a3 (decide (t520 ≥ 0)) t507 t508 t509 a1_0 a1_1 a1_2 a2_0 a2_1 a2_2 t511 t512 t513)) = some r := H
     have A60 := Aside0.mk A600
     clear A600
     replace H := Option.bind_eq_some_iff.mp H
     obtain ⟨t520, A610, H⟩ := H
     replace H : (florinlaw03_Rounded.j0 k a3 (decide (t520 ≥ 0)) t507 t508 t509 a1_0 a1_1 a1_2 a2_0 a2_1 a2_2 t511 t512 t513) = some r := H
     have A61 := Aside0.mk A610
     clear A610
     have H' := Aside0.mk H
     clear H
     try go_wp2
     replace BK504 := Aside0.mk (blk_drew BK504.out)
     replace BK505 := Aside0.mk (blk_drew BK505.out)
     replace BK506 := Aside0.mk (blk_drew BK506.out)
     replace BK514 := Aside0.mk (blk_drew BK514.out)
     replace HB := Aside0.mk (below_drew1 HB.out)
     refine start_ (n := 10) (S := fun w' => w'.cell? ⟨gb504, 0, none⟩ = some (.bool t507) ∧ w'.cell? ⟨gb504, 1, none⟩ = some (.string t508) ∧ w'.cell? ⟨gb504, 2, none⟩ = some (.int .i64 t509) ∧ w'.cell? ⟨gb506, 0, none⟩ = some (.bool a2_0) ∧ w'.cell? ⟨gb506, 1, none⟩ = some (.string a2_1) ∧ w'.cell? ⟨gb506, 2, none⟩ = some (.int .i64 a2_2) ∧ w'.cell? ⟨gb514, 0, none⟩ = some (.bool t511) ∧ w'.cell? ⟨gb514, 1, none⟩ = some (.string t512) ∧ w'.cell? ⟨gb514, 2, none⟩ = some (.int .i64 t513)) (ds := []) #[false, false, false, false, false, false, false, false, false, false] (by kernel_rfl) rfl rfl ⟨bc_ BK504 0, bc_ BK504 1, bc_ BK504 2, bc_ BK506 0, bc_ BK506 1, bc_ BK506 2, bc_ BK514 0, bc_ BK514 1, bc_ BK514 2⟩ (fun hHeld => ?_); refine with_tabW florinlaw03_Rounded.tab7 florinlaw03_Rounded.bits7 (fun HT_ HW_ => ?_)
     generalize w55.drew = w62 at BK504 BK505 BK506 BK514 HB hHeld ⊢
     refine tk_ 0 26 (bm_ 10 1) HT_ HW_ hHeld rfl (by rintro w' ⟨s0, s1, s2, s3, s4, s5, s6, s7, s8⟩; go_simp; with_reducible rfl) ?_
     refine tk_ 1 27 (bm_ 10 3) HT_ HW_ hHeld rfl (by rintro w' ⟨s0, s1, s2, s3, s4, s5, s6, s7, s8⟩; go_simp; with_reducible rfl) ?_
     refine one_ (i := 2) (N := some 28) (bm_ 10 7) rfl rfl (one_of HT_.out (by kernel_rfl)) (by decide) (fun K hK => ?_)
     refine gs_ Tryd.func47 #[.agg #[.bool t507, .string t508, .int .i64 t509], .agg #[.bool a2_0, .string a2_1, .int .i64 a2_2]] ?_
     with_reducible refine (florinlaw03_multiple.calls k t507 t508 t509 a2_0 a2_1 a2_2 false _ A56.out).mono ?_
     rintro e w63 ⟨rfl, hb⟩
     refine ⟨_, rfl, ?_⟩
     replace BK504 := bb_ BK504 hb
     replace BK505 := bb_ BK505 hb
     replace BK506 := bb_ BK506 hb
     replace BK514 := bb_ BK514 hb
     replace HB := Aside0.mk (below_step (bl_ HB).out hb)
     (try clear hb)
     (try clear hb2)
     (try clear hk)
     (try clear hi)
     refine hK.out _ _ ⟨bc_ BK504 0, bc_ BK504 1, bc_ BK504 2, bc_ BK506 0, bc_ BK506 1, bc_ BK506 2, bc_ BK514 0, bc_ BK514 1, bc_ BK514 2⟩ (fun hHeld => ?_)
     clear hK K
     refine nm_ 28 ?_
     refine pu_ 3 29 (bm_ 10 15) HT_ ?_
     refine tk_ 4 30 (bm_ 10 31) HT_ HW_ hHeld rfl (by rintro w' ⟨s0, s1, s2, s3, s4, s5, s6, s7, s8⟩; go_simp; with_reducible rfl) ?_
     refine tk_ 6 32 (bm_ 10 95) HT_ HW_ hHeld rfl (by rintro w' ⟨s0, s1, s2, s3, s4, s5, s6, s7, s8⟩; go_simp; with_reducible rfl) ?_
     refine one_ (i := 5) (N := some 31) (bm_ 10 127) rfl rfl (one_of HT_.out (by kernel_rfl)) (by decide) (fun K hK => ?_)
     refine gs_ Tryd.func16 #[.agg #[.bool t511, .string t512, .int .i64 t513]] ?_
     with_reducible refine (dec_Dec_Abs.calls k t511 t512 t513 t517 t518 t519 _ A60.out).mono ?_
     rintro e w64 ⟨rfl, hb⟩
     refine ⟨_, rfl, ?_⟩
     replace BK504 := bb_ BK504 hb
     replace BK505 := bb_ BK505 hb
     replace BK506 := bb_ BK506 hb
     replace BK514 := bb_ BK514 hb
     replace HB := Aside0.mk (below_step (bl_ HB).out hb)
     (try clear hb)
     (try clear hb2)
     (try clear hk)
     (try clear hi)
     refine hK.out _ _ ⟨bc_ BK504 0, bc_ BK504 1, bc_ BK504 2, bc_ BK506 0, bc_ BK506 1, bc_ BK506 2, bc_ BK514 0, bc_ BK514 1, bc_ BK514 2⟩ (fun hHeld => ?_)
     clear hK K
     refine nm_ 31 ?_
     refine one_ (i := 7) (N := some 33) (bm_ 10 255) rfl rfl (one_of HT_.out (by kernel_rfl)) (by decide) (fun K hK => ?_)
     refine gs_ Tryd.func17 #[.agg #[.bool t517, .string t518, .int .i64 t519], .agg #[.bool a2_0, .string a2_1, .int .i64 a2_2]] ?_
     with_reducible refine (dec_Cmp.calls k t517 t518 t519 a2_0 a2_1 a2_2 t520 _ A61.out).mono ?_
     rintro e w65 ⟨rfl, hb⟩
     refine ⟨_, rfl, ?_⟩
     replace BK504 := bb_ BK504 hb
     replace BK505 := bb_ BK505 hb
     replace BK506 := bb_ BK506 hb
     replace BK514 := bb_ BK514 hb
     replace HB := Aside0.mk (below_step (bl_ HB).out hb)
     (try clear hb)
     (try clear hb2)
     (try clear hk)
     (try clear hi)
     refine hK.out _ _ ⟨bc_ BK504 0, bc_ BK504 1, bc_ BK504 2, bc_ BK506 0, bc_ BK506 1, bc_ BK506 2, bc_ BK514 0, bc_ BK514 1, bc_ BK514 2⟩ (fun hHeld => ?_)
     clear hK K
     refine nm_ 33 ?_
     refine pu_ 8 34 (bm_ 10 511) HT_ ?_
     refine pu_ 9 35 (bm_ 10 1023) HT_ ?_
     refine done_ (done_of HT_.out (by kernel_rfl)) ?_
     try go_wp2
     go_meet
     case rel => exact ⟨_, (decide (t520 ≥ 0)), eq_, H', ⟨by first | omega | exact Nat.le_refl _⟩, (bk_ BK504), (bk_ BK505), (bk_ BK506), (bk_ BK514), (bl_ HB)⟩
   case rest =>
    clear HC34
    try clear c1
    try clear c2
    try clear p2
    try clear c3
    try clear c4
    try clear c5
    try clear p6
    try clear c7
    try clear c10
    try clear c14
    try clear c15
    try clear c16
    try clear c17
    try clear c19
    try clear c22
    try clear c27
    try clear c28
    try clear c29
    try clear c38
    try clear c39
    try clear c43
    try clear c47
    try clear c51
    try clear c52
    try clear c53
    try clear c57
    try clear p64
    try clear hcz16_0
    try clear hcz16_1
    try clear hcz16_2
    try clear hcz18_0
    try clear hcz18_1
    try clear hcz18_2
    try clear hcz20_0
    try clear hcz20_1
    try clear hcz20_2
    try clear hcz21_0
    try clear hcz21_1
    try clear hcz21_2
    try clear hcz23_0
    try clear hcz23_1
    try clear hcz23_2
    try clear hcz24_0
    try clear hcz24_1
    try clear hcz24_2
    try clear hcz30_0
    try clear hcz30_1
    try clear hcz30_2
    try clear hcz32_0
    try clear hcz32_1
    try clear hcz32_2
    try clear hcz33_0
    try clear hcz33_1
    try clear hcz33_2
    try clear hcz40_0
    try clear hcz40_1
    try clear hcz40_2
    try clear hcz42_0
    try clear hcz42_1
    try clear hcz42_2
    try clear hcz44_0
    try clear hcz44_1
    try clear hcz44_2
    try clear hcz45_0
    try clear hcz45_1
    try clear hcz45_2
    try clear hcz47_0
    try clear hcz47_1
    try clear hcz47_2
    try clear hcz48_0
    try clear hcz48_1
    try clear hcz48_2
    try clear hcz54_0
    try clear hcz54_1
    try clear hcz54_2
    try clear hfz16_0
    try clear hfz16_1
    try clear hfz16_2
    try clear hfz18_0
    try clear hfz18_1
    try clear hfz18_2
    try clear hfz20_0
    try clear hfz20_1
    try clear hfz20_2
    try clear hfz21_0
    try clear hfz21_1
    try clear hfz21_2
    try clear hfz23_0
    try clear hfz23_1
    try clear hfz23_2
    try clear hfz24_0
    try clear hfz24_1
    try clear hfz24_2
    try clear hfz30_0
    try clear hfz30_1
    try clear hfz30_2
    try clear hfz32_0
    try clear hfz32_1
    try clear hfz32_2
    try clear hfz33_0
    try clear hfz33_1
    try clear hfz33_2
    try clear hfz40_0
    try clear hfz40_1
    try clear hfz40_2
    try clear hfz42_0
    try clear hfz42_1
    try clear hfz42_2
    try clear hfz44_0
    try clear hfz44_1
    try clear hfz44_2
    try clear hfz45_0
    try clear hfz45_1
    try clear hfz45_2
    try clear hfz47_0
    try clear hfz47_1
    try clear hfz47_2
    try clear hfz48_0
    try clear hfz48_1
    try clear hfz48_2
    try clear hfz54_0
    try clear hfz54_1
    try clear hfz54_2
    obtain ⟨kq, x35_33, rfl, HA, HJ33, BK504, BK505, BK506, BK514, HB⟩ := hcut
    cases kq with
    | zero => exact absurd HA.out (by simp [florinlaw03_Rounded.j0])
    | succ kj33 =>
     have H := HA.out
     clear HA
     simp only [florinlaw03_Rounded.j0] at H
     by_cases c66 : x35_33 = true
     ·subst c66
      have H1 : (some false) = some r := by rw [if_pos rfl] at H; exact H
      clear H
      have H := H1
      clear H1
      obtain rfl := Option.some.inj H
      go_wp2
      go_ret
      exact ⟨by first | rfl | (simp [errW_none, errW_some] <;> rfl) | (simp [*, errW_none, errW_some] <;> first | rfl | exact given_isEmpty _ | exact (given_isEmpty _).symm), by repeat (first | (with_reducible first | exact HB.out | apply below_alloc | apply pw_below_drewN | apply below_drew1 | refine below_set ?_ GE504.out | refine below_set ?_ GE505.out | refine below_set ?_ GE506.out | refine below_set ?_ GE514.out) | exact HB.out)⟩
     ·replace c66 := Bool.eq_false_iff.mpr c66
      subst c66
      have H1 : ((dec_Dec_Abs.f kj33 a1_0 a1_1 a1_2).bind fun bt521 => ((dec_Dec_Abs.f kj33 t507 t508 t509).bind fun bt524 => ((dec_Cmp.f kj33 bt521.1 bt521.2.1 bt521.2.2 bt524.1 bt524.2.1 bt524.2.2).bind fun t527 => ((dec_Dec_Abs.f kj33 t511 t512 t513).bind fun bt528 => ((florinlaw03_twice.f kj33 bt528.1 bt528.2.1 bt528.2.2).bind fun bt531 => ((dec_Cmp.f kj33 bt531.1 bt531.2.1 bt531.2.2 a2_0 a2_1 a2_2).bind fun t534 => (if a3 = 3 then (some (decide (t527 > 0))) else (if a3 = 4 then (some (!(decide (t527 > 0)))) else (if a3 = 5 then (some t511) else (if a3 = 6 then (some (!t511)) else (if a3 = 1 then (if t534 < 0 then (some true) else (if t534 = 0 then (some (decide (t527 > 0))) else (some false))) else (if a3 = 2 then (if t534 < 0 then (some true) else (if t534 = 0 then (some (!(decide (t527 > 0)))) else (some false))) else (if t534 < 0 then (some true) else (if t534 = 0 then ((florinlaw03_even.f kj33 a1_0 a1_1 a1_2 a2_0 a2_1 a2_2).bind fun t535 => (some t535)) else (some false))))))))))))))) = some r := by rw [if_neg (show ¬ (false = true) by decide)] at H; exact H
      clear H
      have H := H1
      clear H1
      replace H := Option.bind_eq_some_iff.mp H
      obtain ⟨⟨t521, t522, t523⟩, A670, H⟩ := H
      replace H : ((dec_Dec_Abs.f kj33 t507 t508 t509).bind fun bt524 => ((dec_Cmp.f kj33 t521 t522 t523 bt524.1 bt524.2.1 bt524.2.2).bind fun t527 => ((dec_Dec_Abs.f kj33 t511 t512 t513).bind fun bt528 => ((florinlaw03_twice.f kj33 bt528.1 bt528.2.1 bt528.2.2).bind fun bt531 => ((dec_Cmp.f kj33 bt531.1 bt531.2.1 bt531.2.2 a2_0 a2_1 a2_2).bind fun t534 => (if a3 = 3 then (some (decide (t527 > 0))) else (if a3 = 4 then (some (!(decide (t527 > 0)))) else (if a3 = 5 then (some t511) else (if a3 = 6 then (some (!t511)) else (if a3 = 1 then (if t534 < 0 then (some true) else (if t534 = 0 then (some (decide (t527 > 0))) else (some false))) else (if a3 = 2 then (if t534 < 0 then (some true) else (if t534 = 0 then (some (!(decide (t527 > 0)))) else (some false))) else (if t534 < 0 then (some true) else (if t534 = 0 then ((florinlaw03_even.f kj33 a1_0 a1_1 a1_2 a2_0 a2_1 a2_2).bind fun t535 => (some t535)) else (some false)))))))))))))) = some r := H
      have A67 := Aside0.mk A670
      clear A670
      replace H := Option.bind_eq_some_iff.mp H
      obtain ⟨⟨t524, t525, t526⟩, A680, H⟩ := H
      replace H : ((dec_Cmp.f kj33 t521 t522 t523 t524 t525 t526).bind fun t527 => ((dec_Dec_Abs.f kj33 t511 t512 t513).bind fun bt528 => ((florinlaw03_twice.f kj33 bt528.1 bt528.2.1 bt528.2.2).bind fun bt531 => ((dec_Cmp.f kj33 bt531.1 bt531.2.1 bt531.2.2 a2_0 a2_1 a2_2).bind fun t534 => (if a3 = 3 then (some (decide (t527 > 0))) else (if a3 = 4 then (some (!(decide (t527 > 0)))) else (if a3 = 5 then (some t511) else (if a3 = 6 then (some (!t511)) else (if a3 = 1 then (if t534 < 0 then (some true) else (if t534 = 0 then (some (decide (t527 > 0))) else (some false))) else (if a3 = 2 then (if t534 < 0 then (some true) else (if t534 = 0 then (some (!(decide (t527 > 0)))) else (some false))) else (if t534 < 0 then (some true) else (if t534 = 0 then ((florinlaw03_even.f kj33 a1_0 a1_1 a1_2 a2_0 a2_1 a2_2).bind fun t535 => (some t535)) else (some false))))))))))))) = some r := H
      have A68 := Aside0.mk A680
      clear A680
      replace H := Option.bind_eq_some_iff.mp H
      obtain ⟨t527, A690, H⟩ := H
      replace H : ((dec_Dec_Abs.f kj33 t511 t512 t513).bind fun bt528 => ((florinlaw03_twice.f kj33 bt528.1 bt528.2.1 bt528.2.2).bind fun bt531 => ((dec_Cmp.f kj33 bt531.1 bt531.2.1 bt531.2.2 a2_0 a2_1 a2_2).bind fun t534 => (if a3 = 3 then (some (decide (t527 > 0))) else (if a3 = 4 then (some (!(decide (t527 > 0)))) else (if a3 = 5 then (some t511) else (if a3 = 6 then (some (!t511)) else (if a3 = 1 then (if t534 < 0 then (some true) else (if t534 = 0 then (some (decide (t527 > 0))) else (some false))) else (if a3 = 2 then (if t534 < 0 then (some true) else (if t534 = 0 then (some (!(decide (t527 > 0)))) else (some false))) else (if t534 < 0 then (some true) else (if t534 = 0 then ((florinlaw03_even.f kj33 a1_0 a1_1 a1_2 a2_0 a2_1 a2_2).bind fun t535 => (some t535)) else (some false)))))))))))) = some r := H
      have A69 := Aside0.mk A690
      clear A690
      replace H := Option.bind_eq_some_iff.mp H
      obtain ⟨⟨t528, t529, t530⟩, A700, H⟩ := H
      replace H : ((florinlaw03_twice.f kj33 t528 t529 t530).bind fun bt531 => ((dec_Cmp.f kj33 bt531.1 bt531.2.1 bt531.2.2 a2_0 a2_1 a2_2).bind fun t534 => (if a3 = 3 then (some (decide (t527 > 0))) else (if a3 = 4 then (some (!(decide (t527 > 0)))) else (if a3 = 5 then (some t511) else (if a3 = 6 then (some (!t511)) else (if a3 = 1 then (if t534 < 0 then (some true) else (if t534 = 0 then (some (decide (t527 > 0))) else (some false))) else (if a3 = 2 then (if t534 < 0 then (some true) else (if t534 = 0 then (some (!(decide (t527 > 0)))) else (some false))) else (if t534 < 0 then (some true) else (if t534 = 0 then ((florinlaw03_even.f kj33 a1_0 a1_1 a1_2 a2_0 a2_1 a2_2).bind fun t535 => (some t535)) else (some false))))))))))) = some r := H
      have A70 := Aside0.mk A700
      clear A700
      replace H := Option.bind_eq_some_iff.mp H
      obtain ⟨⟨t531, t532, t533⟩, A710, H⟩ := H
      replace H : ((dec_Cmp.f kj33 t531 t532 t533 a2_0 a2_1 a2_2).bind fun t534 => (if a3 = 3 then (some (decide (t527 > 0))) else (if a3 = 4 then (some (!(decide (t527 > 0)))) else (if a3 = 5 then (some t511) else (if a3 = 6 then (some (!t511)) else (if a3 = 1 then (if t534 < 0 then (some true) else (if t534 = 0 then (some (decide (t527 > 0))) else (some false))) else (if a3 = 2 then (if t534 < 0 then (some true) else (if t534 = 0 then (some (!(decide (t527 > 0)))) else (some false))) else (if t534 < 0 then (some true) else (if t534 = 0 then ((florinlaw03_even.f kj33 a1_0 a1_1 a1_2 a2_0 a2_1 a2_2).bind fun t535 => (some t535)) else (some false)))))))))) = some r := H
      have A71 := Aside0.mk A710
      clear A710
      replace H := Option.bind_eq_some_iff.mp H
      obtain ⟨t534, A720, H⟩ := H
      replace H : (if a3 = 3 then (some (decide (t527 > 0))) else (if a3 = 4 then (some (!(decide (t527 > 0)))) else (if a3 = 5 then (some t511) else (if a3 = 6 then (some (!t511)) else (if a3 = 1 then (if t534 < 0 then (some true) else (if t534 = 0 then (some (decide (t527 > 0))) else (some false))) else (if a3 = 2 then (if t534 < 0 then (some true) else (if t534 = 0 then (some (!(decide (t527 > 0)))) else (some false))) else (if t534 < 0 then (some true) else (if t534 = 0 then ((florinlaw03_even.f kj33 a1_0 a1_1 a1_2 a2_0 a2_1 a2_2).bind fun t535 => (some t535)) else (some false))))))))) = some r := H
      have A72 := Aside0.mk A720
      clear A720
      by_cases c73 : a3 = 3
      ·rw [if_pos c73] at H
       have c73b0 : (a3 == 3) = true := beq_iff_eq.mpr c73
       have c73b1 : (a3 != 3) = false := bne_eq_false_iff_eq.mpr c73
       clear c73
       obtain rfl := Option.some.inj H
       try go_wp2
       replace BK504 := Aside0.mk (blk_drew BK504.out)
       replace BK505 := Aside0.mk (blk_drew BK505.out)
       replace BK506 := Aside0.mk (blk_drew BK506.out)
       replace BK514 := Aside0.mk (blk_drew BK514.out)
       replace HB := Aside0.mk (below_drew1 HB.out)
       refine start_ (n := 7) (S := fun w' => w'.cell? ⟨gb505, 0, none⟩ = some (.bool a1_0) ∧ w'.cell? ⟨gb505, 1, none⟩ = some (.string a1_1) ∧ w'.cell? ⟨gb505, 2, none⟩ = some (.int .i64 a1_2) ∧ w'.cell? ⟨gb504, 0, none⟩ = some (.bool t507) ∧ w'.cell? ⟨gb504, 1, none⟩ = some (.string t508) ∧ w'.cell? ⟨gb504, 2, none⟩ = some (.int .i64 t509)) (ds := []) #[false, false, false, false, false, false, false] (by kernel_rfl) rfl rfl ⟨bc_ BK505 0, bc_ BK505 1, bc_ BK505 2, bc_ BK504 0, bc_ BK504 1, bc_ BK504 2⟩ (fun hHeld => ?_)
       generalize wc.drew = w74 at BK504 BK505 BK506 BK514 HB hHeld ⊢
       refine tk0_ 0 36 #[true, false, false, false, false, false, false] hHeld rfl (by rintro w' ⟨s0, s1, s2, s3, s4, s5⟩; go_simp; with_reducible rfl) ?_
       refine tk0_ 2 38 #[true, false, true, false, false, false, false] hHeld rfl (by rintro w' ⟨s0, s1, s2, s3, s4, s5⟩; go_simp; with_reducible rfl) ?_
       refine one_ (i := 1) (N := some 37) #[true, true, true, false, false, false, false] rfl rfl (by kernel_rfl) (by decide) (fun K hK => ?_)
       refine gs_ Tryd.func16 #[.agg #[.bool a1_0, .string a1_1, .int .i64 a1_2]] ?_
       with_reducible refine (dec_Dec_Abs.calls kj33 a1_0 a1_1 a1_2 t521 t522 t523 _ A67.out).mono ?_
       rintro e w75 ⟨rfl, hb⟩
       refine ⟨_, rfl, ?_⟩
       replace BK504 := bb_ BK504 hb
       replace BK505 := bb_ BK505 hb
       replace BK506 := bb_ BK506 hb
       replace BK514 := bb_ BK514 hb
       replace HB := Aside0.mk (below_step (bl_ HB).out hb)
       (try clear hb)
       (try clear hb2)
       (try clear hk)
       (try clear hi)
       refine hK.out _ _ ⟨bc_ BK505 0, bc_ BK505 1, bc_ BK505 2, bc_ BK504 0, bc_ BK504 1, bc_ BK504 2⟩ (fun hHeld => ?_)
       clear hK K
       refine nm_ 37 ?_
       refine one_ (i := 3) (N := some 39) #[true, true, true, true, false, false, false] rfl rfl (by kernel_rfl) (by decide) (fun K hK => ?_)
       refine gs_ Tryd.func16 #[.agg #[.bool t507, .string t508, .int .i64 t509]] ?_
       with_reducible refine (dec_Dec_Abs.calls kj33 t507 t508 t509 t524 t525 t526 _ A68.out).mono ?_
       rintro e w76 ⟨rfl, hb⟩
       refine ⟨_, rfl, ?_⟩
       replace BK504 := bb_ BK504 hb
       replace BK505 := bb_ BK505 hb
       replace BK506 := bb_ BK506 hb
       replace BK514 := bb_ BK514 hb
       replace HB := Aside0.mk (below_step (bl_ HB).out hb)
       (try clear hb)
       (try clear hb2)
       (try clear hk)
       (try clear hi)
       refine hK.out _ _ ⟨bc_ BK505 0, bc_ BK505 1, bc_ BK505 2, bc_ BK504 0, bc_ BK504 1, bc_ BK504 2⟩ (fun hHeld => ?_)
       clear hK K
       refine nm_ 39 ?_
       refine one_ (i := 4) (N := some 40) #[true, true, true, true, true, false, false] rfl rfl (by kernel_rfl) (by decide) (fun K hK => ?_)
       refine gs_ Tryd.func17 #[.agg #[.bool t521, .string t522, .int .i64 t523], .agg #[.bool t524, .string t525, .int .i64 t526]] ?_
       with_reducible refine (dec_Cmp.calls kj33 t521 t522 t523 t524 t525 t526 t527 _ A69.out).mono ?_
       rintro e w77 ⟨rfl, hb⟩
       refine ⟨_, rfl, ?_⟩
       replace BK504 := bb_ BK504 hb
       replace BK505 := bb_ BK505 hb
       replace BK506 := bb_ BK506 hb
       replace BK514 := bb_ BK514 hb
       replace HB := Aside0.mk (below_step (bl_ HB).out hb)
       (try clear hb)
       (try clear hb2)
       (try clear hk)
       (try clear hi)
       refine hK.out _ _ ⟨bc_ BK505 0, bc_ BK505 1, bc_ BK505 2, bc_ BK504 0, bc_ BK504 1, bc_ BK504 2⟩ (fun hHeld => ?_)
       clear hK K
       refine nm_ 40 ?_
       refine pu0_ 5 41 #[true, true, true, true, true, true, false] ?_
       refine pu0_ 6 10 #[true, true, true, true, true, true, true] ?_
       refine done_ (by kernel_rfl) ?_
       try go_wp2
       replace BK504 := Aside0.mk (blk_drew BK504.out)
       replace BK505 := Aside0.mk (blk_drew BK505.out)
       replace BK506 := Aside0.mk (blk_drew BK506.out)
       replace BK514 := Aside0.mk (blk_drew BK514.out)
       replace HB := Aside0.mk (below_drew1 HB.out)
       refine start_ (n := 6) (S := fun w' => w'.cell? ⟨gb514, 0, none⟩ = some (.bool t511) ∧ w'.cell? ⟨gb514, 1, none⟩ = some (.string t512) ∧ w'.cell? ⟨gb514, 2, none⟩ = some (.int .i64 t513) ∧ w'.cell? ⟨gb506, 0, none⟩ = some (.bool a2_0) ∧ w'.cell? ⟨gb506, 1, none⟩ = some (.string a2_1) ∧ w'.cell? ⟨gb506, 2, none⟩ = some (.int .i64 a2_2)) (ds := []) #[false, false, false, false, false, false] (by kernel_rfl) rfl rfl ⟨bc_ BK514 0, bc_ BK514 1, bc_ BK514 2, bc_ BK506 0, bc_ BK506 1, bc_ BK506 2⟩ (fun hHeld => ?_)
       generalize w77.drew = w78 at BK504 BK505 BK506 BK514 HB hHeld ⊢
       refine tk0_ 0 42 #[true, false, false, false, false, false] hHeld rfl (by rintro w' ⟨s0, s1, s2, s3, s4, s5⟩; go_simp; with_reducible rfl) ?_
       refine tk0_ 3 45 #[true, false, false, true, false, false] hHeld rfl (by rintro w' ⟨s0, s1, s2, s3, s4, s5⟩; go_simp; with_reducible rfl) ?_
       refine one_ (i := 1) (N := some 43) #[true, true, false, true, false, false] rfl rfl (by kernel_rfl) (by decide) (fun K hK => ?_)
       refine gs_ Tryd.func16 #[.agg #[.bool t511, .string t512, .int .i64 t513]] ?_
       with_reducible refine (dec_Dec_Abs.calls kj33 t511 t512 t513 t528 t529 t530 _ A70.out).mono ?_
       rintro e w79 ⟨rfl, hb⟩
       refine ⟨_, rfl, ?_⟩
       replace BK504 := bb_ BK504 hb
       replace BK505 := bb_ BK505 hb
       replace BK506 := bb_ BK506 hb
       replace BK514 := bb_ BK514 hb
       replace HB := Aside0.mk (below_step (bl_ HB).out hb)
       (try clear hb)
       (try clear hb2)
       (try clear hk)
       (try clear hi)
       refine hK.out _ _ ⟨bc_ BK514 0, bc_ BK514 1, bc_ BK514 2, bc_ BK506 0, bc_ BK506 1, bc_ BK506 2⟩ (fun hHeld => ?_)
       clear hK K
       refine nm_ 43 ?_
       refine one_ (i := 2) (N := some 44) #[true, true, true, true, false, false] rfl rfl (by kernel_rfl) (by decide) (fun K hK => ?_)
       refine gs_ Tryd.func18 #[.agg #[.bool t528, .string t529, .int .i64 t530]] ?_
       with_reducible refine (florinlaw03_twice.calls kj33 t528 t529 t530 t531 t532 t533 _ A71.out).mono ?_
       rintro e w80 ⟨rfl, hb⟩
       refine ⟨_, rfl, ?_⟩
       replace BK504 := bb_ BK504 hb
       replace BK505 := bb_ BK505 hb
       replace BK506 := bb_ BK506 hb
       replace BK514 := bb_ BK514 hb
       replace HB := Aside0.mk (below_step (bl_ HB).out hb)
       (try clear hb)
       (try clear hb2)
       (try clear hk)
       (try clear hi)
       refine hK.out _ _ ⟨bc_ BK514 0, bc_ BK514 1, bc_ BK514 2, bc_ BK506 0, bc_ BK506 1, bc_ BK506 2⟩ (fun hHeld => ?_)
       clear hK K
       refine nm_ 44 ?_
       refine one_ (i := 4) (N := some 46) #[true, true, true, true, true, false] rfl rfl (by kernel_rfl) (by decide) (fun K hK => ?_)
       refine gs_ Tryd.func17 #[.agg #[.bool t531, .string t532, .int .i64 t533], .agg #[.bool a2_0, .string a2_1, .int .i64 a2_2]] ?_
       with_reducible refine (dec_Cmp.calls kj33 t531 t532 t533 a2_0 a2_1 a2_2 t534 _ A72.out).mono ?_
       rintro e w81 ⟨rfl, hb⟩
       refine ⟨_, rfl, ?_⟩
       replace BK504 := bb_ BK504 hb
       replace BK505 := bb_ BK505 hb
       replace BK506 := bb_ BK506 hb
       replace BK514 := bb_ BK514 hb
       replace HB := Aside0.mk (below_step (bl_ HB).out hb)
       (try clear hb)
       (try clear hb2)
       (try clear hk)
       (try clear hi)
       refine hK.out _ _ ⟨bc_ BK514 0, bc_ BK514 1, bc_ BK514 2, bc_ BK506 0, bc_ BK506 1, bc_ BK506 2⟩ (fun hHeld => ?_)
       clear hK K
       refine nm_ 46 ?_
       refine pu0_ 5 11 #[true, true, true, true, true, true] ?_
       refine done_ (by kernel_rfl) ?_
       try go_wp2
       go_ret
       exact ⟨by first | rfl | (simp [errW_none, errW_some] <;> rfl) | (simp [*, errW_none, errW_some] <;> first | rfl | exact given_isEmpty _ | exact (given_isEmpty _).symm), by repeat (first | (with_reducible first | exact HB.out | apply below_alloc | apply pw_below_drewN | apply below_drew1 | refine below_set ?_ GE504.out | refine below_set ?_ GE505.out | refine below_set ?_ GE506.out | refine below_set ?_ GE514.out) | exact HB.out)⟩
      ·rw [if_neg c73] at H
       have c73b0 : (a3 == 3) = false := beq_eq_false_iff_ne.mpr c73
       have c73b1 : (a3 != 3) = true := bne_iff_ne.mpr c73
       by_cases c82 : a3 = 4
       ·rw [if_pos c82] at H
        have c82b0 : (a3 == 4) = true := beq_iff_eq.mpr c82
        have c82b1 : (a3 != 4) = false := bne_eq_false_iff_eq.mpr c82
        clear c82
        obtain rfl := Option.some.inj H
        try go_wp2
        replace BK504 := Aside0.mk (blk_drew BK504.out)
        replace BK505 := Aside0.mk (blk_drew BK505.out)
        replace BK506 := Aside0.mk (blk_drew BK506.out)
        replace BK514 := Aside0.mk (blk_drew BK514.out)
        replace HB := Aside0.mk (below_drew1 HB.out)
        refine start_ (n := 7) (S := fun w' => w'.cell? ⟨gb505, 0, none⟩ = some (.bool a1_0) ∧ w'.cell? ⟨gb505, 1, none⟩ = some (.string a1_1) ∧ w'.cell? ⟨gb505, 2, none⟩ = some (.int .i64 a1_2) ∧ w'.cell? ⟨gb504, 0, none⟩ = some (.bool t507) ∧ w'.cell? ⟨gb504, 1, none⟩ = some (.string t508) ∧ w'.cell? ⟨gb504, 2, none⟩ = some (.int .i64 t509)) (ds := []) #[false, false, false, false, false, false, false] (by kernel_rfl) rfl rfl ⟨bc_ BK505 0, bc_ BK505 1, bc_ BK505 2, bc_ BK504 0, bc_ BK504 1, bc_ BK504 2⟩ (fun hHeld => ?_)
        generalize wc.drew = w83 at BK504 BK505 BK506 BK514 HB hHeld ⊢
        refine tk0_ 0 36 #[true, false, false, false, false, false, false] hHeld rfl (by rintro w' ⟨s0, s1, s2, s3, s4, s5⟩; go_simp; with_reducible rfl) ?_
        refine tk0_ 2 38 #[true, false, true, false, false, false, false] hHeld rfl (by rintro w' ⟨s0, s1, s2, s3, s4, s5⟩; go_simp; with_reducible rfl) ?_
        refine one_ (i := 1) (N := some 37) #[true, true, true, false, false, false, false] rfl rfl (by kernel_rfl) (by decide) (fun K hK => ?_)
        refine gs_ Tryd.func16 #[.agg #[.bool a1_0, .string a1_1, .int .i64 a1_2]] ?_
        with_reducible refine (dec_Dec_Abs.calls kj33 a1_0 a1_1 a1_2 t521 t522 t523 _ A67.out).mono ?_
        rintro e w84 ⟨rfl, hb⟩
        refine ⟨_, rfl, ?_⟩
        replace BK504 := bb_ BK504 hb
        replace BK505 := bb_ BK505 hb
        replace BK506 := bb_ BK506 hb
        replace BK514 := bb_ BK514 hb
        replace HB := Aside0.mk (below_step (bl_ HB).out hb)
        (try clear hb)
        (try clear hb2)
        (try clear hk)
        (try clear hi)
        refine hK.out _ _ ⟨bc_ BK505 0, bc_ BK505 1, bc_ BK505 2, bc_ BK504 0, bc_ BK504 1, bc_ BK504 2⟩ (fun hHeld => ?_)
        clear hK K
        refine nm_ 37 ?_
        refine one_ (i := 3) (N := some 39) #[true, true, true, true, false, false, false] rfl rfl (by kernel_rfl) (by decide) (fun K hK => ?_)
        refine gs_ Tryd.func16 #[.agg #[.bool t507, .string t508, .int .i64 t509]] ?_
        with_reducible refine (dec_Dec_Abs.calls kj33 t507 t508 t509 t524 t525 t526 _ A68.out).mono ?_
        rintro e w85 ⟨rfl, hb⟩
        refine ⟨_, rfl, ?_⟩
        replace BK504 := bb_ BK504 hb
        replace BK505 := bb_ BK505 hb
        replace BK506 := bb_ BK506 hb
        replace BK514 := bb_ BK514 hb
        replace HB := Aside0.mk (below_step (bl_ HB).out hb)
        (try clear hb)
        (try clear hb2)
        (try clear hk)
        (try clear hi)
        refine hK.out _ _ ⟨bc_ BK505 0, bc_ BK505 1, bc_ BK505 2, bc_ BK504 0, bc_ BK504 1, bc_ BK504 2⟩ (fun hHeld => ?_)
        clear hK K
        refine nm_ 39 ?_
        refine one_ (i := 4) (N := some 40) #[true, true, true, true, true, false, false] rfl rfl (by kernel_rfl) (by decide) (fun K hK => ?_)
        refine gs_ Tryd.func17 #[.agg #[.bool t521, .string t522, .int .i64 t523], .agg #[.bool t524, .string t525, .int .i64 t526]] ?_
        with_reducible refine (dec_Cmp.calls kj33 t521 t522 t523 t524 t525 t526 t527 _ A69.out).mono ?_
        rintro e w86 ⟨rfl, hb⟩
        refine ⟨_, rfl, ?_⟩
        replace BK504 := bb_ BK504 hb
        replace BK505 := bb_ BK505 hb
        replace BK506 := bb_ BK506 hb
        replace BK514 := bb_ BK514 hb
        replace HB := Aside0.mk (below_step (bl_ HB).out hb)
        (try clear hb)
        (try clear hb2)
        (try clear hk)
        (try clear hi)
        refine hK.out _ _ ⟨bc_ BK505 0, bc_ BK505 1, bc_ BK505 2, bc_ BK504 0, bc_ BK504 1, bc_ BK504 2⟩ (fun hHeld => ?_)
        clear hK K
        refine nm_ 40 ?_
        refine pu0_ 5 41 #[true, true, true, true, true, true, false] ?_
        refine pu0_ 6 10 #[true, true, true, true, true, true, true] ?_
        refine done_ (by kernel_rfl) ?_
        try go_wp2
        replace BK504 := Aside0.mk (blk_drew BK504.out)
        replace BK505 := Aside0.mk (blk_drew BK505.out)
        replace BK506 := Aside0.mk (blk_drew BK506.out)
        replace BK514 := Aside0.mk (blk_drew BK514.out)
        replace HB := Aside0.mk (below_drew1 HB.out)
        refine start_ (n := 6) (S := fun w' => w'.cell? ⟨gb514, 0, none⟩ = some (.bool t511) ∧ w'.cell? ⟨gb514, 1, none⟩ = some (.string t512) ∧ w'.cell? ⟨gb514, 2, none⟩ = some (.int .i64 t513) ∧ w'.cell? ⟨gb506, 0, none⟩ = some (.bool a2_0) ∧ w'.cell? ⟨gb506, 1, none⟩ = some (.string a2_1) ∧ w'.cell? ⟨gb506, 2, none⟩ = some (.int .i64 a2_2)) (ds := []) #[false, false, false, false, false, false] (by kernel_rfl) rfl rfl ⟨bc_ BK514 0, bc_ BK514 1, bc_ BK514 2, bc_ BK506 0, bc_ BK506 1, bc_ BK506 2⟩ (fun hHeld => ?_)
        generalize w86.drew = w87 at BK504 BK505 BK506 BK514 HB hHeld ⊢
        refine tk0_ 0 42 #[true, false, false, false, false, false] hHeld rfl (by rintro w' ⟨s0, s1, s2, s3, s4, s5⟩; go_simp; with_reducible rfl) ?_
        refine tk0_ 3 45 #[true, false, false, true, false, false] hHeld rfl (by rintro w' ⟨s0, s1, s2, s3, s4, s5⟩; go_simp; with_reducible rfl) ?_
        refine one_ (i := 1) (N := some 43) #[true, true, false, true, false, false] rfl rfl (by kernel_rfl) (by decide) (fun K hK => ?_)
        refine gs_ Tryd.func16 #[.agg #[.bool t511, .string t512, .int .i64 t513]] ?_
        with_reducible refine (dec_Dec_Abs.calls kj33 t511 t512 t513 t528 t529 t530 _ A70.out).mono ?_
        rintro e w88 ⟨rfl, hb⟩
        refine ⟨_, rfl, ?_⟩
        replace BK504 := bb_ BK504 hb
        replace BK505 := bb_ BK505 hb
        replace BK506 := bb_ BK506 hb
        replace BK514 := bb_ BK514 hb
        replace HB := Aside0.mk (below_step (bl_ HB).out hb)
        (try clear hb)
        (try clear hb2)
        (try clear hk)
        (try clear hi)
        refine hK.out _ _ ⟨bc_ BK514 0, bc_ BK514 1, bc_ BK514 2, bc_ BK506 0, bc_ BK506 1, bc_ BK506 2⟩ (fun hHeld => ?_)
        clear hK K
        refine nm_ 43 ?_
        refine one_ (i := 2) (N := some 44) #[true, true, true, true, false, false] rfl rfl (by kernel_rfl) (by decide) (fun K hK => ?_)
        refine gs_ Tryd.func18 #[.agg #[.bool t528, .string t529, .int .i64 t530]] ?_
        with_reducible refine (florinlaw03_twice.calls kj33 t528 t529 t530 t531 t532 t533 _ A71.out).mono ?_
        rintro e w89 ⟨rfl, hb⟩
        refine ⟨_, rfl, ?_⟩
        replace BK504 := bb_ BK504 hb
        replace BK505 := bb_ BK505 hb
        replace BK506 := bb_ BK506 hb
        replace BK514 := bb_ BK514 hb
        replace HB := Aside0.mk (below_step (bl_ HB).out hb)
        (try clear hb)
        (try clear hb2)
        (try clear hk)
        (try clear hi)
        refine hK.out _ _ ⟨bc_ BK514 0, bc_ BK514 1, bc_ BK514 2, bc_ BK506 0, bc_ BK506 1, bc_ BK506 2⟩ (fun hHeld => ?_)
        clear hK K
        refine nm_ 44 ?_
        refine one_ (i := 4) (N := some 46) #[true, true, true, true, true, false] rfl rfl (by kernel_rfl) (by decide) (fun K hK => ?_)
        refine gs_ Tryd.func17 #[.agg #[.bool t531, .string t532, .int .i64 t533], .agg #[.bool a2_0, .string a2_1, .int .i64 a2_2]] ?_
        with_reducible refine (dec_Cmp.calls kj33 t531 t532 t533 a2_0 a2_1 a2_2 t534 _ A72.out).mono ?_
        rintro e w90 ⟨rfl, hb⟩
        refine ⟨_, rfl, ?_⟩
        replace BK504 := bb_ BK504 hb
        replace BK505 := bb_ BK505 hb
        replace BK506 := bb_ BK506 hb
        replace BK514 := bb_ BK514 hb
        replace HB := Aside0.mk (below_step (bl_ HB).out hb)
        (try clear hb)
        (try clear hb2)
        (try clear hk)
        (try clear hi)
        refine hK.out _ _ ⟨bc_ BK514 0, bc_ BK514 1, bc_ BK514 2, bc_ BK506 0, bc_ BK506 1, bc_ BK506 2⟩ (fun hHeld => ?_)
        clear hK K
        refine nm_ 46 ?_
        refine pu0_ 5 11 #[true, true, true, true, true, true] ?_
        refine done_ (by kernel_rfl) ?_
        try go_wp2
        go_ret
        exact ⟨by first | rfl | (simp [errW_none, errW_some] <;> rfl) | (simp [*, errW_none, errW_some] <;> first | rfl | exact given_isEmpty _ | exact (given_isEmpty _).symm), by repeat (first | (with_reducible first | exact HB.out | apply below_alloc | apply pw_below_drewN | apply below_drew1 | refine below_set ?_ GE504.out | refine below_set ?_ GE505.out | refine below_set ?_ GE506.out | refine below_set ?_ GE514.out) | exact HB.out)⟩
       ·rw [if_neg c82] at H
        have c82b0 : (a3 == 4) = false := beq_eq_false_iff_ne.mpr c82
        have c82b1 : (a3 != 4) = true := bne_iff_ne.mpr c82
        by_cases c91 : a3 = 5
        ·rw [if_pos c91] at H
         have c91b0 : (a3 == 5) = true := beq_iff_eq.mpr c91
         have c91b1 : (a3 != 5) = false := bne_eq_false_iff_eq.mpr c91
         clear c91
         obtain rfl := Option.some.inj H
         try go_wp2
         replace BK504 := Aside0.mk (blk_drew BK504.out)
         replace BK505 := Aside0.mk (blk_drew BK505.out)
         replace BK506 := Aside0.mk (blk_drew BK506.out)
         replace BK514 := Aside0.mk (blk_drew BK514.out)
         replace HB := Aside0.mk (below_drew1 HB.out)
         refine start_ (n := 7) (S := fun w' => w'.cell? ⟨gb505, 0, none⟩ = some (.bool a1_0) ∧ w'.cell? ⟨gb505, 1, none⟩ = some (.string a1_1) ∧ w'.cell? ⟨gb505, 2, none⟩ = some (.int .i64 a1_2) ∧ w'.cell? ⟨gb504, 0, none⟩ = some (.bool t507) ∧ w'.cell? ⟨gb504, 1, none⟩ = some (.string t508) ∧ w'.cell? ⟨gb504, 2, none⟩ = some (.int .i64 t509)) (ds := []) #[false, false, false, false, false, false, false] (by kernel_rfl) rfl rfl ⟨bc_ BK505 0, bc_ BK505 1, bc_ BK505 2, bc_ BK504 0, bc_ BK504 1, bc_ BK504 2⟩ (fun hHeld => ?_)
         generalize wc.drew = w92 at BK504 BK505 BK506 BK514 HB hHeld ⊢
         refine tk0_ 0 36 #[true, false, false, false, false, false, false] hHeld rfl (by rintro w' ⟨s0, s1, s2, s3, s4, s5⟩; go_simp; with_reducible rfl) ?_
         refine tk0_ 2 38 #[true, false, true, false, false, false, false] hHeld rfl (by rintro w' ⟨s0, s1, s2, s3, s4, s5⟩; go_simp; with_reducible rfl) ?_
         refine one_ (i := 1) (N := some 37) #[true, true, true, false, false, false, false] rfl rfl (by kernel_rfl) (by decide) (fun K hK => ?_)
         refine gs_ Tryd.func16 #[.agg #[.bool a1_0, .string a1_1, .int .i64 a1_2]] ?_
         with_reducible refine (dec_Dec_Abs.calls kj33 a1_0 a1_1 a1_2 t521 t522 t523 _ A67.out).mono ?_
         rintro e w93 ⟨rfl, hb⟩
         refine ⟨_, rfl, ?_⟩
         replace BK504 := bb_ BK504 hb
         replace BK505 := bb_ BK505 hb
         replace BK506 := bb_ BK506 hb
         replace BK514 := bb_ BK514 hb
         replace HB := Aside0.mk (below_step (bl_ HB).out hb)
         (try clear hb)
         (try clear hb2)
         (try clear hk)
         (try clear hi)
         refine hK.out _ _ ⟨bc_ BK505 0, bc_ BK505 1, bc_ BK505 2, bc_ BK504 0, bc_ BK504 1, bc_ BK504 2⟩ (fun hHeld => ?_)
         clear hK K
         refine nm_ 37 ?_
         refine one_ (i := 3) (N := some 39) #[true, true, true, true, false, false, false] rfl rfl (by kernel_rfl) (by decide) (fun K hK => ?_)
         refine gs_ Tryd.func16 #[.agg #[.bool t507, .string t508, .int .i64 t509]] ?_
         with_reducible refine (dec_Dec_Abs.calls kj33 t507 t508 t509 t524 t525 t526 _ A68.out).mono ?_
         rintro e w94 ⟨rfl, hb⟩
         refine ⟨_, rfl, ?_⟩
         replace BK504 := bb_ BK504 hb
         replace BK505 := bb_ BK505 hb
         replace BK506 := bb_ BK506 hb
         replace BK514 := bb_ BK514 hb
         replace HB := Aside0.mk (below_step (bl_ HB).out hb)
         (try clear hb)
         (try clear hb2)
         (try clear hk)
         (try clear hi)
         refine hK.out _ _ ⟨bc_ BK505 0, bc_ BK505 1, bc_ BK505 2, bc_ BK504 0, bc_ BK504 1, bc_ BK504 2⟩ (fun hHeld => ?_)
         clear hK K
         refine nm_ 39 ?_
         refine one_ (i := 4) (N := some 40) #[true, true, true, true, true, false, false] rfl rfl (by kernel_rfl) (by decide) (fun K hK => ?_)
         refine gs_ Tryd.func17 #[.agg #[.bool t521, .string t522, .int .i64 t523], .agg #[.bool t524, .string t525, .int .i64 t526]] ?_
         with_reducible refine (dec_Cmp.calls kj33 t521 t522 t523 t524 t525 t526 t527 _ A69.out).mono ?_
         rintro e w95 ⟨rfl, hb⟩
         refine ⟨_, rfl, ?_⟩
         replace BK504 := bb_ BK504 hb
         replace BK505 := bb_ BK505 hb
         replace BK506 := bb_ BK506 hb
         replace BK514 := bb_ BK514 hb
         replace HB := Aside0.mk (below_step (bl_ HB).out hb)
         (try clear hb)
         (try clear hb2)
         (try clear hk)
         (try clear hi)
         refine hK.out _ _ ⟨bc_ BK505 0, bc_ BK505 1, bc_ BK505 2, bc_ BK504 0, bc_ BK504 1, bc_ BK504 2⟩ (fun hHeld => ?_)
         clear hK K
         refine nm_ 40 ?_
         refine pu0_ 5 41 #[true, true, true, true, true, true, false] ?_
         refine pu0_ 6 10 #[true, true, true, true, true, true, true] ?_
         refine done_ (by kernel_rfl) ?_
         try go_wp2
         replace BK504 := Aside0.mk (blk_drew BK504.out)
         replace BK505 := Aside0.mk (blk_drew BK505.out)
         replace BK506 := Aside0.mk (blk_drew BK506.out)
         replace BK514 := Aside0.mk (blk_drew BK514.out)
         replace HB := Aside0.mk (below_drew1 HB.out)
         refine start_ (n := 6) (S := fun w' => w'.cell? ⟨gb514, 0, none⟩ = some (.bool t511) ∧ w'.cell? ⟨gb514, 1, none⟩ = some (.string t512) ∧ w'.cell? ⟨gb514, 2, none⟩ = some (.int .i64 t513) ∧ w'.cell? ⟨gb506, 0, none⟩ = some (.bool a2_0) ∧ w'.cell? ⟨gb506, 1, none⟩ = some (.string a2_1) ∧ w'.cell? ⟨gb506, 2, none⟩ = some (.int .i64 a2_2)) (ds := []) #[false, false, false, false, false, false] (by kernel_rfl) rfl rfl ⟨bc_ BK514 0, bc_ BK514 1, bc_ BK514 2, bc_ BK506 0, bc_ BK506 1, bc_ BK506 2⟩ (fun hHeld => ?_)
         generalize w95.drew = w96 at BK504 BK505 BK506 BK514 HB hHeld ⊢
         refine tk0_ 0 42 #[true, false, false, false, false, false] hHeld rfl (by rintro w' ⟨s0, s1, s2, s3, s4, s5⟩; go_simp; with_reducible rfl) ?_
         refine tk0_ 3 45 #[true, false, false, true, false, false] hHeld rfl (by rintro w' ⟨s0, s1, s2, s3, s4, s5⟩; go_simp; with_reducible rfl) ?_
         refine one_ (i := 1) (N := some 43) #[true, true, false, true, false, false] rfl rfl (by kernel_rfl) (by decide) (fun K hK => ?_)
         refine gs_ Tryd.func16 #[.agg #[.bool t511, .string t512, .int .i64 t513]] ?_
         with_reducible refine (dec_Dec_Abs.calls kj33 t511 t512 t513 t528 t529 t530 _ A70.out).mono ?_
         rintro e w97 ⟨rfl, hb⟩
         refine ⟨_, rfl, ?_⟩
         replace BK504 := bb_ BK504 hb
         replace BK505 := bb_ BK505 hb
         replace BK506 := bb_ BK506 hb
         replace BK514 := bb_ BK514 hb
         replace HB := Aside0.mk (below_step (bl_ HB).out hb)
         (try clear hb)
         (try clear hb2)
         (try clear hk)
         (try clear hi)
         refine hK.out _ _ ⟨bc_ BK514 0, bc_ BK514 1, bc_ BK514 2, bc_ BK506 0, bc_ BK506 1, bc_ BK506 2⟩ (fun hHeld => ?_)
         clear hK K
         refine nm_ 43 ?_
         refine one_ (i := 2) (N := some 44) #[true, true, true, true, false, false] rfl rfl (by kernel_rfl) (by decide) (fun K hK => ?_)
         refine gs_ Tryd.func18 #[.agg #[.bool t528, .string t529, .int .i64 t530]] ?_
         with_reducible refine (florinlaw03_twice.calls kj33 t528 t529 t530 t531 t532 t533 _ A71.out).mono ?_
         rintro e w98 ⟨rfl, hb⟩
         refine ⟨_, rfl, ?_⟩
         replace BK504 := bb_ BK504 hb
         replace BK505 := bb_ BK505 hb
         replace BK506 := bb_ BK506 hb
         replace BK514 := bb_ BK514 hb
         replace HB := Aside0.mk (below_step (bl_ HB).out hb)
         (try clear hb)
         (try clear hb2)
         (try clear hk)
         (try clear hi)
         refine hK.out _ _ ⟨bc_ BK514 0, bc_ BK514 1, bc_ BK514 2, bc_ BK506 0, bc_ BK506 1, bc_ BK506 2⟩ (fun hHeld => ?_)
         clear hK K
         refine nm_ 44 ?_
         refine one_ (i := 4) (N := some 46) #[true, true, true, true, true, false] rfl rfl (by kernel_rfl) (by decide) (fun K hK => ?_)
         refine gs_ Tryd.func17 #[.agg #[.bool t531, .string t532, .int .i64 t533], .agg #[.bool a2_0, .string a2_1, .int .i64 a2_2]] ?_
         with_reducible refine (dec_Cmp.calls kj33 t531 t532 t533 a2_0 a2_1 a2_2 t534 _ A72.out).mono ?_
         rintro e w99 ⟨rfl, hb⟩
         refine ⟨_, rfl, ?_⟩
         replace BK504 := bb_ BK504 hb
         replace BK505 := bb_ BK505 hb
         replace BK506 := bb_ BK506 hb
         replace BK514 := bb_ BK514 hb
         replace HB := Aside0.mk (below_step (bl_ HB).out hb)
         (try clear hb)
         (try clear hb2)
         (try clear hk)
         (try clear hi)
         refine hK.out _ _ ⟨bc_ BK514 0, bc_ BK514 1, bc_ BK514 2, bc_ BK506 0, bc_ BK506 1, bc_ BK506 2⟩ (fun hHeld => ?_)
         clear hK K
         refine nm_ 46 ?_
         refine pu0_ 5 11 #[true, true, true, true, true, true] ?_
         refine done_ (by kernel_rfl) ?_
         have hnb100 := NB514_504.out
         have hnc100 := NB504_514.out
         have hnb101 := NB514_505.out
         have hnc101 := NB505_514.out
         have hnb102 := NB514_506.out
         have hnc102 := NB506_514.out
         have hcz103_0 : w99.cell? ⟨gb514, 0, none⟩ = some (.bool t511) := bc_ BK514 0
         have hcz103_1 : w99.cell? ⟨gb514, 1, none⟩ = some (.string t512) := bc_ BK514 1
         have hcz103_2 : w99.cell? ⟨gb514, 2, none⟩ = some (.int .i64 t513) := bc_ BK514 2
         have hfz103_0 := blk_frozen BK514.out 0
         have hfz103_1 := blk_frozen BK514.out 1
         have hfz103_2 := blk_frozen BK514.out 2
         try go_wp2
         go_ret
         exact ⟨by first | rfl | (simp [errW_none, errW_some] <;> rfl) | (simp [*, errW_none, errW_some] <;> first | rfl | exact given_isEmpty _ | exact (given_isEmpty _).symm), by repeat (first | (with_reducible first | exact HB.out | apply below_alloc | apply pw_below_drewN | apply below_drew1 | refine below_set ?_ GE504.out | refine below_set ?_ GE505.out | refine below_set ?_ GE506.out | refine below_set ?_ GE514.out) | exact HB.out)⟩
        ·rw [if_neg c91] at H
         have c91b0 : (a3 == 5) = false := beq_eq_false_iff_ne.mpr c91
         have c91b1 : (a3 != 5) = true := bne_iff_ne.mpr c91
         by_cases c104 : a3 = 6
         ·rw [if_pos c104] at H
          have c104b0 : (a3 == 6) = true := beq_iff_eq.mpr c104
          have c104b1 : (a3 != 6) = false := bne_eq_false_iff_eq.mpr c104
          clear c104
          obtain rfl := Option.some.inj H
          try go_wp2
          replace BK504 := Aside0.mk (blk_drew BK504.out)
          replace BK505 := Aside0.mk (blk_drew BK505.out)
          replace BK506 := Aside0.mk (blk_drew BK506.out)
          replace BK514 := Aside0.mk (blk_drew BK514.out)
          replace HB := Aside0.mk (below_drew1 HB.out)
          refine start_ (n := 7) (S := fun w' => w'.cell? ⟨gb505, 0, none⟩ = some (.bool a1_0) ∧ w'.cell? ⟨gb505, 1, none⟩ = some (.string a1_1) ∧ w'.cell? ⟨gb505, 2, none⟩ = some (.int .i64 a1_2) ∧ w'.cell? ⟨gb504, 0, none⟩ = some (.bool t507) ∧ w'.cell? ⟨gb504, 1, none⟩ = some (.string t508) ∧ w'.cell? ⟨gb504, 2, none⟩ = some (.int .i64 t509)) (ds := []) #[false, false, false, false, false, false, false] (by kernel_rfl) rfl rfl ⟨bc_ BK505 0, bc_ BK505 1, bc_ BK505 2, bc_ BK504 0, bc_ BK504 1, bc_ BK504 2⟩ (fun hHeld => ?_)
          generalize wc.drew = w105 at BK504 BK505 BK506 BK514 HB hHeld ⊢
          refine tk0_ 0 36 #[true, false, false, false, false, false, false] hHeld rfl (by rintro w' ⟨s0, s1, s2, s3, s4, s5⟩; go_simp; with_reducible rfl) ?_
          refine tk0_ 2 38 #[true, false, true, false, false, false, false] hHeld rfl (by rintro w' ⟨s0, s1, s2, s3, s4, s5⟩; go_simp; with_reducible rfl) ?_
          refine one_ (i := 1) (N := some 37) #[true, true, true, false, false, false, false] rfl rfl (by kernel_rfl) (by decide) (fun K hK => ?_)
          refine gs_ Tryd.func16 #[.agg #[.bool a1_0, .string a1_1, .int .i64 a1_2]] ?_
          with_reducible refine (dec_Dec_Abs.calls kj33 a1_0 a1_1 a1_2 t521 t522 t523 _ A67.out).mono ?_
          rintro e w106 ⟨rfl, hb⟩
          refine ⟨_, rfl, ?_⟩
          replace BK504 := bb_ BK504 hb
          replace BK505 := bb_ BK505 hb
          replace BK506 := bb_ BK506 hb
          replace BK514 := bb_ BK514 hb
          replace HB := Aside0.mk (below_step (bl_ HB).out hb)
          (try clear hb)
          (try clear hb2)
          (try clear hk)
          (try clear hi)
          refine hK.out _ _ ⟨bc_ BK505 0, bc_ BK505 1, bc_ BK505 2, bc_ BK504 0, bc_ BK504 1, bc_ BK504 2⟩ (fun hHeld => ?_)
          clear hK K
          refine nm_ 37 ?_
          refine one_ (i := 3) (N := some 39) #[true, true, true, true, false, false, false] rfl rfl (by kernel_rfl) (by decide) (fun K hK => ?_)
          refine gs_ Tryd.func16 #[.agg #[.bool t507, .string t508, .int .i64 t509]] ?_
          with_reducible refine (dec_Dec_Abs.calls kj33 t507 t508 t509 t524 t525 t526 _ A68.out).mono ?_
          rintro e w107 ⟨rfl, hb⟩
          refine ⟨_, rfl, ?_⟩
          replace BK504 := bb_ BK504 hb
          replace BK505 := bb_ BK505 hb
          replace BK506 := bb_ BK506 hb
          replace BK514 := bb_ BK514 hb
          replace HB := Aside0.mk (below_step (bl_ HB).out hb)
          (try clear hb)
          (try clear hb2)
          (try clear hk)
          (try clear hi)
          refine hK.out _ _ ⟨bc_ BK505 0, bc_ BK505 1, bc_ BK505 2, bc_ BK504 0, bc_ BK504 1, bc_ BK504 2⟩ (fun hHeld => ?_)
          clear hK K
          refine nm_ 39 ?_
          refine one_ (i := 4) (N := some 40) #[true, true, true, true, true, false, false] rfl rfl (by kernel_rfl) (by decide) (fun K hK => ?_)
          refine gs_ Tryd.func17 #[.agg #[.bool t521, .string t522, .int .i64 t523], .agg #[.bool t524, .string t525, .int .i64 t526]] ?_
          with_reducible refine (dec_Cmp.calls kj33 t521 t522 t523 t524 t525 t526 t527 _ A69.out).mono ?_
          rintro e w108 ⟨rfl, hb⟩
          refine ⟨_, rfl, ?_⟩
          replace BK504 := bb_ BK504 hb
          replace BK505 := bb_ BK505 hb
          replace BK506 := bb_ BK506 hb
          replace BK514 := bb_ BK514 hb
          replace HB := Aside0.mk (below_step (bl_ HB).out hb)
          (try clear hb)
          (try clear hb2)
          (try clear hk)
          (try clear hi)
          refine hK.out _ _ ⟨bc_ BK505 0, bc_ BK505 1, bc_ BK505 2, bc_ BK504 0, bc_ BK504 1, bc_ BK504 2⟩ (fun hHeld => ?_)
          clear hK K
          refine nm_ 40 ?_
          refine pu0_ 5 41 #[true, true, true, true, true, true, false] ?_
          refine pu0_ 6 10 #[true, true, true, true, true, true, true] ?_
          refine done_ (by kernel_rfl) ?_
          try go_wp2
          replace BK504 := Aside0.mk (blk_drew BK504.out)
          replace BK505 := Aside0.mk (blk_drew BK505.out)
          replace BK506 := Aside0.mk (blk_drew BK506.out)
          replace BK514 := Aside0.mk (blk_drew BK514.out)
          replace HB := Aside0.mk (below_drew1 HB.out)
          refine start_ (n := 6) (S := fun w' => w'.cell? ⟨gb514, 0, none⟩ = some (.bool t511) ∧ w'.cell? ⟨gb514, 1, none⟩ = some (.string t512) ∧ w'.cell? ⟨gb514, 2, none⟩ = some (.int .i64 t513) ∧ w'.cell? ⟨gb506, 0, none⟩ = some (.bool a2_0) ∧ w'.cell? ⟨gb506, 1, none⟩ = some (.string a2_1) ∧ w'.cell? ⟨gb506, 2, none⟩ = some (.int .i64 a2_2)) (ds := []) #[false, false, false, false, false, false] (by kernel_rfl) rfl rfl ⟨bc_ BK514 0, bc_ BK514 1, bc_ BK514 2, bc_ BK506 0, bc_ BK506 1, bc_ BK506 2⟩ (fun hHeld => ?_)
          generalize w108.drew = w109 at BK504 BK505 BK506 BK514 HB hHeld ⊢
          refine tk0_ 0 42 #[true, false, false, false, false, false] hHeld rfl (by rintro w' ⟨s0, s1, s2, s3, s4, s5⟩; go_simp; with_reducible rfl) ?_
          refine tk0_ 3 45 #[true, false, false, true, false, false] hHeld rfl (by rintro w' ⟨s0, s1, s2, s3, s4, s5⟩; go_simp; with_reducible rfl) ?_
          refine one_ (i := 1) (N := some 43) #[true, true, false, true, false, false] rfl rfl (by kernel_rfl) (by decide) (fun K hK => ?_)
          refine gs_ Tryd.func16 #[.agg #[.bool t511, .string t512, .int .i64 t513]] ?_
          with_reducible refine (dec_Dec_Abs.calls kj33 t511 t512 t513 t528 t529 t530 _ A70.out).mono ?_
          rintro e w110 ⟨rfl, hb⟩
          refine ⟨_, rfl, ?_⟩
          replace BK504 := bb_ BK504 hb
          replace BK505 := bb_ BK505 hb
          replace BK506 := bb_ BK506 hb
          replace BK514 := bb_ BK514 hb
          replace HB := Aside0.mk (below_step (bl_ HB).out hb)
          (try clear hb)
          (try clear hb2)
          (try clear hk)
          (try clear hi)
          refine hK.out _ _ ⟨bc_ BK514 0, bc_ BK514 1, bc_ BK514 2, bc_ BK506 0, bc_ BK506 1, bc_ BK506 2⟩ (fun hHeld => ?_)
          clear hK K
          refine nm_ 43 ?_
          refine one_ (i := 2) (N := some 44) #[true, true, true, true, false, false] rfl rfl (by kernel_rfl) (by decide) (fun K hK => ?_)
          refine gs_ Tryd.func18 #[.agg #[.bool t528, .string t529, .int .i64 t530]] ?_
          with_reducible refine (florinlaw03_twice.calls kj33 t528 t529 t530 t531 t532 t533 _ A71.out).mono ?_
          rintro e w111 ⟨rfl, hb⟩
          refine ⟨_, rfl, ?_⟩
          replace BK504 := bb_ BK504 hb
          replace BK505 := bb_ BK505 hb
          replace BK506 := bb_ BK506 hb
          replace BK514 := bb_ BK514 hb
          replace HB := Aside0.mk (below_step (bl_ HB).out hb)
          (try clear hb)
          (try clear hb2)
          (try clear hk)
          (try clear hi)
          refine hK.out _ _ ⟨bc_ BK514 0, bc_ BK514 1, bc_ BK514 2, bc_ BK506 0, bc_ BK506 1, bc_ BK506 2⟩ (fun hHeld => ?_)
          clear hK K
          refine nm_ 44 ?_
          refine one_ (i := 4) (N := some 46) #[true, true, true, true, true, false] rfl rfl (by kernel_rfl) (by decide) (fun K hK => ?_)
          refine gs_ Tryd.func17 #[.agg #[.bool t531, .string t532, .int .i64 t533], .agg #[.bool a2_0, .string a2_1, .int .i64 a2_2]] ?_
          with_reducible refine (dec_Cmp.calls kj33 t531 t532 t533 a2_0 a2_1 a2_2 t534 _ A72.out).mono ?_
          rintro e w112 ⟨rfl, hb⟩
          refine ⟨_, rfl, ?_⟩
          replace BK504 := bb_ BK504 hb
          replace BK505 := bb_ BK505 hb
          replace BK506 := bb_ BK506 hb
          replace BK514 := bb_ BK514 hb
          replace HB := Aside0.mk (below_step (bl_ HB).out hb)
          (try clear hb)
          (try clear hb2)
          (try clear hk)
          (try clear hi)
          refine hK.out _ _ ⟨bc_ BK514 0, bc_ BK514 1, bc_ BK514 2, bc_ BK506 0, bc_ BK506 1, bc_ BK506 2⟩ (fun hHeld => ?_)
          clear hK K
          refine nm_ 46 ?_
          refine pu0_ 5 11 #[true, true, true, true, true, true] ?_
          refine done_ (by kernel_rfl) ?_
          have hnb113 := NB514_504.out
          have hnc113 := NB504_514.out
          have hnb114 := NB514_505.out
          have hnc114 := NB505_514.out
          have hnb115 := NB514_506.out
          have hnc115 := NB506_514.out
          have hcz116_0 : w112.cell? ⟨gb514, 0, none⟩ = some (.bool t511) := bc_ BK514 0
          have hcz116_1 : w112.cell? ⟨gb514, 1, none⟩ = some (.string t512) := bc_ BK514 1
          have hcz116_2 : w112.cell? ⟨gb514, 2, none⟩ = some (.int .i64 t513) := bc_ BK514 2
          have hfz116_0 := blk_frozen BK514.out 0
          have hfz116_1 := blk_frozen BK514.out 1
          have hfz116_2 := blk_frozen BK514.out 2
          try go_wp2
          go_ret
          exact ⟨by first | rfl | (simp [errW_none, errW_some] <;> rfl) | (simp [*, errW_none, errW_some] <;> first | rfl | exact given_isEmpty _ | exact (given_isEmpty _).symm), by repeat (first | (with_reducible first | exact HB.out | apply below_alloc | apply pw_below_drewN | apply below_drew1 | refine below_set ?_ GE504.out | refine below_set ?_ GE505.out | refine below_set ?_ GE506.out | refine below_set ?_ GE514.out) | exact HB.out)⟩
         ·rw [if_neg c104] at H
          have c104b0 : (a3 == 6) = false := beq_eq_false_iff_ne.mpr c104
          have c104b1 : (a3 != 6) = true := bne_iff_ne.mpr c104
          by_cases c117 : a3 = 1
          ·rw [if_pos c117] at H
           have c117b0 : (a3 == 1) = true := beq_iff_eq.mpr c117
           have c117b1 : (a3 != 1) = false := bne_eq_false_iff_eq.mpr c117
           clear c117
           by_cases c118 : t534 < 0
           ·rw [if_pos c118] at H
            have c118b0 : decide (t534 < 0) = true := decide_eq_true c118
            clear c118
            obtain rfl := Option.some.inj H
            try go_wp2
            replace BK504 := Aside0.mk (blk_drew BK504.out)
            replace BK505 := Aside0.mk (blk_drew BK505.out)
            replace BK506 := Aside0.mk (blk_drew BK506.out)
            replace BK514 := Aside0.mk (blk_drew BK514.out)
            replace HB := Aside0.mk (below_drew1 HB.out)
            refine start_ (n := 7) (S := fun w' => w'.cell? ⟨gb505, 0, none⟩ = some (.bool a1_0) ∧ w'.cell? ⟨gb505, 1, none⟩ = some (.string a1_1) ∧ w'.cell? ⟨gb505, 2, none⟩ = some (.int .i64 a1_2) ∧ w'.cell? ⟨gb504, 0, none⟩ = some (.bool t507) ∧ w'.cell? ⟨gb504, 1, none⟩ = some (.string t508) ∧ w'.cell? ⟨gb504, 2, none⟩ = some (.int .i64 t509)) (ds := []) #[false, false, false, false, false, false, false] (by kernel_rfl) rfl rfl ⟨bc_ BK505 0, bc_ BK505 1, bc_ BK505 2, bc_ BK504 0, bc_ BK504 1, bc_ BK504 2⟩ (fun hHeld => ?_)
            generalize wc.drew = w119 at BK504 BK505 BK506 BK514 HB hHeld ⊢
            refine tk0_ 0 36 #[true, false, false, false, false, false, false] hHeld rfl (by rintro w' ⟨s0, s1, s2, s3, s4, s5⟩; go_simp; with_reducible rfl) ?_
            refine tk0_ 2 38 #[true, false, true, false, false, false, false] hHeld rfl (by rintro w' ⟨s0, s1, s2, s3, s4, s5⟩; go_simp; with_reducible rfl) ?_
            refine one_ (i := 1) (N := some 37) #[true, true, true, false, false, false, false] rfl rfl (by kernel_rfl) (by decide) (fun K hK => ?_)
            refine gs_ Tryd.func16 #[.agg #[.bool a1_0, .string a1_1, .int .i64 a1_2]] ?_
            with_reducible refine (dec_Dec_Abs.calls kj33 a1_0 a1_1 a1_2 t521 t522 t523 _ A67.out).mono ?_
            rintro e w120 ⟨rfl, hb⟩
            refine ⟨_, rfl, ?_⟩
            replace BK504 := bb_ BK504 hb
            replace BK505 := bb_ BK505 hb
            replace BK506 := bb_ BK506 hb
            replace BK514 := bb_ BK514 hb
            replace HB := Aside0.mk (below_step (bl_ HB).out hb)
            (try clear hb)
            (try clear hb2)
            (try clear hk)
            (try clear hi)
            refine hK.out _ _ ⟨bc_ BK505 0, bc_ BK505 1, bc_ BK505 2, bc_ BK504 0, bc_ BK504 1, bc_ BK504 2⟩ (fun hHeld => ?_)
            clear hK K
            refine nm_ 37 ?_
            refine one_ (i := 3) (N := some 39) #[true, true, true, true, false, false, false] rfl rfl (by kernel_rfl) (by decide) (fun K hK => ?_)
            refine gs_ Tryd.func16 #[.agg #[.bool t507, .string t508, .int .i64 t509]] ?_
            with_reducible refine (dec_Dec_Abs.calls kj33 t507 t508 t509 t524 t525 t526 _ A68.out).mono ?_
            rintro e w121 ⟨rfl, hb⟩
            refine ⟨_, rfl, ?_⟩
            replace BK504 := bb_ BK504 hb
            replace BK505 := bb_ BK505 hb
            replace BK506 := bb_ BK506 hb
            replace BK514 := bb_ BK514 hb
            replace HB := Aside0.mk (below_step (bl_ HB).out hb)
            (try clear hb)
            (try clear hb2)
            (try clear hk)
            (try clear hi)
            refine hK.out _ _ ⟨bc_ BK505 0, bc_ BK505 1, bc_ BK505 2, bc_ BK504 0, bc_ BK504 1, bc_ BK504 2⟩ (fun hHeld => ?_)
            clear hK K
            refine nm_ 39 ?_
            refine one_ (i := 4) (N := some 40) #[true, true, true, true, true, false, false] rfl rfl (by kernel_rfl) (by decide) (fun K hK => ?_)
            refine gs_ Tryd.func17 #[.agg #[.bool t521, .string t522, .int .i64 t523], .agg #[.bool t524, .string t525, .int .i64 t526]] ?_
            with_reducible refine (dec_Cmp.calls kj33 t521 t522 t523 t524 t525 t526 t527 _ A69.out).mono ?_
            rintro e w122 ⟨rfl, hb⟩
            refine ⟨_, rfl, ?_⟩
            replace BK504 := bb_ BK504 hb
            replace BK505 := bb_ BK505 hb
            replace BK506 := bb_ BK506 hb
            replace BK514 := bb_ BK514 hb
            replace HB := Aside0.mk (below_step (bl_ HB).out hb)
            (try clear hb)
            (try clear hb2)
            (try clear hk)
            (try clear hi)
            refine hK.out _ _ ⟨bc_ BK505 0, bc_ BK505 1, bc_ BK505 2, bc_ BK504 0, bc_ BK504 1, bc_ BK504 2⟩ (fun hHeld => ?_)
            clear hK K
            refine nm_ 40 ?_
            refine pu0_ 5 41 #[true, true, true, true, true, true, false] ?_
            refine pu0_ 6 10 #[true, true, true, true, true, true, true] ?_
            refine done_ (by kernel_rfl) ?_
            try go_wp2
            replace BK504 := Aside0.mk (blk_drew BK504.out)
            replace BK505 := Aside0.mk (blk_drew BK505.out)
            replace BK506 := Aside0.mk (blk_drew BK506.out)
            replace BK514 := Aside0.mk (blk_drew BK514.out)
            replace HB := Aside0.mk (below_drew1 HB.out)
            refine start_ (n := 6) (S := fun w' => w'.cell? ⟨gb514, 0, none⟩ = some (.bool t511) ∧ w'.cell? ⟨gb514, 1, none⟩ = some (.string t512) ∧ w'.cell? ⟨gb514, 2, none⟩ = some (.int .i64 t513) ∧ w'.cell? ⟨gb506, 0, none⟩ = some (.bool a2_0) ∧ w'.cell? ⟨gb506, 1, none⟩ = some (.string a2_1) ∧ w'.cell? ⟨gb506, 2, none⟩ = some (.int .i64 a2_2)) (ds := []) #[false, false, false, false, false, false] (by kernel_rfl) rfl rfl ⟨bc_ BK514 0, bc_ BK514 1, bc_ BK514 2, bc_ BK506 0, bc_ BK506 1, bc_ BK506 2⟩ (fun hHeld => ?_)
            generalize w122.drew = w123 at BK504 BK505 BK506 BK514 HB hHeld ⊢
            refine tk0_ 0 42 #[true, false, false, false, false, false] hHeld rfl (by rintro w' ⟨s0, s1, s2, s3, s4, s5⟩; go_simp; with_reducible rfl) ?_
            refine tk0_ 3 45 #[true, false, false, true, false, false] hHeld rfl (by rintro w' ⟨s0, s1, s2, s3, s4, s5⟩; go_simp; with_reducible rfl) ?_
            refine one_ (i := 1) (N := some 43) #[true, true, false, true, false, false] rfl rfl (by kernel_rfl) (by decide) (fun K hK => ?_)
            refine gs_ Tryd.func16 #[.agg #[.bool t511, .string t512, .int .i64 t513]] ?_
            with_reducible refine (dec_Dec_Abs.calls kj33 t511 t512 t513 t528 t529 t530 _ A70.out).mono ?_
            rintro e w124 ⟨rfl, hb⟩
            refine ⟨_, rfl, ?_⟩
            replace BK504 := bb_ BK504 hb
            replace BK505 := bb_ BK505 hb
            replace BK506 := bb_ BK506 hb
            replace BK514 := bb_ BK514 hb
            replace HB := Aside0.mk (below_step (bl_ HB).out hb)
            (try clear hb)
            (try clear hb2)
            (try clear hk)
            (try clear hi)
            refine hK.out _ _ ⟨bc_ BK514 0, bc_ BK514 1, bc_ BK514 2, bc_ BK506 0, bc_ BK506 1, bc_ BK506 2⟩ (fun hHeld => ?_)
            clear hK K
            refine nm_ 43 ?_
            refine one_ (i := 2) (N := some 44) #[true, true, true, true, false, false] rfl rfl (by kernel_rfl) (by decide) (fun K hK => ?_)
            refine gs_ Tryd.func18 #[.agg #[.bool t528, .string t529, .int .i64 t530]] ?_
            with_reducible refine (florinlaw03_twice.calls kj33 t528 t529 t530 t531 t532 t533 _ A71.out).mono ?_
            rintro e w125 ⟨rfl, hb⟩
            refine ⟨_, rfl, ?_⟩
            replace BK504 := bb_ BK504 hb
            replace BK505 := bb_ BK505 hb
            replace BK506 := bb_ BK506 hb
            replace BK514 := bb_ BK514 hb
            replace HB := Aside0.mk (below_step (bl_ HB).out hb)
            (try clear hb)
            (try clear hb2)
            (try clear hk)
            (try clear hi)
            refine hK.out _ _ ⟨bc_ BK514 0, bc_ BK514 1, bc_ BK514 2, bc_ BK506 0, bc_ BK506 1, bc_ BK506 2⟩ (fun hHeld => ?_)
            clear hK K
            refine nm_ 44 ?_
            refine one_ (i := 4) (N := some 46) #[true, true, true, true, true, false] rfl rfl (by kernel_rfl) (by decide) (fun K hK => ?_)
            refine gs_ Tryd.func17 #[.agg #[.bool t531, .string t532, .int .i64 t533], .agg #[.bool a2_0, .string a2_1, .int .i64 a2_2]] ?_
            with_reducible refine (dec_Cmp.calls kj33 t531 t532 t533 a2_0 a2_1 a2_2 t534 _ A72.out).mono ?_
            rintro e w126 ⟨rfl, hb⟩
            refine ⟨_, rfl, ?_⟩
            replace BK504 := bb_ BK504 hb
            replace BK505 := bb_ BK505 hb
            replace BK506 := bb_ BK506 hb
            replace BK514 := bb_ BK514 hb
            replace HB := Aside0.mk (below_step (bl_ HB).out hb)
            (try clear hb)
            (try clear hb2)
            (try clear hk)
            (try clear hi)
            refine hK.out _ _ ⟨bc_ BK514 0, bc_ BK514 1, bc_ BK514 2, bc_ BK506 0, bc_ BK506 1, bc_ BK506 2⟩ (fun hHeld => ?_)
            clear hK K
            refine nm_ 46 ?_
            refine pu0_ 5 11 #[true, true, true, true, true, true] ?_
            refine done_ (by kernel_rfl) ?_
            try go_wp2
            go_ret
            exact ⟨by first | rfl | (simp [errW_none, errW_some] <;> rfl) | (simp [*, errW_none, errW_some] <;> first | rfl | exact given_isEmpty _ | exact (given_isEmpty _).symm), by repeat (first | (with_reducible first | exact HB.out | apply below_alloc | apply pw_below_drewN | apply below_drew1 | refine below_set ?_ GE504.out | refine below_set ?_ GE505.out | refine below_set ?_ GE506.out | refine below_set ?_ GE514.out) | exact HB.out)⟩
           ·rw [if_neg c118] at H
            have c118b0 : decide (t534 < 0) = false := decide_eq_false c118
            clear c118
            by_cases c127 : t534 = 0
            ·rw [if_pos c127] at H
             have c127b0 : (t534 == 0) = true := beq_iff_eq.mpr c127
             have c127b1 : (t534 != 0) = false := bne_eq_false_iff_eq.mpr c127
             clear c127
             obtain rfl := Option.some.inj H
             try go_wp2
             replace BK504 := Aside0.mk (blk_drew BK504.out)
             replace BK505 := Aside0.mk (blk_drew BK505.out)
             replace BK506 := Aside0.mk (blk_drew BK506.out)
             replace BK514 := Aside0.mk (blk_drew BK514.out)
             replace HB := Aside0.mk (below_drew1 HB.out)
             refine start_ (n := 7) (S := fun w' => w'.cell? ⟨gb505, 0, none⟩ = some (.bool a1_0) ∧ w'.cell? ⟨gb505, 1, none⟩ = some (.string a1_1) ∧ w'.cell? ⟨gb505, 2, none⟩ = some (.int .i64 a1_2) ∧ w'.cell? ⟨gb504, 0, none⟩ = some (.bool t507) ∧ w'.cell? ⟨gb504, 1, none⟩ = some (.string t508) ∧ w'.cell? ⟨gb504, 2, none⟩ = some (.int .i64 t509)) (ds := []) #[false, false, false, false, false, false, false] (by kernel_rfl) rfl rfl ⟨bc_ BK505 0, bc_ BK505 1, bc_ BK505 2, bc_ BK504 0, bc_ BK504 1, bc_ BK504 2⟩ (fun hHeld => ?_)
             generalize wc.drew = w128 at BK504 BK505 BK506 BK514 HB hHeld ⊢
             refine tk0_ 0 36 #[true, false, false, false, false, false, false] hHeld rfl (by rintro w' ⟨s0, s1, s2, s3, s4, s5⟩; go_simp; with_reducible rfl) ?_
             refine tk0_ 2 38 #[true, false, true, false, false, false, false] hHeld rfl (by rintro w' ⟨s0, s1, s2, s3, s4, s5⟩; go_simp; with_reducible rfl) ?_
             refine one_ (i := 1) (N := some 37) #[true, true, true, false, false, false, false] rfl rfl (by kernel_rfl) (by decide) (fun K hK => ?_)
             refine gs_ Tryd.func16 #[.agg #[.bool a1_0, .string a1_1, .int .i64 a1_2]] ?_
             with_reducible refine (dec_Dec_Abs.calls kj33 a1_0 a1_1 a1_2 t521 t522 t523 _ A67.out).mono ?_
             rintro e w129 ⟨rfl, hb⟩
             refine ⟨_, rfl, ?_⟩
             replace BK504 := bb_ BK504 hb
             replace BK505 := bb_ BK505 hb
             replace BK506 := bb_ BK506 hb
             replace BK514 := bb_ BK514 hb
             replace HB := Aside0.mk (below_step (bl_ HB).out hb)
             (try clear hb)
             (try clear hb2)
             (try clear hk)
             (try clear hi)
             refine hK.out _ _ ⟨bc_ BK505 0, bc_ BK505 1, bc_ BK505 2, bc_ BK504 0, bc_ BK504 1, bc_ BK504 2⟩ (fun hHeld => ?_)
             clear hK K
             refine nm_ 37 ?_
             refine one_ (i := 3) (N := some 39) #[true, true, true, true, false, false, false] rfl rfl (by kernel_rfl) (by decide) (fun K hK => ?_)
             refine gs_ Tryd.func16 #[.agg #[.bool t507, .string t508, .int .i64 t509]] ?_
             with_reducible refine (dec_Dec_Abs.calls kj33 t507 t508 t509 t524 t525 t526 _ A68.out).mono ?_
             rintro e w130 ⟨rfl, hb⟩
             refine ⟨_, rfl, ?_⟩
             replace BK504 := bb_ BK504 hb
             replace BK505 := bb_ BK505 hb
             replace BK506 := bb_ BK506 hb
             replace BK514 := bb_ BK514 hb
             replace HB := Aside0.mk (below_step (bl_ HB).out hb)
             (try clear hb)
             (try clear hb2)
             (try clear hk)
             (try clear hi)
             refine hK.out _ _ ⟨bc_ BK505 0, bc_ BK505 1, bc_ BK505 2, bc_ BK504 0, bc_ BK504 1, bc_ BK504 2⟩ (fun hHeld => ?_)
             clear hK K
             refine nm_ 39 ?_
             refine one_ (i := 4) (N := some 40) #[true, true, true, true, true, false, false] rfl rfl (by kernel_rfl) (by decide) (fun K hK => ?_)
             refine gs_ Tryd.func17 #[.agg #[.bool t521, .string t522, .int .i64 t523], .agg #[.bool t524, .string t525, .int .i64 t526]] ?_
             with_reducible refine (dec_Cmp.calls kj33 t521 t522 t523 t524 t525 t526 t527 _ A69.out).mono ?_
             rintro e w131 ⟨rfl, hb⟩
             refine ⟨_, rfl, ?_⟩
             replace BK504 := bb_ BK504 hb
             replace BK505 := bb_ BK505 hb
             replace BK506 := bb_ BK506 hb
             replace BK514 := bb_ BK514 hb
             replace HB := Aside0.mk (below_step (bl_ HB).out hb)
             (try clear hb)
             (try clear hb2)
             (try clear hk)
             (try clear hi)
             refine hK.out _ _ ⟨bc_ BK505 0, bc_ BK505 1, bc_ BK505 2, bc_ BK504 0, bc_ BK504 1, bc_ BK504 2⟩ (fun hHeld => ?_)
             clear hK K
             refine nm_ 40 ?_
             refine pu0_ 5 41 #[true, true, true, true, true, true, false] ?_
             refine pu0_ 6 10 #[true, true, true, true, true, true, true] ?_
             refine done_ (by kernel_rfl) ?_
             try go_wp2
             replace BK504 := Aside0.mk (blk_drew BK504.out)
             replace BK505 := Aside0.mk (blk_drew BK505.out)
             replace BK506 := Aside0.mk (blk_drew BK506.out)
             replace BK514 := Aside0.mk (blk_drew BK514.out)
             replace HB := Aside0.mk (below_drew1 HB.out)
             refine start_ (n := 6) (S := fun w' => w'.cell? ⟨gb514, 0, none⟩ = some (.bool t511) ∧ w'.cell? ⟨gb514, 1, none⟩ = some (.string t512) ∧ w'.cell? ⟨gb514, 2, none⟩ = some (.int .i64 t513) ∧ w'.cell? ⟨gb506, 0, none⟩ = some (.bool a2_0) ∧ w'.cell? ⟨gb506, 1, none⟩ = some (.string a2_1) ∧ w'.cell? ⟨gb506, 2, none⟩ = some (.int .i64 a2_2)) (ds := []) #[false, false, false, false, false, false] (by kernel_rfl) rfl rfl ⟨bc_ BK514 0, bc_ BK514 1, bc_ BK514 2, bc_ BK506 0, bc_ BK506 1, bc_ BK506 2⟩ (fun hHeld => ?_)
             generalize w131.drew = w132 at BK504 BK505 BK506 BK514 HB hHeld ⊢
             refine tk0_ 0 42 #[true, false, false, false, false, false] hHeld rfl (by rintro w' ⟨s0, s1, s2, s3, s4, s5⟩; go_simp; with_reducible rfl) ?_
             refine tk0_ 3 45 #[true, false, false, true, false, false] hHeld rfl (by rintro w' ⟨s0, s1, s2, s3, s4, s5⟩; go_simp; with_reducible rfl) ?_
             refine one_ (i := 1) (N := some 43) #[true, true, false, true, false, false] rfl rfl (by kernel_rfl) (by decide) (fun K hK => ?_)
             refine gs_ Tryd.func16 #[.agg #[.bool t511, .string t512, .int .i64 t513]] ?_
             with_reducible refine (dec_Dec_Abs.calls kj33 t511 t512 t513 t528 t529 t530 _ A70.out).mono ?_
             rintro e w133 ⟨rfl, hb⟩
             refine ⟨_, rfl, ?_⟩
             replace BK504 := bb_ BK504 hb
             replace BK505 := bb_ BK505 hb
             replace BK506 := bb_ BK506 hb
             replace BK514 := bb_ BK514 hb
             replace HB := Aside0.mk (below_step (bl_ HB).out hb)
             (try clear hb)
             (try clear hb2)
             (try clear hk)
             (try clear hi)
             refine hK.out _ _ ⟨bc_ BK514 0, bc_ BK514 1, bc_ BK514 2, bc_ BK506 0, bc_ BK506 1, bc_ BK506 2⟩ (fun hHeld => ?_)
             clear hK K
             refine nm_ 43 ?_
             refine one_ (i := 2) (N := some 44) #[true, true, true, true, false, false] rfl rfl (by kernel_rfl) (by decide) (fun K hK => ?_)
             refine gs_ Tryd.func18 #[.agg #[.bool t528, .string t529, .int .i64 t530]] ?_
             with_reducible refine (florinlaw03_twice.calls kj33 t528 t529 t530 t531 t532 t533 _ A71.out).mono ?_
             rintro e w134 ⟨rfl, hb⟩
             refine ⟨_, rfl, ?_⟩
             replace BK504 := bb_ BK504 hb
             replace BK505 := bb_ BK505 hb
             replace BK506 := bb_ BK506 hb
             replace BK514 := bb_ BK514 hb
             replace HB := Aside0.mk (below_step (bl_ HB).out hb)
             (try clear hb)
             (try clear hb2)
             (try clear hk)
             (try clear hi)
             refine hK.out _ _ ⟨bc_ BK514 0, bc_ BK514 1, bc_ BK514 2, bc_ BK506 0, bc_ BK506 1, bc_ BK506 2⟩ (fun hHeld => ?_)
             clear hK K
             refine nm_ 44 ?_
             refine one_ (i := 4) (N := some 46) #[true, true, true, true, true, false] rfl rfl (by kernel_rfl) (by decide) (fun K hK => ?_)
             refine gs_ Tryd.func17 #[.agg #[.bool t531, .string t532, .int .i64 t533], .agg #[.bool a2_0, .string a2_1, .int .i64 a2_2]] ?_
             with_reducible refine (dec_Cmp.calls kj33 t531 t532 t533 a2_0 a2_1 a2_2 t534 _ A72.out).mono ?_
             rintro e w135 ⟨rfl, hb⟩
             refine ⟨_, rfl, ?_⟩
             replace BK504 := bb_ BK504 hb
             replace BK505 := bb_ BK505 hb
             replace BK506 := bb_ BK506 hb
             replace BK514 := bb_ BK514 hb
             replace HB := Aside0.mk (below_step (bl_ HB).out hb)
             (try clear hb)
             (try clear hb2)
             (try clear hk)
             (try clear hi)
             refine hK.out _ _ ⟨bc_ BK514 0, bc_ BK514 1, bc_ BK514 2, bc_ BK506 0, bc_ BK506 1, bc_ BK506 2⟩ (fun hHeld => ?_)
             clear hK K
             refine nm_ 46 ?_
             refine pu0_ 5 11 #[true, true, true, true, true, true] ?_
             refine done_ (by kernel_rfl) ?_
             try go_wp2
             go_ret
             exact ⟨by first | rfl | (simp [errW_none, errW_some] <;> rfl) | (simp [*, errW_none, errW_some] <;> first | rfl | exact given_isEmpty _ | exact (given_isEmpty _).symm), by repeat (first | (with_reducible first | exact HB.out | apply below_alloc | apply pw_below_drewN | apply below_drew1 | refine below_set ?_ GE504.out | refine below_set ?_ GE505.out | refine below_set ?_ GE506.out | refine below_set ?_ GE514.out) | exact HB.out)⟩
            ·rw [if_neg c127] at H
             have c127b0 : (t534 == 0) = false := beq_eq_false_iff_ne.mpr c127
             have c127b1 : (t534 != 0) = true := bne_iff_ne.mpr c127
             obtain rfl := Option.some.inj H
             try go_wp2
             replace BK504 := Aside0.mk (blk_drew BK504.out)
             replace BK505 := Aside0.mk (blk_drew BK505.out)
             replace BK506 := Aside0.mk (blk_drew BK506.out)
             replace BK514 := Aside0.mk (blk_drew BK514.out)
             replace HB := Aside0.mk (below_drew1 HB.out)
             refine start_ (n := 7) (S := fun w' => w'.cell? ⟨gb505, 0, none⟩ = some (.bool a1_0) ∧ w'.cell? ⟨gb505, 1, none⟩ = some (.string a1_1) ∧ w'.cell? ⟨gb505, 2, none⟩ = some (.int .i64 a1_2) ∧ w'.cell? ⟨gb504, 0, none⟩ = some (.bool t507) ∧ w'.cell? ⟨gb504, 1, none⟩ = some (.string t508) ∧ w'.cell? ⟨gb504, 2, none⟩ = some (.int .i64 t509)) (ds := []) #[false, false, false, false, false, false, false] (by kernel_rfl) rfl rfl ⟨bc_ BK505 0, bc_ BK505 1, bc_ BK505 2, bc_ BK504 0, bc_ BK504 1, bc_ BK504 2⟩ (fun hHeld => ?_)
             generalize wc.drew = w136 at BK504 BK505 BK506 BK514 HB hHeld ⊢
             refine tk0_ 0 36 #[true, false, false, false, false, false, false] hHeld rfl (by rintro w' ⟨s0, s1, s2, s3, s4, s5⟩; go_simp; with_reducible rfl) ?_
             refine tk0_ 2 38 #[true, false, true, false, false, false, false] hHeld rfl (by rintro w' ⟨s0, s1, s2, s3, s4, s5⟩; go_simp; with_reducible rfl) ?_
             refine one_ (i := 1) (N := some 37) #[true, true, true, false, false, false, false] rfl rfl (by kernel_rfl) (by decide) (fun K hK => ?_)
             refine gs_ Tryd.func16 #[.agg #[.bool a1_0, .string a1_1, .int .i64 a1_2]] ?_
             with_reducible refine (dec_Dec_Abs.calls kj33 a1_0 a1_1 a1_2 t521 t522 t523 _ A67.out).mono ?_
             rintro e w137 ⟨rfl, hb⟩
             refine ⟨_, rfl, ?_⟩
             replace BK504 := bb_ BK504 hb
             replace BK505 := bb_ BK505 hb
             replace BK506 := bb_ BK506 hb
             replace BK514 := bb_ BK514 hb
             replace HB := Aside0.mk (below_step (bl_ HB).out hb)
             (try clear hb)
             (try clear hb2)
             (try clear hk)
             (try clear hi)
             refine hK.out _ _ ⟨bc_ BK505 0, bc_ BK505 1, bc_ BK505 2, bc_ BK504 0, bc_ BK504 1, bc_ BK504 2⟩ (fun hHeld => ?_)
             clear hK K
             refine nm_ 37 ?_
             refine one_ (i := 3) (N := some 39) #[true, true, true, true, false, false, false] rfl rfl (by kernel_rfl) (by decide) (fun K hK => ?_)
             refine gs_ Tryd.func16 #[.agg #[.bool t507, .string t508, .int .i64 t509]] ?_
             with_reducible refine (dec_Dec_Abs.calls kj33 t507 t508 t509 t524 t525 t526 _ A68.out).mono ?_
             rintro e w138 ⟨rfl, hb⟩
             refine ⟨_, rfl, ?_⟩
             replace BK504 := bb_ BK504 hb
             replace BK505 := bb_ BK505 hb
             replace BK506 := bb_ BK506 hb
             replace BK514 := bb_ BK514 hb
             replace HB := Aside0.mk (below_step (bl_ HB).out hb)
             (try clear hb)
             (try clear hb2)
             (try clear hk)
             (try clear hi)
             refine hK.out _ _ ⟨bc_ BK505 0, bc_ BK505 1, bc_ BK505 2, bc_ BK504 0, bc_ BK504 1, bc_ BK504 2⟩ (fun hHeld => ?_)
             clear hK K
             refine nm_ 39 ?_
             refine one_ (i := 4) (N := some 40) #[true, true, true, true, true, false, false] rfl rfl (by kernel_rfl) (by decide) (fun K hK => ?_)
             refine gs_ Tryd.func17 #[.agg #[.bool t521, .string t522, .int .i64 t523], .agg #[.bool t524, .string t525, .int .i64 t526]] ?_
             with_reducible refine (dec_Cmp.calls kj33 t521 t522 t523 t524 t525 t526 t527 _ A69.out).mono ?_
             rintro e w139 ⟨rfl, hb⟩
             refine ⟨_, rfl, ?_⟩
             replace BK504 := bb_ BK504 hb
             replace BK505 := bb_ BK505 hb
             replace BK506 := bb_ BK506 hb
             replace BK514 := bb_ BK514 hb
             replace HB := Aside0.mk (below_step (bl_ HB).out hb)
             (try clear hb)
             (try clear hb2)
             (try clear hk)
             (try clear hi)
             refine hK.out _ _ ⟨bc_ BK505 0, bc_ BK505 1, bc_ BK505 2, bc_ BK504 0, bc_ BK504 1, bc_ BK504 2⟩ (fun hHeld => ?_)
             clear hK K
             refine nm_ 40 ?_
             refine pu0_ 5 41 #[true, true, true, true, true, true, false] ?_
             refine pu0_ 6 10 #[true, true, true, true, true, true, true] ?_
             refine done_ (by kernel_rfl) ?_
             try go_wp2
             replace BK504 := Aside0.mk (blk_drew BK504.out)
             replace BK505 := Aside0.mk (blk_drew BK505.out)
             replace BK506 := Aside0.mk (blk_drew BK506.out)
             replace BK514 := Aside0.mk (blk_drew BK514.out)
             replace HB := Aside0.mk (below_drew1 HB.out)
             refine start_ (n := 6) (S := fun w' => w'.cell? ⟨gb514, 0, none⟩ = some (.bool t511) ∧ w'.cell? ⟨gb514, 1, none⟩ = some (.string t512) ∧ w'.cell? ⟨gb514, 2, none⟩ = some (.int .i64 t513) ∧ w'.cell? ⟨gb506, 0, none⟩ = some (.bool a2_0) ∧ w'.cell? ⟨gb506, 1, none⟩ = some (.string a2_1) ∧ w'.cell? ⟨gb506, 2, none⟩ = some (.int .i64 a2_2)) (ds := []) #[false, false, false, false, false, false] (by kernel_rfl) rfl rfl ⟨bc_ BK514 0, bc_ BK514 1, bc_ BK514 2, bc_ BK506 0, bc_ BK506 1, bc_ BK506 2⟩ (fun hHeld => ?_)
             generalize w139.drew = w140 at BK504 BK505 BK506 BK514 HB hHeld ⊢
             refine tk0_ 0 42 #[true, false, false, false, false, false] hHeld rfl (by rintro w' ⟨s0, s1, s2, s3, s4, s5⟩; go_simp; with_reducible rfl) ?_
             refine tk0_ 3 45 #[true, false, false, true, false, false] hHeld rfl (by rintro w' ⟨s0, s1, s2, s3, s4, s5⟩; go_simp; with_reducible rfl) ?_
             refine one_ (i := 1) (N := some 43) #[true, true, false, true, false, false] rfl rfl (by kernel_rfl) (by decide) (fun K hK => ?_)
             refine gs_ Tryd.func16 #[.agg #[.bool t511, .string t512, .int .i64 t513]] ?_
             with_reducible refine (dec_Dec_Abs.calls kj33 t511 t512 t513 t528 t529 t530 _ A70.out).mono ?_
             rintro e w141 ⟨rfl, hb⟩
             refine ⟨_, rfl, ?_⟩
             replace BK504 := bb_ BK504 hb
             replace BK505 := bb_ BK505 hb
             replace BK506 := bb_ BK506 hb
             replace BK514 := bb_ BK514 hb
             replace HB := Aside0.mk (below_step (bl_ HB).out hb)
             (try clear hb)
             (try clear hb2)
             (try clear hk)
             (try clear hi)
             refine hK.out _ _ ⟨bc_ BK514 0, bc_ BK514 1, bc_ BK514 2, bc_ BK506 0, bc_ BK506 1, bc_ BK506 2⟩ (fun hHeld => ?_)
             clear hK K
             refine nm_ 43 ?_
             refine one_ (i := 2) (N := some 44) #[true, true, true, true, false, false] rfl rfl (by kernel_rfl) (by decide) (fun K hK => ?_)
             refine gs_ Tryd.func18 #[.agg #[.bool t528, .string t529, .int .i64 t530]] ?_
             with_reducible refine (florinlaw03_twice.calls kj33 t528 t529 t530 t531 t532 t533 _ A71.out).mono ?_
             rintro e w142 ⟨rfl, hb⟩
             refine ⟨_, rfl, ?_⟩
             replace BK504 := bb_ BK504 hb
             replace BK505 := bb_ BK505 hb
             replace BK506 := bb_ BK506 hb
             replace BK514 := bb_ BK514 hb
             replace HB := Aside0.mk (below_step (bl_ HB).out hb)
             (try clear hb)
             (try clear hb2)
             (try clear hk)
             (try clear hi)
             refine hK.out _ _ ⟨bc_ BK514 0, bc_ BK514 1, bc_ BK514 2, bc_ BK506 0, bc_ BK506 1, bc_ BK506 2⟩ (fun hHeld => ?_)
             clear hK K
             refine nm_ 44 ?_
             refine one_ (i := 4) (N := some 46) #[true, true, true, true, true, false] rfl rfl (by kernel_rfl) (by decide) (fun K hK => ?_)
             refine gs_ Tryd.func17 #[.agg #[.bool t531, .string t532, .int .i64 t533], .agg #[.bool a2_0, .string a2_1, .int .i64 a2_2]] ?_
             with_reducible refine (dec_Cmp.calls kj33 t531 t532 t533 a2_0 a2_1 a2_2 t534 _ A72.out).mono ?_
             rintro e w143 ⟨rfl, hb⟩
             refine ⟨_, rfl, ?_⟩
             replace BK504 := bb_ BK504 hb
             replace BK505 := bb_ BK505 hb
             replace BK506 := bb_ BK506 hb
             replace BK514 := bb_ BK514 hb
             replace HB := Aside0.mk (below_step (bl_ HB).out hb)
             (try clear hb)
             (try clear hb2)
             (try clear hk)
             (try clear hi)
             refine hK.out _ _ ⟨bc_ BK514 0, bc_ BK514 1, bc_ BK514 2, bc_ BK506 0, bc_ BK506 1, bc_ BK506 2⟩ (fun hHeld => ?_)
             clear hK K
             refine nm_ 46 ?_
             refine pu0_ 5 11 #[true, true, true, true, true, true] ?_
             refine done_ (by kernel_rfl) ?_
             try go_wp2
             go_ret
             exact ⟨by first | rfl | (simp [errW_none, errW_some] <;> rfl) | (simp [*, errW_none, errW_some] <;> first | rfl | exact given_isEmpty _ | exact (given_isEmpty _).symm), by repeat (first | (with_reducible first | exact HB.out | apply below_alloc | apply pw_below_drewN | apply below_drew1 | refine below_set ?_ GE504.out | refine below_set ?_ GE505.out | refine below_set ?_ GE506.out | refine below_set ?_ GE514.out) | exact HB.out)⟩
          ·rw [if_neg c117] at H
           have c117b0 : (a3 == 1) = false := beq_eq_false_iff_ne.mpr c117
           have c117b1 : (a3 != 1) = true := bne_iff_ne.mpr c117
           by_cases c144 : a3 = 2
           ·rw [if_pos c144] at H
            have c144b0 : (a3 == 2) = true := beq_iff_eq.mpr c144
            have c144b1 : (a3 != 2) = false := bne_eq_false_iff_eq.mpr c144
            clear c144
            by_cases c145 : t534 < 0
            ·rw [if_pos c145] at H
             have c145b0 : decide (t534 < 0) = true := decide_eq_true c145
             clear c145
             obtain rfl := Option.some.inj H
             try go_wp2
             replace BK504 := Aside0.mk (blk_drew BK504.out)
             replace BK505 := Aside0.mk (blk_drew BK505.out)
             replace BK506 := Aside0.mk (blk_drew BK506.out)
             replace BK514 := Aside0.mk (blk_drew BK514.out)
             replace HB := Aside0.mk (below_drew1 HB.out)
             refine start_ (n := 7) (S := fun w' => w'.cell? ⟨gb505, 0, none⟩ = some (.bool a1_0) ∧ w'.cell? ⟨gb505, 1, none⟩ = some (.string a1_1) ∧ w'.cell? ⟨gb505, 2, none⟩ = some (.int .i64 a1_2) ∧ w'.cell? ⟨gb504, 0, none⟩ = some (.bool t507) ∧ w'.cell? ⟨gb504, 1, none⟩ = some (.string t508) ∧ w'.cell? ⟨gb504, 2, none⟩ = some (.int .i64 t509)) (ds := []) #[false, false, false, false, false, false, false] (by kernel_rfl) rfl rfl ⟨bc_ BK505 0, bc_ BK505 1, bc_ BK505 2, bc_ BK504 0, bc_ BK504 1, bc_ BK504 2⟩ (fun hHeld => ?_)
             generalize wc.drew = w146 at BK504 BK505 BK506 BK514 HB hHeld ⊢
             refine tk0_ 0 36 #[true, false, false, false, false, false, false] hHeld rfl (by rintro w' ⟨s0, s1, s2, s3, s4, s5⟩; go_simp; with_reducible rfl) ?_
             refine tk0_ 2 38 #[true, false, true, false, false, false, false] hHeld rfl (by rintro w' ⟨s0, s1, s2, s3, s4, s5⟩; go_simp; with_reducible rfl) ?_
             refine one_ (i := 1) (N := some 37) #[true, true, true, false, false, false, false] rfl rfl (by kernel_rfl) (by decide) (fun K hK => ?_)
             refine gs_ Tryd.func16 #[.agg #[.bool a1_0, .string a1_1, .int .i64 a1_2]] ?_
             with_reducible refine (dec_Dec_Abs.calls kj33 a1_0 a1_1 a1_2 t521 t522 t523 _ A67.out).mono ?_
             rintro e w147 ⟨rfl, hb⟩
             refine ⟨_, rfl, ?_⟩
             replace BK504 := bb_ BK504 hb
             replace BK505 := bb_ BK505 hb
             replace BK506 := bb_ BK506 hb
             replace BK514 := bb_ BK514 hb
             replace HB := Aside0.mk (below_step (bl_ HB).out hb)
             (try clear hb)
             (try clear hb2)
             (try clear hk)
             (try clear hi)
             refine hK.out _ _ ⟨bc_ BK505 0, bc_ BK505 1, bc_ BK505 2, bc_ BK504 0, bc_ BK504 1, bc_ BK504 2⟩ (fun hHeld => ?_)
             clear hK K
             refine nm_ 37 ?_
             refine one_ (i := 3) (N := some 39) #[true, true, true, true, false, false, false] rfl rfl (by kernel_rfl) (by decide) (fun K hK => ?_)
             refine gs_ Tryd.func16 #[.agg #[.bool t507, .string t508, .int .i64 t509]] ?_
             with_reducible refine (dec_Dec_Abs.calls kj33 t507 t508 t509 t524 t525 t526 _ A68.out).mono ?_
             rintro e w148 ⟨rfl, hb⟩
             refine ⟨_, rfl, ?_⟩
             replace BK504 := bb_ BK504 hb
             replace BK505 := bb_ BK505 hb
             replace BK506 := bb_ BK506 hb
             replace BK514 := bb_ BK514 hb
             replace HB := Aside0.mk (below_step (bl_ HB).out hb)
             (try clear hb)
             (try clear hb2)
             (try clear hk)
             (try clear hi)
             refine hK.out _ _ ⟨bc_ BK505 0, bc_ BK505 1, bc_ BK505 2, bc_ BK504 0, bc_ BK504 1, bc_ BK504 2⟩ (fun hHeld => ?_)
             clear hK K
             refine nm_ 39 ?_
             refine one_ (i := 4) (N := some 40) #[true, true, true, true, true, false, false] rfl rfl (by kernel_rfl) (by decide) (fun K hK => ?_)
             refine gs_ Tryd.func17 #[.agg #[.bool t521, .string t522, .int .i64 t523], .agg #[.bool t524, .string t525, .int .i64 t526]] ?_
             with_reducible refine (dec_Cmp.calls kj33 t521 t522 t523 t524 t525 t526 t527 _ A69.out).mono ?_
             rintro e w149 ⟨rfl, hb⟩
             refine ⟨_, rfl, ?_⟩
             replace BK504 := bb_ BK504 hb
             replace BK505 := bb_ BK505 hb
             replace BK506 := bb_ BK506 hb
             replace BK514 := bb_ BK514 hb
             replace HB := Aside0.mk (below_step (bl_ HB).out hb)
             (try clear hb)
             (try clear hb2)
             (try clear hk)
             (try clear hi)
             refine hK.out _ _ ⟨bc_ BK505 0, bc_ BK505 1, bc_ BK505 2, bc_ BK504 0, bc_ BK504 1, bc_ BK504 2⟩ (fun hHeld => ?_)
             clear hK K
             refine nm_ 40 ?_
             refine pu0_ 5 41 #[true, true, true, true, true, true, false] ?_
             refine pu0_ 6 10 #[true, true, true, true, true, true, true] ?_
             refine done_ (by kernel_rfl) ?_
             try go_wp2
             replace BK504 := Aside0.mk (blk_drew BK504.out)
             replace BK505 := Aside0.mk (blk_drew BK505.out)
             replace BK506 := Aside0.mk (blk_drew BK506.out)
             replace BK514 := Aside0.mk (blk_drew BK514.out)
             replace HB := Aside0.mk (below_drew1 HB.out)
             refine start_ (n := 6) (S := fun w' => w'.cell? ⟨gb514, 0, none⟩ = some (.bool t511) ∧ w'.cell? ⟨gb514, 1, none⟩ = some (.string t512) ∧ w'.cell? ⟨gb514, 2, none⟩ = some (.int .i64 t513) ∧ w'.cell? ⟨gb506, 0, none⟩ = some (.bool a2_0) ∧ w'.cell? ⟨gb506, 1, none⟩ = some (.string a2_1) ∧ w'.cell? ⟨gb506, 2, none⟩ = some (.int .i64 a2_2)) (ds := []) #[false, false, false, false, false, false] (by kernel_rfl) rfl rfl ⟨bc_ BK514 0, bc_ BK514 1, bc_ BK514 2, bc_ BK506 0, bc_ BK506 1, bc_ BK506 2⟩ (fun hHeld => ?_)
             generalize w149.drew = w150 at BK504 BK505 BK506 BK514 HB hHeld ⊢
             refine tk0_ 0 42 #[true, false, false, false, false, false] hHeld rfl (by rintro w' ⟨s0, s1, s2, s3, s4, s5⟩; go_simp; with_reducible rfl) ?_
             refine tk0_ 3 45 #[true, false, false, true, false, false] hHeld rfl (by rintro w' ⟨s0, s1, s2, s3, s4, s5⟩; go_simp; with_reducible rfl) ?_
             refine one_ (i := 1) (N := some 43) #[true, true, false, true, false, false] rfl rfl (by kernel_rfl) (by decide) (fun K hK => ?_)
             refine gs_ Tryd.func16 #[.agg #[.bool t511, .string t512, .int .i64 t513]] ?_
             with_reducible refine (dec_Dec_Abs.calls kj33 t511 t512 t513 t528 t529 t530 _ A70.out).mono ?_
             rintro e w151 ⟨rfl, hb⟩
             refine ⟨_, rfl, ?_⟩
             replace BK504 := bb_ BK504 hb
             replace BK505 := bb_ BK505 hb
             replace BK506 := bb_ BK506 hb
             replace BK514 := bb_ BK514 hb
             replace HB := Aside0.mk (below_step (bl_ HB).out hb)
             (try clear hb)
             (try clear hb2)
             (try clear hk)
             (try clear hi)
             refine hK.out _ _ ⟨bc_ BK514 0, bc_ BK514 1, bc_ BK514 2, bc_ BK506 0, bc_ BK506 1, bc_ BK506 2⟩ (fun hHeld => ?_)
             clear hK K
             refine nm_ 43 ?_
             refine one_ (i := 2) (N := some 44) #[true, true, true, true, false, false] rfl rfl (by kernel_rfl) (by decide) (fun K hK => ?_)
             refine gs_ Tryd.func18 #[.agg #[.bool t528, .string t529, .int .i64 t530]] ?_
             with_reducible refine (florinlaw03_twice.calls kj33 t528 t529 t530 t531 t532 t533 _ A71.out).mono ?_
             rintro e w152 ⟨rfl, hb⟩
             refine ⟨_, rfl, ?_⟩
             replace BK504 := bb_ BK504 hb
             replace BK505 := bb_ BK505 hb
             replace BK506 := bb_ BK506 hb
             replace BK514 := bb_ BK514 hb
             replace HB := Aside0.mk (below_step (bl_ HB).out hb)
             (try clear hb)
             (try clear hb2)
             (try clear hk)
             (try clear hi)
             refine hK.out _ _ ⟨bc_ BK514 0, bc_ BK514 1, bc_ BK514 2, bc_ BK506 0, bc_ BK506 1, bc_ BK506 2⟩ (fun hHeld => ?_)
             clear hK K
             refine nm_ 44 ?_
             refine one_ (i := 4) (N := some 46) #[true, true, true, true, true, false] rfl rfl (by kernel_rfl) (by decide) (fun K hK => ?_)
             refine gs_ Tryd.func17 #[.agg #[.bool t531, .string t532, .int .i64 t533], .agg #[.bool a2_0, .string a2_1, .int .i64 a2_2]] ?_
             with_reducible refine (dec_Cmp.calls kj33 t531 t532 t533 a2_0 a2_1 a2_2 t534 _ A72.out).mono ?_
             rintro e w153 ⟨rfl, hb⟩
             refine ⟨_, rfl, ?_⟩
             replace BK504 := bb_ BK504 hb
             replace BK505 := bb_ BK505 hb
             replace BK506 := bb_ BK506 hb
             replace BK514 := bb_ BK514 hb
             replace HB := Aside0.mk (below_step (bl_ HB).out hb)
             (try clear hb)
             (try clear hb2)
             (try clear hk)
             (try clear hi)
             refine hK.out _ _ ⟨bc_ BK514 0, bc_ BK514 1, bc_ BK514 2, bc_ BK506 0, bc_ BK506 1, bc_ BK506 2⟩ (fun hHeld => ?_)
             clear hK K
             refine nm_ 46 ?_
             refine pu0_ 5 11 #[true, true, true, true, true, true] ?_
             refine done_ (by kernel_rfl) ?_
             try go_wp2
             go_ret
             exact ⟨by first | rfl | (simp [errW_none, errW_some] <;> rfl) | (simp [*, errW_none, errW_some] <;> first | rfl | exact given_isEmpty _ | exact (given_isEmpty _).symm), by repeat (first | (with_reducible first | exact HB.out | apply below_alloc | apply pw_below_drewN | apply below_drew1 | refine below_set ?_ GE504.out | refine below_set ?_ GE505.out | refine below_set ?_ GE506.out | refine below_set ?_ GE514.out) | exact HB.out)⟩
            ·rw [if_neg c145] at H
             have c145b0 : decide (t534 < 0) = false := decide_eq_false c145
             clear c145
             by_cases c154 : t534 = 0
             ·rw [if_pos c154] at H
              have c154b0 : (t534 == 0) = true := beq_iff_eq.mpr c154
              have c154b1 : (t534 != 0) = false := bne_eq_false_iff_eq.mpr c154
              clear c154
              obtain rfl := Option.some.inj H
              try go_wp2
              replace BK504 := Aside0.mk (blk_drew BK504.out)
              replace BK505 := Aside0.mk (blk_drew BK505.out)
              replace BK506 := Aside0.mk (blk_drew BK506.out)
              replace BK514 := Aside0.mk (blk_drew BK514.out)
              replace HB := Aside0.mk (below_drew1 HB.out)
              refine start_ (n := 7) (S := fun w' => w'.cell? ⟨gb505, 0, none⟩ = some (.bool a1_0) ∧ w'.cell? ⟨gb505, 1, none⟩ = some (.string a1_1) ∧ w'.cell? ⟨gb505, 2, none⟩ = some (.int .i64 a1_2) ∧ w'.cell? ⟨gb504, 0, none⟩ = some (.bool t507) ∧ w'.cell? ⟨gb504, 1, none⟩ = some (.string t508) ∧ w'.cell? ⟨gb504, 2, none⟩ = some (.int .i64 t509)) (ds := []) #[false, false, false, false, false, false, false] (by kernel_rfl) rfl rfl ⟨bc_ BK505 0, bc_ BK505 1, bc_ BK505 2, bc_ BK504 0, bc_ BK504 1, bc_ BK504 2⟩ (fun hHeld => ?_)
              generalize wc.drew = w155 at BK504 BK505 BK506 BK514 HB hHeld ⊢
              refine tk0_ 0 36 #[true, false, false, false, false, false, false] hHeld rfl (by rintro w' ⟨s0, s1, s2, s3, s4, s5⟩; go_simp; with_reducible rfl) ?_
              refine tk0_ 2 38 #[true, false, true, false, false, false, false] hHeld rfl (by rintro w' ⟨s0, s1, s2, s3, s4, s5⟩; go_simp; with_reducible rfl) ?_
              refine one_ (i := 1) (N := some 37) #[true, true, true, false, false, false, false] rfl rfl (by kernel_rfl) (by decide) (fun K hK => ?_)
              refine gs_ Tryd.func16 #[.agg #[.bool a1_0, .string a1_1, .int .i64 a1_2]] ?_
              with_reducible refine (dec_Dec_Abs.calls kj33 a1_0 a1_1 a1_2 t521 t522 t523 _ A67.out).mono ?_
              rintro e w156 ⟨rfl, hb⟩
              refine ⟨_, rfl, ?_⟩
              replace BK504 := bb_ BK504 hb
              replace BK505 := bb_ BK505 hb
              replace BK506 := bb_ BK506 hb
              replace BK514 := bb_ BK514 hb
              replace HB := Aside0.mk (below_step (bl_ HB).out hb)
              (try clear hb)
              (try clear hb2)
              (try clear hk)
              (try clear hi)
              refine hK.out _ _ ⟨bc_ BK505 0, bc_ BK505 1, bc_ BK505 2, bc_ BK504 0, bc_ BK504 1, bc_ BK504 2⟩ (fun hHeld => ?_)
              clear hK K
              refine nm_ 37 ?_
              refine one_ (i := 3) (N := some 39) #[true, true, true, true, false, false, false] rfl rfl (by kernel_rfl) (by decide) (fun K hK => ?_)
              refine gs_ Tryd.func16 #[.agg #[.bool t507, .string t508, .int .i64 t509]] ?_
              with_reducible refine (dec_Dec_Abs.calls kj33 t507 t508 t509 t524 t525 t526 _ A68.out).mono ?_
              rintro e w157 ⟨rfl, hb⟩
              refine ⟨_, rfl, ?_⟩
              replace BK504 := bb_ BK504 hb
              replace BK505 := bb_ BK505 hb
              replace BK506 := bb_ BK506 hb
              replace BK514 := bb_ BK514 hb
              replace HB := Aside0.mk (below_step (bl_ HB).out hb)
              (try clear hb)
              (try clear hb2)
              (try clear hk)
              (try clear hi)
              refine hK.out _ _ ⟨bc_ BK505 0, bc_ BK505 1, bc_ BK505 2, bc_ BK504 0, bc_ BK504 1, bc_ BK504 2⟩ (fun hHeld => ?_)
              clear hK K
              refine nm_ 39 ?_
              refine one_ (i := 4) (N := some 40) #[true, true, true, true, true, false, false] rfl rfl (by kernel_rfl) (by decide) (fun K hK => ?_)
              refine gs_ Tryd.func17 #[.agg #[.bool t521, .string t522, .int .i64 t523], .agg #[.bool t524, .string t525, .int .i64 t526]] ?_
              with_reducible refine (dec_Cmp.calls kj33 t521 t522 t523 t524 t525 t526 t527 _ A69.out).mono ?_
              rintro e w158 ⟨rfl, hb⟩
              refine ⟨_, rfl, ?_⟩
              replace BK504 := bb_ BK504 hb
              replace BK505 := bb_ BK505 hb
              replace BK506 := bb_ BK506 hb
              replace BK514 := bb_ BK514 hb
              replace HB := Aside0.mk (below_step (bl_ HB).out hb)
              (try clear hb)
              (try clear hb2)
              (try clear hk)
              (try clear hi)
              refine hK.out _ _ ⟨bc_ BK505 0, bc_ BK505 1, bc_ BK505 2, bc_ BK504 0, bc_ BK504 1, bc_ BK504 2⟩ (fun hHeld => ?_)
              clear hK K
              refine nm_ 40 ?_
              refine pu0_ 5 41 #[true, true, true, true, true, true, false] ?_
              refine pu0_ 6 10 #[true, true, true, true, true, true, true] ?_
              refine done_ (by kernel_rfl) ?_
              try go_wp2
              replace BK504 := Aside0.mk (blk_drew BK504.out)
              replace BK505 := Aside0.mk (blk_drew BK505.out)
              replace BK506 := Aside0.mk (blk_drew BK506.out)
              replace BK514 := Aside0.mk (blk_drew BK514.out)
              replace HB := Aside0.mk (below_drew1 HB.out)
              refine start_ (n := 6) (S := fun w' => w'.cell? ⟨gb514, 0, none⟩ = some (.bool t511) ∧ w'.cell? ⟨gb514, 1, none⟩ = some (.string t512) ∧ w'.cell? ⟨gb514, 2, none⟩ = some (.int .i64 t513) ∧ w'.cell? ⟨gb506, 0, none⟩ = some (.bool a2_0) ∧ w'.cell? ⟨gb506, 1, none⟩ = some (.string a2_1) ∧ w'.cell? ⟨gb506, 2, none⟩ = some (.int .i64 a2_2)) (ds := []) #[false, false, false, false, false, false] (by kernel_rfl) rfl rfl ⟨bc_ BK514 0, bc_ BK514 1, bc_ BK514 2, bc_ BK506 0, bc_ BK506 1, bc_ BK506 2⟩ (fun hHeld => ?_)
              generalize w158.drew = w159 at BK504 BK505 BK506 BK514 HB hHeld ⊢
              refine tk0_ 0 42 #[true, false, false, false, false, false] hHeld rfl (by rintro w' ⟨s0, s1, s2, s3, s4, s5⟩; go_simp; with_reducible rfl) ?_
              refine tk0_ 3 45 #[true, false, false, true, false, false] hHeld rfl (by rintro w' ⟨s0, s1, s2, s3, s4, s5⟩; go_simp; with_reducible rfl) ?_
              refine one_ (i := 1) (N := some 43) #[true, true, false, true, false, false] rfl rfl (by kernel_rfl) (by decide) (fun K hK => ?_)
              refine gs_ Tryd.func16 #[.agg #[.bool t511, .string t512, .int .i64 t513]] ?_
              with_reducible refine (dec_Dec_Abs.calls kj33 t511 t512 t513 t528 t529 t530 _ A70.out).mono ?_
              rintro e w160 ⟨rfl, hb⟩
              refine ⟨_, rfl, ?_⟩
              replace BK504 := bb_ BK504 hb
              replace BK505 := bb_ BK505 hb
              replace BK506 := bb_ BK506 hb
              replace BK514 := bb_ BK514 hb
              replace HB := Aside0.mk (below_step (bl_ HB).out hb)
              (try clear hb)
              (try clear hb2)
              (try clear hk)
              (try clear hi)
              refine hK.out _ _ ⟨bc_ BK514 0, bc_ BK514 1, bc_ BK514 2, bc_ BK506 0, bc_ BK506 1, bc_ BK506 2⟩ (fun hHeld => ?_)
              clear hK K
              refine nm_ 43 ?_
              refine one_ (i := 2) (N := some 44) #[true, true, true, true, false, false] rfl rfl (by kernel_rfl) (by decide) (fun K hK => ?_)
              refine gs_ Tryd.func18 #[.agg #[.bool t528, .string t529, .int .i64 t530]] ?_
              with_reducible refine (florinlaw03_twice.calls kj33 t528 t529 t530 t531 t532 t533 _ A71.out).mono ?_
              rintro e w161 ⟨rfl, hb⟩
              refine ⟨_, rfl, ?_⟩
              replace BK504 := bb_ BK504 hb
              replace BK505 := bb_ BK505 hb
              replace BK506 := bb_ BK506 hb
              replace BK514 := bb_ BK514 hb
              replace HB := Aside0.mk (below_step (bl_ HB).out hb)
              (try clear hb)
              (try clear hb2)
              (try clear hk)
              (try clear hi)
              refine hK.out _ _ ⟨bc_ BK514 0, bc_ BK514 1, bc_ BK514 2, bc_ BK506 0, bc_ BK506 1, bc_ BK506 2⟩ (fun hHeld => ?_)
              clear hK K
              refine nm_ 44 ?_
              refine one_ (i := 4) (N := some 46) #[true, true, true, true, true, false] rfl rfl (by kernel_rfl) (by decide) (fun K hK => ?_)
              refine gs_ Tryd.func17 #[.agg #[.bool t531, .string t532, .int .i64 t533], .agg #[.bool a2_0, .string a2_1, .int .i64 a2_2]] ?_
              with_reducible refine (dec_Cmp.calls kj33 t531 t532 t533 a2_0 a2_1 a2_2 t534 _ A72.out).mono ?_
              rintro e w162 ⟨rfl, hb⟩
              refine ⟨_, rfl, ?_⟩
              replace BK504 := bb_ BK504 hb
              replace BK505 := bb_ BK505 hb
              replace BK506 := bb_ BK506 hb
              replace BK514 := bb_ BK514 hb
              replace HB := Aside0.mk (below_step (bl_ HB).out hb)
              (try clear hb)
              (try clear hb2)
              (try clear hk)
              (try clear hi)
              refine hK.out _ _ ⟨bc_ BK514 0, bc_ BK514 1, bc_ BK514 2, bc_ BK506 0, bc_ BK506 1, bc_ BK506 2⟩ (fun hHeld => ?_)
              clear hK K
              refine nm_ 46 ?_
              refine pu0_ 5 11 #[true, true, true, true, true, true] ?_
              refine done_ (by kernel_rfl) ?_
              try go_wp2
              go_ret
              exact ⟨by first | rfl | (simp [errW_none, errW_some] <;> rfl) | (simp [*, errW_none, errW_some] <;> first | rfl | exact given_isEmpty _ | exact (given_isEmpty _).symm), by repeat (first | (with_reducible first | exact HB.out | apply below_alloc | apply pw_below_drewN | apply below_drew1 | refine below_set ?_ GE504.out | refine below_set ?_ GE505.out | refine below_set ?_ GE506.out | refine below_set ?_ GE514.out) | exact HB.out)⟩
             ·rw [if_neg c154] at H
              have c154b0 : (t534 == 0) = false := beq_eq_false_iff_ne.mpr c154
              have c154b1 : (t534 != 0) = true := bne_iff_ne.mpr c154
              obtain rfl := Option.some.inj H
              try go_wp2
              replace BK504 := Aside0.mk (blk_drew BK504.out)
              replace BK505 := Aside0.mk (blk_drew BK505.out)
              replace BK506 := Aside0.mk (blk_drew BK506.out)
              replace BK514 := Aside0.mk (blk_drew BK514.out)
              replace HB := Aside0.mk (below_drew1 HB.out)
              refine start_ (n := 7) (S := fun w' => w'.cell? ⟨gb505, 0, none⟩ = some (.bool a1_0) ∧ w'.cell? ⟨gb505, 1, none⟩ = some (.string a1_1) ∧ w'.cell? ⟨gb505, 2, none⟩ = some (.int .i64 a1_2) ∧ w'.cell? ⟨gb504, 0, none⟩ = some (.bool t507) ∧ w'.cell? ⟨gb504, 1, none⟩ = some (.string t508) ∧ w'.cell? ⟨gb504, 2, none⟩ = some (.int .i64 t509)) (ds := []) #[false, false, false, false, false, false, false] (by kernel_rfl) rfl rfl ⟨bc_ BK505 0, bc_ BK505 1, bc_ BK505 2, bc_ BK504 0, bc_ BK504 1, bc_ BK504 2⟩ (fun hHeld => ?_)
              generalize wc.drew = w163 at BK504 BK505 BK506 BK514 HB hHeld ⊢
              refine tk0_ 0 36 #[true, false, false, false, false, false, false] hHeld rfl (by rintro w' ⟨s0, s1, s2, s3, s4, s5⟩; go_simp; with_reducible rfl) ?_
              refine tk0_ 2 38 #[true, false, true, false, false, false, false] hHeld rfl (by rintro w' ⟨s0, s1, s2, s3, s4, s5⟩; go_simp; with_reducible rfl) ?_
              refine one_ (i := 1) (N := some 37) #[true, true, true, false, false, false, false] rfl rfl (by kernel_rfl) (by decide) (fun K hK => ?_)
              refine gs_ Tryd.func16 #[.agg #[.bool a1_0, .string a1_1, .int .i64 a1_2]] ?_
              with_reducible refine (dec_Dec_Abs.calls kj33 a1_0 a1_1 a1_2 t521 t522 t523 _ A67.out).mono ?_
              rintro e w164 ⟨rfl, hb⟩
              refine ⟨_, rfl, ?_⟩
              replace BK504 := bb_ BK504 hb
              replace BK505 := bb_ BK505 hb
              replace BK506 := bb_ BK506 hb
              replace BK514 := bb_ BK514 hb
              replace HB := Aside0.mk (below_step (bl_ HB).out hb)
              (try clear hb)
              (try clear hb2)
              (try clear hk)
              (try clear hi)
              refine hK.out _ _ ⟨bc_ BK505 0, bc_ BK505 1, bc_ BK505 2, bc_ BK504 0, bc_ BK504 1, bc_ BK504 2⟩ (fun hHeld => ?_)
              clear hK K
              refine nm_ 37 ?_
              refine one_ (i := 3) (N := some 39) #[true, true, true, true, false, false, false] rfl rfl (by kernel_rfl) (by decide) (fun K hK => ?_)
              refine gs_ Tryd.func16 #[.agg #[.bool t507, .string t508, .int .i64 t509]] ?_
              with_reducible refine (dec_Dec_Abs.calls kj33 t507 t508 t509 t524 t525 t526 _ A68.out).mono ?_
              rintro e w165 ⟨rfl, hb⟩
              refine ⟨_, rfl, ?_⟩
              replace BK504 := bb_ BK504 hb
              replace BK505 := bb_ BK505 hb
              replace BK506 := bb_ BK506 hb
              replace BK514 := bb_ BK514 hb
              replace HB := Aside0.mk (below_step (bl_ HB).out hb)
              (try clear hb)
              (try clear hb2)
              (try clear hk)
              (try clear hi)
              refine hK.out _ _ ⟨bc_ BK505 0, bc_ BK505 1, bc_ BK505 2, bc_ BK504 0, bc_ BK504 1, bc_ BK504 2⟩ (fun hHeld => ?_)
              clear hK K
              refine nm_ 39 ?_
              refine one_ (i := 4) (N := some 40) #[true, true, true, true, true, false, false] rfl rfl (by kernel_rfl) (by decide) (fun K hK => ?_)
              refine gs_ Tryd.func17 #[.agg #[.bool t521, .string t522, .int .i64 t523], .agg #[.bool t524, .string t525, .int .i64 t526]] ?_
              with_reducible refine (dec_Cmp.calls kj33 t521 t522 t523 t524 t525 t526 t527 _ A69.out).mono ?_
              rintro e w166 ⟨rfl, hb⟩
              refine ⟨_, rfl, ?_⟩
              replace BK504 := bb_ BK504 hb
              replace BK505 := bb_ BK505 hb
              replace BK506 := bb_ BK506 hb
              replace BK514 := bb_ BK514 hb
              replace HB := Aside0.mk (below_step (bl_ HB).out hb)
              (try clear hb)
              (try clear hb2)
              (try clear hk)
              (try clear hi)
              refine hK.out _ _ ⟨bc_ BK505 0, bc_ BK505 1, bc_ BK505 2, bc_ BK504 0, bc_ BK504 1, bc_ BK504 2⟩ (fun hHeld => ?_)
              clear hK K
              refine nm_ 40 ?_
              refine pu0_ 5 41 #[true, true, true, true, true, true, false] ?_
              refine pu0_ 6 10 #[true, true, true, true, true, true, true] ?_
              refine done_ (by kernel_rfl) ?_
              try go_wp2
              replace BK504 := Aside0.mk (blk_drew BK504.out)
              replace BK505 := Aside0.mk (blk_drew BK505.out)
              replace BK506 := Aside0.mk (blk_drew BK506.out)
              replace BK514 := Aside0.mk (blk_drew BK514.out)
              replace HB := Aside0.mk (below_drew1 HB.out)
              refine start_ (n := 6) (S := fun w' => w'.cell? ⟨gb514, 0, none⟩ = some (.bool t511) ∧ w'.cell? ⟨gb514, 1, none⟩ = some (.string t512) ∧ w'.cell? ⟨gb514, 2, none⟩ = some (.int .i64 t513) ∧ w'.cell? ⟨gb506, 0, none⟩ = some (.bool a2_0) ∧ w'.cell? ⟨gb506, 1, none⟩ = some (.string a2_1) ∧ w'.cell? ⟨gb506, 2, none⟩ = some (.int .i64 a2_2)) (ds := []) #[false, false, false, false, false, false] (by kernel_rfl) rfl rfl ⟨bc_ BK514 0, bc_ BK514 1, bc_ BK514 2, bc_ BK506 0, bc_ BK506 1, bc_ BK506 2⟩ (fun hHeld => ?_)
              generalize w166.drew = w167 at BK504 BK505 BK506 BK514 HB hHeld ⊢
              refine tk0_ 0 42 #[true, false, false, false, false, false] hHeld rfl (by rintro w' ⟨s0, s1, s2, s3, s4, s5⟩; go_simp; with_reducible rfl) ?_
              refine tk0_ 3 45 #[true, false, false, true, false, false] hHeld rfl (by rintro w' ⟨s0, s1, s2, s3, s4, s5⟩; go_simp; with_reducible rfl) ?_
              refine one_ (i := 1) (N := some 43) #[true, true, false, true, false, false] rfl rfl (by kernel_rfl) (by decide) (fun K hK => ?_)
              refine gs_ Tryd.func16 #[.agg #[.bool t511, .string t512, .int .i64 t513]] ?_
              with_reducible refine (dec_Dec_Abs.calls kj33 t511 t512 t513 t528 t529 t530 _ A70.out).mono ?_
              rintro e w168 ⟨rfl, hb⟩
              refine ⟨_, rfl, ?_⟩
              replace BK504 := bb_ BK504 hb
              replace BK505 := bb_ BK505 hb
              replace BK506 := bb_ BK506 hb
              replace BK514 := bb_ BK514 hb
              replace HB := Aside0.mk (below_step (bl_ HB).out hb)
              (try clear hb)
              (try clear hb2)
              (try clear hk)
              (try clear hi)
              refine hK.out _ _ ⟨bc_ BK514 0, bc_ BK514 1, bc_ BK514 2, bc_ BK506 0, bc_ BK506 1, bc_ BK506 2⟩ (fun hHeld => ?_)
              clear hK K
              refine nm_ 43 ?_
              refine one_ (i := 2) (N := some 44) #[true, true, true, true, false, false] rfl rfl (by kernel_rfl) (by decide) (fun K hK => ?_)
              refine gs_ Tryd.func18 #[.agg #[.bool t528, .string t529, .int .i64 t530]] ?_
              with_reducible refine (florinlaw03_twice.calls kj33 t528 t529 t530 t531 t532 t533 _ A71.out).mono ?_
              rintro e w169 ⟨rfl, hb⟩
              refine ⟨_, rfl, ?_⟩
              replace BK504 := bb_ BK504 hb
              replace BK505 := bb_ BK505 hb
              replace BK506 := bb_ BK506 hb
              replace BK514 := bb_ BK514 hb
              replace HB := Aside0.mk (below_step (bl_ HB).out hb)
              (try clear hb)
              (try clear hb2)
              (try clear hk)
              (try clear hi)
              refine hK.out _ _ ⟨bc_ BK514 0, bc_ BK514 1, bc_ BK514 2, bc_ BK506 0, bc_ BK506 1, bc_ BK506 2⟩ (fun hHeld => ?_)
              clear hK K
              refine nm_ 44 ?_
              refine one_ (i := 4) (N := some 46) #[true, true, true, true, true, false] rfl rfl (by kernel_rfl) (by decide) (fun K hK => ?_)
              refine gs_ Tryd.func17 #[.agg #[.bool t531, .string t532, .int .i64 t533], .agg #[.bool a2_0, .string a2_1, .int .i64 a2_2]] ?_
              with_reducible refine (dec_Cmp.calls kj33 t531 t532 t533 a2_0 a2_1 a2_2 t534 _ A72.out).mono ?_
              rintro e w170 ⟨rfl, hb⟩
              refine ⟨_, rfl, ?_⟩
              replace BK504 := bb_ BK504 hb
              replace BK505 := bb_ BK505 hb
              replace BK506 := bb_ BK506 hb
              replace BK514 := bb_ BK514 hb
              replace HB := Aside0.mk (below_step (bl_ HB).out hb)
              (try clear hb)
              (try clear hb2)
              (try clear hk)
              (try clear hi)
              refine hK.out _ _ ⟨bc_ BK514 0, bc_ BK514 1, bc_ BK514 2, bc_ BK506 0, bc_ BK506 1, bc_ BK506 2⟩ (fun hHeld => ?_)
              clear hK K
              refine nm_ 46 ?_
              refine pu0_ 5 11 #[true, true, true, true, true, true] ?_
              refine done_ (by kernel_rfl) ?_
              try go_wp2
              go_ret
              exact ⟨by first | rfl | (simp [errW_none, errW_some] <;> rfl) | (simp [*, errW_none, errW_some] <;> first | rfl | exact given_isEmpty _ | exact (given_isEmpty _).symm), by repeat (first | (with_reducible first | exact HB.out | apply below_alloc | apply pw_below_drewN | apply below_drew1 | refine below_set ?_ GE504.out | refine below_set ?_ GE505.out | refine below_set ?_ GE506.out | refine below_set ?_ GE514.out) | exact HB.out)⟩
           ·rw [if_neg c144] at H
            have c144b0 : (a3 == 2) = false := beq_eq_false_iff_ne.mpr c144
            have c144b1 : (a3 != 2) = true := bne_iff_ne.mpr c144
            by_cases c171 : t534 < 0
            ·rw [if_pos c171] at H
             have c171b0 : decide (t534 < 0) = true := decide_eq_true c171
             clear c171
             obtain rfl := Option.some.inj H
             try go_wp2
             replace BK504 := Aside0.mk (blk_drew BK504.out)
             replace BK505 := Aside0.mk (blk_drew BK505.out)
             replace BK506 := Aside0.mk (blk_drew BK506.out)
             replace BK514 := Aside0.mk (blk_drew BK514.out)
             replace HB := Aside0.mk (below_drew1 HB.out)
             refine start_ (n := 7) (S := fun w' => w'.cell? ⟨gb505, 0, none⟩ = some (.bool a1_0) ∧ w'.cell? ⟨gb505, 1, none⟩ = some (.string a1_1) ∧ w'.cell? ⟨gb505, 2, none⟩ = some (.int .i64 a1_2) ∧ w'.cell? ⟨gb504, 0, none⟩ = some (.bool t507) ∧ w'.cell? ⟨gb504, 1, none⟩ = some (.string t508) ∧ w'.cell? ⟨gb504, 2, none⟩ = some (.int .i64 t509)) (ds := []) #[false, false, false, false, false, false, false] (by kernel_rfl) rfl rfl ⟨bc_ BK505 0, bc_ BK505 1, bc_ BK505 2, bc_ BK504 0, bc_ BK504 1, bc_ BK504 2⟩ (fun hHeld => ?_)
             generalize wc.drew = w172 at BK504 BK505 BK506 BK514 HB hHeld ⊢
             refine tk0_ 0 36 #[true, false, false, false, false, false, false] hHeld rfl (by rintro w' ⟨s0, s1, s2, s3, s4, s5⟩; go_simp; with_reducible rfl) ?_
             refine tk0_ 2 38 #[true, false, true, false, false, false, false] hHeld rfl (by rintro w' ⟨s0, s1, s2, s3, s4, s5⟩; go_simp; with_reducible rfl) ?_
             refine one_ (i := 1) (N := some 37) #[true, true, true, false, false, false, false] rfl rfl (by kernel_rfl) (by decide) (fun K hK => ?_)
             refine gs_ Tryd.func16 #[.agg #[.bool a1_0, .string a1_1, .int .i64 a1_2]] ?_
             with_reducible refine (dec_Dec_Abs.calls kj33 a1_0 a1_1 a1_2 t521 t522 t523 _ A67.out).mono ?_
             rintro e w173 ⟨rfl, hb⟩
             refine ⟨_, rfl, ?_⟩
             replace BK504 := bb_ BK504 hb
             replace BK505 := bb_ BK505 hb
             replace BK506 := bb_ BK506 hb
             replace BK514 := bb_ BK514 hb
             replace HB := Aside0.mk (below_step (bl_ HB).out hb)
             (try clear hb)
             (try clear hb2)
             (try clear hk)
             (try clear hi)
             refine hK.out _ _ ⟨bc_ BK505 0, bc_ BK505 1, bc_ BK505 2, bc_ BK504 0, bc_ BK504 1, bc_ BK504 2⟩ (fun hHeld => ?_)
             clear hK K
             refine nm_ 37 ?_
             refine one_ (i := 3) (N := some 39) #[true, true, true, true, false, false, false] rfl rfl (by kernel_rfl) (by decide) (fun K hK => ?_)
             refine gs_ Tryd.func16 #[.agg #[.bool t507, .string t508, .int .i64 t509]] ?_
             with_reducible refine (dec_Dec_Abs.calls kj33 t507 t508 t509 t524 t525 t526 _ A68.out).mono ?_
             rintro e w174 ⟨rfl, hb⟩
             refine ⟨_, rfl, ?_⟩
             replace BK504 := bb_ BK504 hb
             replace BK505 := bb_ BK505 hb
             replace BK506 := bb_ BK506 hb
             replace BK514 := bb_ BK514 hb
             replace HB := Aside0.mk (below_step (bl_ HB).out hb)
             (try clear hb)
             (try clear hb2)
             (try clear hk)
             (try clear hi)
             refine hK.out _ _ ⟨bc_ BK505 0, bc_ BK505 1, bc_ BK505 2, bc_ BK504 0, bc_ BK504 1, bc_ BK504 2⟩ (fun hHeld => ?_)
             clear hK K
             refine nm_ 39 ?_
             refine one_ (i := 4) (N := some 40) #[true, true, true, true, true, false, false] rfl rfl (by kernel_rfl) (by decide) (fun K hK => ?_)
             refine gs_ Tryd.func17 #[.agg #[.bool t521, .string t522, .int .i64 t523], .agg #[.bool t524, .string t525, .int .i64 t526]] ?_
             with_reducible refine (dec_Cmp.calls kj33 t521 t522 t523 t524 t525 t526 t527 _ A69.out).mono ?_
             rintro e w175 ⟨rfl, hb⟩
             refine ⟨_, rfl, ?_⟩
             replace BK504 := bb_ BK504 hb
             replace BK505 := bb_ BK505 hb
             replace BK506 := bb_ BK506 hb
             replace BK514 := bb_ BK514 hb
             replace HB := Aside0.mk (below_step (bl_ HB).out hb)
             (try clear hb)
             (try clear hb2)
             (try clear hk)
             (try clear hi)
             refine hK.out _ _ ⟨bc_ BK505 0, bc_ BK505 1, bc_ BK505 2, bc_ BK504 0, bc_ BK504 1, bc_ BK504 2⟩ (fun hHeld => ?_)
             clear hK K
             refine nm_ 40 ?_
             refine pu0_ 5 41 #[true, true, true, true, true, true, false] ?_
             refine pu0_ 6 10 #[true, true, true, true, true, true, true] ?_
             refine done_ (by kernel_rfl) ?_
             try go_wp2
             replace BK504 := Aside0.mk (blk_drew BK504.out)
             replace BK505 := Aside0.mk (blk_drew BK505.out)
             replace BK506 := Aside0.mk (blk_drew BK506.out)
             replace BK514 := Aside0.mk (blk_drew BK514.out)
             replace HB := Aside0.mk (below_drew1 HB.out)
             refine start_ (n := 6) (S := fun w' => w'.cell? ⟨gb514, 0, none⟩ = some (.bool t511) ∧ w'.cell? ⟨gb514, 1, none⟩ = some (.string t512) ∧ w'.cell? ⟨gb514, 2, none⟩ = some (.int .i64 t513) ∧ w'.cell? ⟨gb506, 0, none⟩ = some (.bool a2_0) ∧ w'.cell? ⟨gb506, 1, none⟩ = some (.string a2_1) ∧ w'.cell? ⟨gb506, 2, none⟩ = some (.int .i64 a2_2)) (ds := []) #[false, false, false, false, false, false] (by kernel_rfl) rfl rfl ⟨bc_ BK514 0, bc_ BK514 1, bc_ BK514 2, bc_ BK506 0, bc_ BK506 1, bc_ BK506 2⟩ (fun hHeld => ?_)
             generalize w175.drew = w176 at BK504 BK505 BK506 BK514 HB hHeld ⊢
             refine tk0_ 0 42 #[true, false, false, false, false, false] hHeld rfl (by rintro w' ⟨s0, s1, s2, s3, s4, s5⟩; go_simp; with_reducible rfl) ?_
             refine tk0_ 3 45 #[true, false, false, true, false, false] hHeld rfl (by rintro w' ⟨s0, s1, s2, s3, s4, s5⟩; go_simp; with_reducible rfl) ?_
             refine one_ (i := 1) (N := some 43) #[true, true, false, true, false, false] rfl rfl (by kernel_rfl) (by decide) (fun K hK => ?_)
             refine gs_ Tryd.func16 #[.agg #[.bool t511, .string t512, .int .i64 t513]] ?_
             with_reducible refine (dec_Dec_Abs.calls kj33 t511 t512 t513 t528 t529 t530 _ A70.out).mono ?_
             rintro e w177 ⟨rfl, hb⟩
             refine ⟨_, rfl, ?_⟩
             replace BK504 := bb_ BK504 hb
             replace BK505 := bb_ BK505 hb
             replace BK506 := bb_ BK506 hb
             replace BK514 := bb_ BK514 hb
             replace HB := Aside0.mk (below_step (bl_ HB).out hb)
             (try clear hb)
             (try clear hb2)
             (try clear hk)
             (try clear hi)
             refine hK.out _ _ ⟨bc_ BK514 0, bc_ BK514 1, bc_ BK514 2, bc_ BK506 0, bc_ BK506 1, bc_ BK506 2⟩ (fun hHeld => ?_)
             clear hK K
             refine nm_ 43 ?_
             refine one_ (i := 2) (N := some 44) #[true, true, true, true, false, false] rfl rfl (by kernel_rfl) (by decide) (fun K hK => ?_)
             refine gs_ Tryd.func18 #[.agg #[.bool t528, .string t529, .int .i64 t530]] ?_
             with_reducible refine (florinlaw03_twice.calls kj33 t528 t529 t530 t531 t532 t533 _ A71.out).mono ?_
             rintro e w178 ⟨rfl, hb⟩
             refine ⟨_, rfl, ?_⟩
             replace BK504 := bb_ BK504 hb
             replace BK505 := bb_ BK505 hb
             replace BK506 := bb_ BK506 hb
             replace BK514 := bb_ BK514 hb
             replace HB := Aside0.mk (below_step (bl_ HB).out hb)
             (try clear hb)
             (try clear hb2)
             (try clear hk)
             (try clear hi)
             refine hK.out _ _ ⟨bc_ BK514 0, bc_ BK514 1, bc_ BK514 2, bc_ BK506 0, bc_ BK506 1, bc_ BK506 2⟩ (fun hHeld => ?_)
             clear hK K
             refine nm_ 44 ?_
             refine one_ (i := 4) (N := some 46) #[true, true, true, true, true, false] rfl rfl (by kernel_rfl) (by decide) (fun K hK => ?_)
             refine gs_ Tryd.func17 #[.agg #[.bool t531, .string t532, .int .i64 t533], .agg #[.bool a2_0, .string a2_1, .int .i64 a2_2]] ?_
             with_reducible refine (dec_Cmp.calls kj33 t531 t532 t533 a2_0 a2_1 a2_2 t534 _ A72.out).mono ?_
             rintro e w179 ⟨rfl, hb⟩
             refine ⟨_, rfl, ?_⟩
             replace BK504 := bb_ BK504 hb
             replace BK505 := bb_ BK505 hb
             replace BK506 := bb_ BK506 hb
             replace BK514 := bb_ BK514 hb
             replace HB := Aside0.mk (below_step (bl_ HB).out hb)
             (try clear hb)
             (try clear hb2)
             (try clear hk)
             (try clear hi)
             refine hK.out _ _ ⟨bc_ BK514 0, bc_ BK514 1, bc_ BK514 2, bc_ BK506 0, bc_ BK506 1, bc_ BK506 2⟩ (fun hHeld => ?_)
             clear hK K
             refine nm_ 46 ?_
             refine pu0_ 5 11 #[true, true, true, true, true, true] ?_
             refine done_ (by kernel_rfl) ?_
             try go_wp2
             go_ret
             exact ⟨by first | rfl | (simp [errW_none, errW_some] <;> rfl) | (simp [*, errW_none, errW_some] <;> first | rfl | exact given_isEmpty _ | exact (given_isEmpty _).symm), by repeat (first | (with_reducible first | exact HB.out | apply below_alloc | apply pw_below_drewN | apply below_drew1 | refine below_set ?_ GE504.out | refine below_set ?_ GE505.out | refine below_set ?_ GE506.out | refine below_set ?_ GE514.out) | exact HB.out)⟩
            ·rw [if_neg c171] at H
             have c171b0 : decide (t534 < 0) = false := decide_eq_false c171
             clear c171
             by_cases c180 : t534 = 0
             ·rw [if_pos c180] at H
              have c180b0 : (t534 == 0) = true := beq_iff_eq.mpr c180
              have c180b1 : (t534 != 0) = false := bne_eq_false_iff_eq.mpr c180
              clear c180
              replace H := Option.bind_eq_some_iff.mp H
              obtain ⟨t535, A1810, H⟩ := H
              replace H : (some t535) = some r := H
              have A181 := Aside0.mk A1810
              clear A1810
              obtain rfl := Option.some.inj H
              try go_wp2
              replace BK504 := Aside0.mk (blk_drew BK504.out)
              replace BK505 := Aside0.mk (blk_drew BK505.out)
              replace BK506 := Aside0.mk (blk_drew BK506.out)
              replace BK514 := Aside0.mk (blk_drew BK514.out)
              replace HB := Aside0.mk (below_drew1 HB.out)
              refine start_ (n := 7) (S := fun w' => w'.cell? ⟨gb505, 0, none⟩ = some (.bool a1_0) ∧ w'.cell? ⟨gb505, 1, none⟩ = some (.string a1_1) ∧ w'.cell? ⟨gb505, 2, none⟩ = some (.int .i64 a1_2) ∧ w'.cell? ⟨gb504, 0, none⟩ = some (.bool t507) ∧ w'.cell? ⟨gb504, 1, none⟩ = some (.string t508) ∧ w'.cell? ⟨gb504, 2, none⟩ = some (.int .i64 t509)) (ds := []) #[false, false, false, false, false, false, false] (by kernel_rfl) rfl rfl ⟨bc_ BK505 0, bc_ BK505 1, bc_ BK505 2, bc_ BK504 0, bc_ BK504 1, bc_ BK504 2⟩ (fun hHeld => ?_)
              generalize wc.drew = w182 at BK504 BK505 BK506 BK514 HB hHeld ⊢
              refine tk0_ 0 36 #[true, false, false, false, false, false, false] hHeld rfl (by rintro w' ⟨s0, s1, s2, s3, s4, s5⟩; go_simp; with_reducible rfl) ?_
              refine tk0_ 2 38 #[true, false, true, false, false, false, false] hHeld rfl (by rintro w' ⟨s0, s1, s2, s3, s4, s5⟩; go_simp; with_reducible rfl) ?_
              refine one_ (i := 1) (N := some 37) #[true, true, true, false, false, false, false] rfl rfl (by kernel_rfl) (by decide) (fun K hK => ?_)
              refine gs_ Tryd.func16 #[.agg #[.bool a1_0, .string a1_1, .int .i64 a1_2]] ?_
              with_reducible refine (dec_Dec_Abs.calls kj33 a1_0 a1_1 a1_2 t521 t522 t523 _ A67.out).mono ?_
              rintro e w183 ⟨rfl, hb⟩
              refine ⟨_, rfl, ?_⟩
              replace BK504 := bb_ BK504 hb
              replace BK505 := bb_ BK505 hb
              replace BK506 := bb_ BK506 hb
              replace BK514 := bb_ BK514 hb
              replace HB := Aside0.mk (below_step (bl_ HB).out hb)
              (try clear hb)
              (try clear hb2)
              (try clear hk)
              (try clear hi)
              refine hK.out _ _ ⟨bc_ BK505 0, bc_ BK505 1, bc_ BK505 2, bc_ BK504 0, bc_ BK504 1, bc_ BK504 2⟩ (fun hHeld => ?_)
              clear hK K
              refine nm_ 37 ?_
              refine one_ (i := 3) (N := some 39) #[true, true, true, true, false, false, false] rfl rfl (by kernel_rfl) (by decide) (fun K hK => ?_)
              refine gs_ Tryd.func16 #[.agg #[.bool t507, .string t508, .int .i64 t509]] ?_
              with_reducible refine (dec_Dec_Abs.calls kj33 t507 t508 t509 t524 t525 t526 _ A68.out).mono ?_
              rintro e w184 ⟨rfl, hb⟩
              refine ⟨_, rfl, ?_⟩
              replace BK504 := bb_ BK504 hb
              replace BK505 := bb_ BK505 hb
              replace BK506 := bb_ BK506 hb
              replace BK514 := bb_ BK514 hb
              replace HB := Aside0.mk (below_step (bl_ HB).out hb)
              (try clear hb)
              (try clear hb2)
              (try clear hk)
              (try clear hi)
              refine hK.out _ _ ⟨bc_ BK505 0, bc_ BK505 1, bc_ BK505 2, bc_ BK504 0, bc_ BK504 1, bc_ BK504 2⟩ (fun hHeld => ?_)
              clear hK K
              refine nm_ 39 ?_
              refine one_ (i := 4) (N := some 40) #[true, true, true, true, true, false, false] rfl rfl (by kernel_rfl) (by decide) (fun K hK => ?_)
              refine gs_ Tryd.func17 #[.agg #[.bool t521, .string t522, .int .i64 t523], .agg #[.bool t524, .string t525, .int .i64 t526]] ?_
              with_reducible refine (dec_Cmp.calls kj33 t521 t522 t523 t524 t525 t526 t527 _ A69.out).mono ?_
              rintro e w185 ⟨rfl, hb⟩
              refine ⟨_, rfl, ?_⟩
              replace BK504 := bb_ BK504 hb
              replace BK505 := bb_ BK505 hb
              replace BK506 := bb_ BK506 hb
              replace BK514 := bb_ BK514 hb
              replace HB := Aside0.mk (below_step (bl_ HB).out hb)
              (try clear hb)
              (try clear hb2)
              (try clear hk)
              (try clear hi)
              refine hK.out _ _ ⟨bc_ BK505 0, bc_ BK505 1, bc_ BK505 2, bc_ BK504 0, bc_ BK504 1, bc_ BK504 2⟩ (fun hHeld => ?_)
              clear hK K
              refine nm_ 40 ?_
              refine pu0_ 5 41 #[true, true, true, true, true, true, false] ?_
              refine pu0_ 6 10 #[true, true, true, true, true, true, true] ?_
              refine done_ (by kernel_rfl) ?_
              try go_wp2
              replace BK504 := Aside0.mk (blk_drew BK504.out)
              replace BK505 := Aside0.mk (blk_drew BK505.out)
              replace BK506 := Aside0.mk (blk_drew BK506.out)
              replace BK514 := Aside0.mk (blk_drew BK514.out)
              replace HB := Aside0.mk (below_drew1 HB.out)
              refine start_ (n := 6) (S := fun w' => w'.cell? ⟨gb514, 0, none⟩ = some (.bool t511) ∧ w'.cell? ⟨gb514, 1, none⟩ = some (.string t512) ∧ w'.cell? ⟨gb514, 2, none⟩ = some (.int .i64 t513) ∧ w'.cell? ⟨gb506, 0, none⟩ = some (.bool a2_0) ∧ w'.cell? ⟨gb506, 1, none⟩ = some (.string a2_1) ∧ w'.cell? ⟨gb506, 2, none⟩ = some (.int .i64 a2_2)) (ds := []) #[false, false, false, false, false, false] (by kernel_rfl) rfl rfl ⟨bc_ BK514 0, bc_ BK514 1, bc_ BK514 2, bc_ BK506 0, bc_ BK506 1, bc_ BK506 2⟩ (fun hHeld => ?_)
              generalize w185.drew = w186 at BK504 BK505 BK506 BK514 HB hHeld ⊢
              refine tk0_ 0 42 #[true, false, false, false, false, false] hHeld rfl (by rintro w' ⟨s0, s1, s2, s3, s4, s5⟩; go_simp; with_reducible rfl) ?_
              refine tk0_ 3 45 #[true, false, false, true, false, false] hHeld rfl (by rintro w' ⟨s0, s1, s2, s3, s4, s5⟩; go_simp; with_reducible rfl) ?_
              refine one_ (i := 1) (N := some 43) #[true, true, false, true, false, false] rfl rfl (by kernel_rfl) (by decide) (fun K hK => ?_)
              refine gs_ Tryd.func16 #[.agg #[.bool t511, .string t512, .int .i64 t513]] ?_
              with_reducible refine (dec_Dec_Abs.calls kj33 t511 t512 t513 t528 t529 t530 _ A70.out).mono ?_
              rintro e w187 ⟨rfl, hb⟩
              refine ⟨_, rfl, ?_⟩
              replace BK504 := bb_ BK504 hb
              replace BK505 := bb_ BK505 hb
              replace BK506 := bb_ BK506 hb
              replace BK514 := bb_ BK514 hb
              replace HB := Aside0.mk (below_step (bl_ HB).out hb)
              (try clear hb)
              (try clear hb2)
              (try clear hk)
              (try clear hi)
              refine hK.out _ _ ⟨bc_ BK514 0, bc_ BK514 1, bc_ BK514 2, bc_ BK506 0, bc_ BK506 1, bc_ BK506 2⟩ (fun hHeld => ?_)
              clear hK K
              refine nm_ 43 ?_
              refine one_ (i := 2) (N := some 44) #[true, true, true, true, false, false] rfl rfl (by kernel_rfl) (by decide) (fun K hK => ?_)
              refine gs_ Tryd.func18 #[.agg #[.bool t528, .string t529, .int .i64 t530]] ?_
              with_reducible refine (florinlaw03_twice.calls kj33 t528 t529 t530 t531 t532 t533 _ A71.out).mono ?_
              rintro e w188 ⟨rfl, hb⟩
              refine ⟨_, rfl, ?_⟩
              replace BK504 := bb_ BK504 hb
              replace BK505 := bb_ BK505 hb
              replace BK506 := bb_ BK506 hb
              replace BK514 := bb_ BK514 hb
              replace HB := Aside0.mk (below_step (bl_ HB).out hb)
              (try clear hb)
              (try clear hb2)
              (try clear hk)
              (try clear hi)
              refine hK.out _ _ ⟨bc_ BK514 0, bc_ BK514 1, bc_ BK514 2, bc_ BK506 0, bc_ BK506 1, bc_ BK506 2⟩ (fun hHeld => ?_)
              clear hK K
              refine nm_ 44 ?_
              refine one_ (i := 4) (N := some 46) #[true, true, true, true, true, false] rfl rfl (by kernel_rfl) (by decide) (fun K hK => ?_)
              refine gs_ Tryd.func17 #[.agg #[.bool t531, .string t532, .int .i64 t533], .agg #[.bool a2_0, .string a2_1, .int .i64 a2_2]] ?_
              with_reducible refine (dec_Cmp.calls kj33 t531 t532 t533 a2_0 a2_1 a2_2 t534 _ A72.out).mono ?_
              rintro e w189 ⟨rfl, hb⟩
              refine ⟨_, rfl, ?_⟩
              replace BK504 := bb_ BK504 hb
              replace BK505 := bb_ BK505 hb
              replace BK506 := bb_ BK506 hb
              replace BK514 := bb_ BK514 hb
              replace HB := Aside0.mk (below_step (bl_ HB).out hb)
              (try clear hb)
              (try clear hb2)
              (try clear hk)
              (try clear hi)
              refine hK.out _ _ ⟨bc_ BK514 0, bc_ BK514 1, bc_ BK514 2, bc_ BK506 0, bc_ BK506 1, bc_ BK506 2⟩ (fun hHeld => ?_)
              clear hK K
              refine nm_ 46 ?_
              refine pu0_ 5 11 #[true, true, true, true, true, true] ?_
              refine done_ (by kernel_rfl) ?_
              have hnb190 := NB505_504.out
              have hnc190 := NB504_505.out
              have hnb191 := NB505_506.out
              have hnc191 := NB506_505.out
              have hnb192 := NB505_514.out
              have hnc192 := NB514_505.out
              have hcz193_0 : w189.cell? ⟨gb505, 0, none⟩ = some (.bool a1_0) := bc_ BK505 0
              have hcz193_1 : w189.cell? ⟨gb505, 1, none⟩ = some (.string a1_1) := bc_ BK505 1
              have hcz193_2 : w189.cell? ⟨gb505, 2, none⟩ = some (.int .i64 a1_2) := bc_ BK505 2
              have hfz193_0 := blk_frozen BK505.out 0
              have hfz193_1 := blk_frozen BK505.out 1
              have hfz193_2 := blk_frozen BK505.out 2
              have hnb194 := NB506_504.out
              have hnc194 := NB504_506.out
              have hnb195 := NB506_514.out
              have hnc195 := NB514_506.out
              have hcz196_0 : w189.cell? ⟨gb506, 0, none⟩ = some (.bool a2_0) := bc_ BK506 0
              have hcz196_1 : w189.cell? ⟨gb506, 1, none⟩ = some (.string a2_1) := bc_ BK506 1
              have hcz196_2 : w189.cell? ⟨gb506, 2, none⟩ = some (.int .i64 a2_2) := bc_ BK506 2
              have hfz196_0 := blk_frozen BK506.out 0
              have hfz196_1 := blk_frozen BK506.out 1
              have hfz196_2 := blk_frozen BK506.out 2
              try go_wp2_with (first | (go_at_call 48; (with_reducible refine (florinlaw03_even.calls kj33 a1_0 a1_1 a1_2 a2_0 a2_1 a2_2 t535 _ A181.out).mono ?_); rintro e w197 ⟨rfl, hb⟩; have n0_ := bb_ BK504 hb; have n1_ := bb_ BK505 hb; have n2_ := bb_ BK506 hb; have n3_ := bb_ BK514 hb; have n4_ := Aside0.mk (below_step (bl_ HB).out hb); clear BK504; clear BK505; clear BK506; clear BK514; clear HB; have BK504 := n0_; have BK505 := n1_; have BK506 := n2_; have BK514 := n3_; have HB := n4_; clear n0_ n1_ n2_ n3_ n4_; (try clear hb); (try clear hb2); (try clear hk); (try clear hi)))
              go_ret
              exact ⟨by first | rfl | (simp [errW_none, errW_some] <;> rfl) | (simp [*, errW_none, errW_some] <;> first | rfl | exact given_isEmpty _ | exact (given_isEmpty _).symm), by repeat (first | (with_reducible first | exact HB.out | apply below_alloc | apply pw_below_drewN | apply below_drew1 | refine below_set ?_ GE504.out | refine below_set ?_ GE505.out | refine below_set ?_ GE506.out | refine below_set ?_ GE514.out) | exact HB.out)⟩
             ·rw [if_neg c180] at H
              have c180b0 : (t534 == 0) = false := beq_eq_false_iff_ne.mpr c180
              have c180b1 : (t534 != 0) = true := bne_iff_ne.mpr c180
              obtain rfl := Option.some.inj H
              try go_wp2
              replace BK504 := Aside0.mk (blk_drew BK504.out)
              replace BK505 := Aside0.mk (blk_drew BK505.out)
              replace BK506 := Aside0.mk (blk_drew BK506.out)
              replace BK514 := Aside0.mk (blk_drew BK514.out)
              replace HB := Aside0.mk (below_drew1 HB.out)
              refine start_ (n := 7) (S := fun w' => w'.cell? ⟨gb505, 0, none⟩ = some (.bool a1_0) ∧ w'.cell? ⟨gb505, 1, none⟩ = some (.string a1_1) ∧ w'.cell? ⟨gb505, 2, none⟩ = some (.int .i64 a1_2) ∧ w'.cell? ⟨gb504, 0, none⟩ = some (.bool t507) ∧ w'.cell? ⟨gb504, 1, none⟩ = some (.string t508) ∧ w'.cell? ⟨gb504, 2, none⟩ = some (.int .i64 t509)) (ds := []) #[false, false, false, false, false, false, false] (by kernel_rfl) rfl rfl ⟨bc_ BK505 0, bc_ BK505 1, bc_ BK505 2, bc_ BK504 0, bc_ BK504 1, bc_ BK504 2⟩ (fun hHeld => ?_)
              generalize wc.drew = w198 at BK504 BK505 BK506 BK514 HB hHeld ⊢
              refine tk0_ 0 36 #[true, false, false, false, false, false, false] hHeld rfl (by rintro w' ⟨s0, s1, s2, s3, s4, s5⟩; go_simp; with_reducible rfl) ?_
              refine tk0_ 2 38 #[true, false, true, false, false, false, false] hHeld rfl (by rintro w' ⟨s0, s1, s2, s3, s4, s5⟩; go_simp; with_reducible rfl) ?_
              refine one_ (i := 1) (N := some 37) #[true, true, true, false, false, false, false] rfl rfl (by kernel_rfl) (by decide) (fun K hK => ?_)
              refine gs_ Tryd.func16 #[.agg #[.bool a1_0, .string a1_1, .int .i64 a1_2]] ?_
              with_reducible refine (dec_Dec_Abs.calls kj33 a1_0 a1_1 a1_2 t521 t522 t523 _ A67.out).mono ?_
              rintro e w199 ⟨rfl, hb⟩
              refine ⟨_, rfl, ?_⟩
              replace BK504 := bb_ BK504 hb
              replace BK505 := bb_ BK505 hb
              replace BK506 := bb_ BK506 hb
              replace BK514 := bb_ BK514 hb
              replace HB := Aside0.mk (below_step (bl_ HB).out hb)
              (try clear hb)
              (try clear hb2)
              (try clear hk)
              (try clear hi)
              refine hK.out _ _ ⟨bc_ BK505 0, bc_ BK505 1, bc_ BK505 2, bc_ BK504 0, bc_ BK504 1, bc_ BK504 2⟩ (fun hHeld => ?_)
              clear hK K
              refine nm_ 37 ?_
              refine one_ (i := 3) (N := some 39) #[true, true, true, true, false, false, false] rfl rfl (by kernel_rfl) (by decide) (fun K hK => ?_)
              refine gs_ Tryd.func16 #[.agg #[.bool t507, .string t508, .int .i64 t509]] ?_
              with_reducible refine (dec_Dec_Abs.calls kj33 t507 t508 t509 t524 t525 t526 _ A68.out).mono ?_
              rintro e w200 ⟨rfl, hb⟩
              refine ⟨_, rfl, ?_⟩
              replace BK504 := bb_ BK504 hb
              replace BK505 := bb_ BK505 hb
              replace BK506 := bb_ BK506 hb
              replace BK514 := bb_ BK514 hb
              replace HB := Aside0.mk (below_step (bl_ HB).out hb)
              (try clear hb)
              (try clear hb2)
              (try clear hk)
              (try clear hi)
              refine hK.out _ _ ⟨bc_ BK505 0, bc_ BK505 1, bc_ BK505 2, bc_ BK504 0, bc_ BK504 1, bc_ BK504 2⟩ (fun hHeld => ?_)
              clear hK K
              refine nm_ 39 ?_
              refine one_ (i := 4) (N := some 40) #[true, true, true, true, true, false, false] rfl rfl (by kernel_rfl) (by decide) (fun K hK => ?_)
              refine gs_ Tryd.func17 #[.agg #[.bool t521, .string t522, .int .i64 t523], .agg #[.bool t524, .string t525, .int .i64 t526]] ?_
              with_reducible refine (dec_Cmp.calls kj33 t521 t522 t523 t524 t525 t526 t527 _ A69.out).mono ?_
              rintro e w201 ⟨rfl, hb⟩
              refine ⟨_, rfl, ?_⟩
              replace BK504 := bb_ BK504 hb
              replace BK505 := bb_ BK505 hb
              replace BK506 := bb_ BK506 hb
              replace BK514 := bb_ BK514 hb
              replace HB := Aside0.mk (below_step (bl_ HB).out hb)
              (try clear hb)
              (try clear hb2)
              (try clear hk)
              (try clear hi)
              refine hK.out _ _ ⟨bc_ BK505 0, bc_ BK505 1, bc_ BK505 2, bc_ BK504 0, bc_ BK504 1, bc_ BK504 2⟩ (fun hHeld => ?_)
              clear hK K
              refine nm_ 40 ?_
              refine pu0_ 5 41 #[true, true, true, true, true, true, false] ?_
              refine pu0_ 6 10 #[true, true, true, true, true, true, true] ?_
              refine done_ (by kernel_rfl) ?_
              try go_wp2
              replace BK504 := Aside0.mk (blk_drew BK504.out)
              replace BK505 := Aside0.mk (blk_drew BK505.out)
              replace BK506 := Aside0.mk (blk_drew BK506.out)
              replace BK514 := Aside0.mk (blk_drew BK514.out)
              replace HB := Aside0.mk (below_drew1 HB.out)
              refine start_ (n := 6) (S := fun w' => w'.cell? ⟨gb514, 0, none⟩ = some (.bool t511) ∧ w'.cell? ⟨gb514, 1, none⟩ = some (.string t512) ∧ w'.cell? ⟨gb514, 2, none⟩ = some (.int .i64 t513) ∧ w'.cell? ⟨gb506, 0, none⟩ = some (.bool a2_0) ∧ w'.cell? ⟨gb506, 1, none⟩ = some (.string a2_1) ∧ w'.cell? ⟨gb506, 2, none⟩ = some (.int .i64 a2_2)) (ds := []) #[false, false, false, false, false, false] (by kernel_rfl) rfl rfl ⟨bc_ BK514 0, bc_ BK514 1, bc_ BK514 2, bc_ BK506 0, bc_ BK506 1, bc_ BK506 2⟩ (fun hHeld => ?_)
              generalize w201.drew = w202 at BK504 BK505 BK506 BK514 HB hHeld ⊢
              refine tk0_ 0 42 #[true, false, false, false, false, false] hHeld rfl (by rintro w' ⟨s0, s1, s2, s3, s4, s5⟩; go_simp; with_reducible rfl) ?_
              refine tk0_ 3 45 #[true, false, false, true, false, false] hHeld rfl (by rintro w' ⟨s0, s1, s2, s3, s4, s5⟩; go_simp; with_reducible rfl) ?_
              refine one_ (i := 1) (N := some 43) #[true, true, false, true, false, false] rfl rfl (by kernel_rfl) (by decide) (fun K hK => ?_)
              refine gs_ Tryd.func16 #[.agg #[.bool t511, .string t512, .int .i64 t513]] ?_
              with_reducible refine (dec_Dec_Abs.calls kj33 t511 t512 t513 t528 t529 t530 _ A70.out).mono ?_
              rintro e w203 ⟨rfl, hb⟩
              refine ⟨_, rfl, ?_⟩
              replace BK504 := bb_ BK504 hb
              replace BK505 := bb_ BK505 hb
              replace BK506 := bb_ BK506 hb
              replace BK514 := bb_ BK514 hb
              replace HB := Aside0.mk (below_step (bl_ HB).out hb)
              (try clear hb)
              (try clear hb2)
              (try clear hk)
              (try clear hi)
              refine hK.out _ _ ⟨bc_ BK514 0, bc_ BK514 1, bc_ BK514 2, bc_ BK506 0, bc_ BK506 1, bc_ BK506 2⟩ (fun hHeld => ?_)
              clear hK K
              refine nm_ 43 ?_
              refine one_ (i := 2) (N := some 44) #[true, true, true, true, false, false] rfl rfl (by kernel_rfl) (by decide) (fun K hK => ?_)
              refine gs_ Tryd.func18 #[.agg #[.bool t528, .string t529, .int .i64 t530]] ?_
              with_reducible refine (florinlaw03_twice.calls kj33 t528 t529 t530 t531 t532 t533 _ A71.out).mono ?_
              rintro e w204 ⟨rfl, hb⟩
              refine ⟨_, rfl, ?_⟩
              replace BK504 := bb_ BK504 hb
              replace BK505 := bb_ BK505 hb
              replace BK506 := bb_ BK506 hb
              replace BK514 := bb_ BK514 hb
              replace HB := Aside0.mk (below_step (bl_ HB).out hb)
              (try clear hb)
              (try clear hb2)
              (try clear hk)
              (try clear hi)
              refine hK.out _ _ ⟨bc_ BK514 0, bc_ BK514 1, bc_ BK514 2, bc_ BK506 0, bc_ BK506 1, bc_ BK506 2⟩ (fun hHeld => ?_)
              clear hK K
              refine nm_ 44 ?_
              refine one_ (i := 4) (N := some 46) #[true, true, true, true, true, false] rfl rfl (by kernel_rfl) (by decide) (fun K hK => ?_)
              refine gs_ Tryd.func17 #[.agg #[.bool t531, .string t532, .int .i64 t533], .agg #[.bool a2_0, .string a2_1, .int .i64 a2_2]] ?_
              with_reducible refine (dec_Cmp.calls kj33 t531 t532 t533 a2_0 a2_1 a2_2 t534 _ A72.out).mono ?_
              rintro e w205 ⟨rfl, hb⟩
              refine ⟨_, rfl, ?_⟩
              replace BK504 := bb_ BK504 hb
              replace BK505 := bb_ BK505 hb
              replace BK506 := bb_ BK506 hb
              replace BK514 := bb_ BK514 hb
              replace HB := Aside0.mk (below_step (bl_ HB).out hb)
              (try clear hb)
              (try clear hb2)
              (try clear hk)
              (try clear hi)
              refine hK.out _ _ ⟨bc_ BK514 0, bc_ BK514 1, bc_ BK514 2, bc_ BK506 0, bc_ BK506 1, bc_ BK506 2⟩ (fun hHeld => ?_)
              clear hK K
              refine nm_ 46 ?_
              refine pu0_ 5 11 #[true, true, true, true, true, true] ?_
              refine done_ (by kernel_rfl) ?_
              try go_wp2
              go_ret
              exact ⟨by first | rfl | (simp [errW_none, errW_some] <;> rfl) | (simp [*, errW_none, errW_some] <;> first | rfl | exact given_isEmpty _ | exact (given_isEmpty _).symm), by repeat (first | (with_reducible first | exact HB.out | apply below_alloc | apply pw_below_drewN | apply below_drew1 | refine below_set ?_ GE504.out | refine below_set ?_ GE505.out | refine below_set ?_ GE506.out | refine below_set ?_ GE514.out) | exact HB.out)⟩
 ·replace c7 := Bool.eq_false_iff.mpr c7
  subst c7
  have H1 : (some false) = some r := by rw [if_neg (show ¬ (false = true) by decide)] at H; exact H
  clear H
  have H := H1
  clear H1
  obtain rfl := Option.some.inj H
  go_enter Tryd.func27, Tryd.ntmps27
  go_wp2_with (first | ((with_reducible refine gate_dst (N := 4) rfl ?_); refine box_event ?hg (N := 4) ?hd (cs := #[.bool a0_0, .string a0_1, .int .i64 a0_2]) (t := 30) ?hr ?_; (case hd => rfl); (case hg => rfl); (case hr => first | (go_simp; done) | (go_simp; rfl)); intro gb504 hg w206 hbox hb; have n0_ := Aside0.mk (below_step (bl_ HB).out hb); have n1_ := Aside0.mk (hbox); have n2_ := Aside0.mk ((by rw [hg]; exact (below_size (bl_ HB).out) : w.heap.size ≤ gb504)); have n3_ := Aside0.mk ((by rw [hg]; exact (below_size (bl_ HB).out) : w.heap.size ≤ gb504)); clear HB; have HB := n0_; have BK504 := n1_; have GW504 := n2_; have GE504 := n3_; clear n0_ n1_ n2_ n3_; clear hb hbox hg) | ((with_reducible refine gate_dst (N := 5) rfl ?_); refine box_event ?hg (N := 5) ?hd (cs := #[.bool a1_0, .string a1_1, .int .i64 a1_2]) (t := 30) ?hr ?_; (case hd => rfl); (case hg => rfl); (case hr => first | (go_simp; done) | (go_simp; rfl)); intro gb505 hg w207 hbox hb; have n0_ := bb_ BK504 hb; have n1_ := Aside0.mk (below_step (bl_ HB).out hb); have n2_ := Aside0.mk (hbox); have n3_ := Aside0.mk ((by rw [hg]; exact (below_size (bl_ HB).out) : w.heap.size ≤ gb505)); have n4_ := Aside0.mk ((by rw [hg]; exact (below_size (bl_ HB).out) : w.heap.size ≤ gb505)); have n5_ := Aside0.mk ((by rw [hg]; exact Nat.ne_of_lt (blk_lt (g := gb504) (o := .cells #[.bool a0_0, .string a0_1, .int .i64 a0_2] 30 (0, 0)) (by (with_reducible repeat (first | refine blk_drewN ?_ _ | refine blk_drew ?_ | refine blk_alloc ?_ _)); exact BK504.out)) : gb504 ≠ gb505)); have n6_ := Aside0.mk ((by rw [hg]; exact Nat.ne_of_gt (blk_lt (g := gb504) (o := .cells #[.bool a0_0, .string a0_1, .int .i64 a0_2] 30 (0, 0)) (by (with_reducible repeat (first | refine blk_drewN ?_ _ | refine blk_drew ?_ | refine blk_alloc ?_ _)); exact BK504.out)) : gb505 ≠ gb504)); clear BK504; clear HB; have BK504 := n0_; have HB := n1_; have BK505 := n2_; have GW505 := n3_; have GE505 := n4_; have NB504_505 := n5_; have NB505_504 := n6_; clear n0_ n1_ n2_ n3_ n4_ n5_ n6_; clear hb hbox hg) | ((with_reducible refine gate_dst (N := 6) rfl ?_); refine box_event ?hg (N := 6) ?hd (cs := #[.bool a2_0, .string a2_1, .int .i64 a2_2]) (t := 30) ?hr ?_; (case hd => rfl); (case hg => rfl); (case hr => first | (go_simp; done) | (go_simp; rfl)); intro gb506 hg w208 hbox hb; have n0_ := bb_ BK504 hb; have n1_ := bb_ BK505 hb; have n2_ := Aside0.mk (below_step (bl_ HB).out hb); have n3_ := Aside0.mk (hbox); have n4_ := Aside0.mk ((by rw [hg]; exact (below_size (bl_ HB).out) : w.heap.size ≤ gb506)); have n5_ := Aside0.mk ((by rw [hg]; exact (below_size (bl_ HB).out) : w.heap.size ≤ gb506)); have n6_ := Aside0.mk ((by rw [hg]; exact Nat.ne_of_lt (blk_lt (g := gb504) (o := .cells #[.bool a0_0, .string a0_1, .int .i64 a0_2] 30 (0, 0)) (by (with_reducible repeat (first | refine blk_drewN ?_ _ | refine blk_drew ?_ | refine blk_alloc ?_ _)); exact BK504.out)) : gb504 ≠ gb506)); have n7_ := Aside0.mk ((by rw [hg]; exact Nat.ne_of_gt (blk_lt (g := gb504) (o := .cells #[.bool a0_0, .string a0_1, .int .i64 a0_2] 30 (0, 0)) (by (with_reducible repeat (first | refine blk_drewN ?_ _ | refine blk_drew ?_ | refine blk_alloc ?_ _)); exact BK504.out)) : gb506 ≠ gb504)); have n8_ := Aside0.mk ((by rw [hg]; exact Nat.ne_of_lt (blk_lt (g := gb505) (o := .cells #[.bool a1_0, .string a1_1, .int .i64 a1_2] 30 (0, 0)) (by (with_reducible repeat (first | refine blk_drewN ?_ _ | refine blk_drew ?_ | refine blk_alloc ?_ _)); exact BK505.out)) : gb505 ≠ gb506)); have n9_ := Aside0.mk ((by rw [hg]; exact Nat.ne_of_gt (blk_lt (g := gb505) (o := .cells #[.bool a1_0, .string a1_1, .int .i64 a1_2] 30 (0, 0)) (by (with_reducible repeat (first | refine blk_drewN ?_ _ | refine blk_drew ?_ | refine blk_alloc ?_ _)); exact BK505.out)) : gb506 ≠ gb505)); clear BK504; clear BK505; clear HB; have BK504 := n0_; have BK505 := n1_; have HB := n2_; have BK506 := n3_; have GW506 := n4_; have GE506 := n5_; have NB504_506 := n6_; have NB506_504 := n7_; have NB505_506 := n8_; have NB506_505 := n9_; clear n0_ n1_ n2_ n3_ n4_ n5_ n6_ n7_ n8_ n9_; clear hb hbox hg; have hnb209 := NB504_505.out; have hnc209 := NB505_504.out; have hnb210 := NB504_506.out; have hnc210 := NB506_504.out; have hcz211_0 : w208.cell? ⟨gb504, 0, none⟩ = some (.bool a0_0) := bc_ BK504 0; have hcz211_1 : w208.cell? ⟨gb504, 1, none⟩ = some (.string a0_1) := bc_ BK504 1; have hcz211_2 : w208.cell? ⟨gb504, 2, none⟩ = some (.int .i64 a0_2) := bc_ BK504 2; have hfz211_0 := blk_frozen BK504.out 0; have hfz211_1 := blk_frozen BK504.out 1; have hfz211_2 := blk_frozen BK504.out 2) | ((with_reducible refine gate_callee (f := 22) rfl ?_); refine goesL_ (some 13) rfl rfl Tryd.func22 (by kernel_rfl) rfl #[.agg #[.bool a0_0, .string a0_1, .int .i64 a0_2]] rfl (by (try simp only [List.map_toArray, List.map_cons, List.map_nil]); first | done | rfl | (simp only [List.length_drop, List.length_take]; rfl) | (have z_ : ∀ s_ : ByteArray, s_.size ≤ 9223372036854775807 → -(s_.size : Int) = wrap64 (-(s_.size : Int)) := (fun s_ h_ => by unfold wrap64; omega); rw [← z_ _ (by omega)]; rfl) | (simp only [ByteArray.size_append]; rfl)) ?_; (with_reducible refine (dec_Dec_Norm.calls k a0_0 a0_1 a0_2 t507 t508 t509 _ A5.out).mono ?_); rintro e w212 ⟨rfl, hb⟩; refine ⟨_, rfl, ?_⟩; have n0_ := bb_ BK504 hb; have n1_ := bb_ BK505 hb; have n2_ := bb_ BK506 hb; have n3_ := Aside0.mk (below_step (bl_ HB).out hb); clear BK504; clear BK505; clear BK506; clear HB; have BK504 := n0_; have BK505 := n1_; have BK506 := n2_; have HB := n3_; clear n0_ n1_ n2_ n3_; (try clear hb); (try clear hb2); (try clear hk); (try clear hi); have hcz213_0 : w212.cell? ⟨gb504, 0, none⟩ = some (.bool a0_0) := bc_ BK504 0; have hcz213_1 : w212.cell? ⟨gb504, 1, none⟩ = some (.string a0_1) := bc_ BK504 1; have hcz213_2 : w212.cell? ⟨gb504, 2, none⟩ = some (.int .i64 a0_2) := bc_ BK504 2; have hfz213_0 := blk_frozen BK504.out 0; have hfz213_1 := blk_frozen BK504.out 1; have hfz213_2 := blk_frozen BK504.out 2; have hnb214 := NB505_506.out; have hnc214 := NB506_505.out; have hcz215_0 : w212.cell? ⟨gb505, 0, none⟩ = some (.bool a1_0) := bc_ BK505 0; have hcz215_1 : w212.cell? ⟨gb505, 1, none⟩ = some (.string a1_1) := bc_ BK505 1; have hcz215_2 : w212.cell? ⟨gb505, 2, none⟩ = some (.int .i64 a1_2) := bc_ BK505 2; have hfz215_0 := blk_frozen BK505.out 0; have hfz215_1 := blk_frozen BK505.out 1; have hfz215_2 := blk_frozen BK505.out 2; have hcz216_0 : w212.cell? ⟨gb506, 0, none⟩ = some (.bool a2_0) := bc_ BK506 0; have hcz216_1 : w212.cell? ⟨gb506, 1, none⟩ = some (.string a2_1) := bc_ BK506 1; have hcz216_2 : w212.cell? ⟨gb506, 2, none⟩ = some (.int .i64 a2_2) := bc_ BK506 2; have hfz216_0 := blk_frozen BK506.out 0; have hfz216_1 := blk_frozen BK506.out 1; have hfz216_2 := blk_frozen BK506.out 2) | ((with_reducible refine gate_callee (f := 47) rfl ?_); refine goesL_ (some 16) rfl rfl Tryd.func47 (by kernel_rfl) rfl #[.agg #[.bool a1_0, .string a1_1, .int .i64 a1_2], .agg #[.bool a2_0, .string a2_1, .int .i64 a2_2]] rfl (by (try simp only [List.map_toArray, List.map_cons, List.map_nil]); first | done | rfl | (simp only [List.length_drop, List.length_take]; rfl) | (have z_ : ∀ s_ : ByteArray, s_.size ≤ 9223372036854775807 → -(s_.size : Int) = wrap64 (-(s_.size : Int)) := (fun s_ h_ => by unfold wrap64; omega); rw [← z_ _ (by omega)]; rfl) | (simp only [ByteArray.size_append]; rfl)) ?_; (with_reducible refine (florinlaw03_multiple.calls k a1_0 a1_1 a1_2 a2_0 a2_1 a2_2 false _ A6.out).mono ?_); rintro e w217 ⟨rfl, hb⟩; refine ⟨_, rfl, ?_⟩; have n0_ := Aside0.mk (blk_below (g := gb504) (o := .cells #[.bool t507, .string t508, .int .i64 t509] 30 (0, 0)) (by (with_reducible repeat (first | refine blk_drewN ?_ _ | refine blk_drew ?_ | refine blk_alloc ?_ _)); refine blk_put (cs := #[.bool t507, .string t508, .int .i64 a0_2]) ?_ 2 _ rfl; (with_reducible repeat (first | refine blk_drewN ?_ _ | refine blk_drew ?_ | refine blk_alloc ?_ _)); refine blk_put (cs := #[.bool t507, .string a0_1, .int .i64 a0_2]) ?_ 1 _ rfl; (with_reducible repeat (first | refine blk_drewN ?_ _ | refine blk_drew ?_ | refine blk_alloc ?_ _)); refine blk_put (cs := #[.bool a0_0, .string a0_1, .int .i64 a0_2]) ?_ 0 _ rfl; (with_reducible repeat (first | refine blk_drewN ?_ _ | refine blk_drew ?_ | refine blk_alloc ?_ _)); exact BK504.out) hb); have n1_ := Aside0.mk (blk_below (g := gb505) (o := .cells #[.bool a1_0, .string a1_1, .int .i64 a1_2] 30 (0, 0)) (by (with_reducible repeat (first | refine blk_drewN ?_ _ | refine blk_drew ?_ | refine blk_alloc ?_ _)); refine blk_far ?_ NB505_504.out _; (with_reducible repeat (first | refine blk_drewN ?_ _ | refine blk_drew ?_ | refine blk_alloc ?_ _)); refine blk_far ?_ NB505_504.out _; (with_reducible repeat (first | refine blk_drewN ?_ _ | refine blk_drew ?_ | refine blk_alloc ?_ _)); refine blk_far ?_ NB505_504.out _; (with_reducible repeat (first | refine blk_drewN ?_ _ | refine blk_drew ?_ | refine blk_alloc ?_ _)); exact BK505.out) hb); have n2_ := Aside0.mk (blk_below (g := gb506) (o := .cells #[.bool a2_0, .string a2_1, .int .i64 a2_2] 30 (0, 0)) (by (with_reducible repeat (first | refine blk_drewN ?_ _ | refine blk_drew ?_ | refine blk_alloc ?_ _)); refine blk_far ?_ NB506_504.out _; (with_reducible repeat (first | refine blk_drewN ?_ _ | refine blk_drew ?_ | refine blk_alloc ?_ _)); refine blk_far ?_ NB506_504.out _; (with_reducible repeat (first | refine blk_drewN ?_ _ | refine blk_drew ?_ | refine blk_alloc ?_ _)); refine blk_far ?_ NB506_504.out _; (with_reducible repeat (first | refine blk_drewN ?_ _ | refine blk_drew ?_ | refine blk_alloc ?_ _)); exact BK506.out) hb); have n3_ := Aside0.mk (below_step (bl_ HB).out hb); clear BK504; clear BK505; clear BK506; clear HB; have BK504 := n0_; have BK505 := n1_; have BK506 := n2_; have HB := n3_; clear n0_ n1_ n2_ n3_; (try clear hb); (try clear hb2); (try clear hk); (try clear hi)))
  go_ret
  exact ⟨by first | rfl | (simp [errW_none, errW_some] <;> rfl) | (simp [*, errW_none, errW_some] <;> first | rfl | exact given_isEmpty _ | exact (given_isEmpty _).symm), by repeat (first | (with_reducible first | exact HB.out | apply below_alloc | apply pw_below_drewN | apply below_drew1 | refine below_set ?_ GE504.out | refine below_set ?_ GE505.out | refine below_set ?_ GE506.out) | exact HB.out)⟩

end Go.Proofs.YtoegmienlhgjnaaDoor.P
