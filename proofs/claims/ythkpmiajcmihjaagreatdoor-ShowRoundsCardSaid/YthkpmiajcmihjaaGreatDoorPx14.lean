-- written by a program of this session (wip/p2)
import Derived.Test.YthkpmiajcmihjaaGreatDoorPx0
import Derived.Test.YthkpmiajcmihjaaGreatDoorPx1
import Derived.Test.YthkpmiajcmihjaaGreatDoorPx2
import Derived.Test.YthkpmiajcmihjaaGreatDoorPx4
import Derived.Test.YthkpmiajcmihjaaGreatDoorPx11
import Derived.Test.YthkpmiajcmihjaaGreatDoorPx12
import Derived.Test.YthkpmiajcmihjaaGreatDoorPx13
namespace Go.Proofs.YthkpmiajcmihjaaGreatDoor.P
open Go.RowKit Go.Proofs.YthkpmiajcmihjaaGreatDoorW.PrintWords Go.Proofs.YthkpmiajcmihjaaGreatDoorW.PrintLast Go.Proofs.YthkpmiajcmihjaaGreatDoorW.PrintMore
attribute [local go_sem] max2_int min2_int max_two min_two max_three min_three max_four min_four   -- for this text's walks alone
set_option linter.unusedVariables false
set_option linter.unusedSimpArgs false

attribute [local go_sem high] eqA31
/-! ### florinlaw03_Rounded: function 14 -/
def florinlaw03_Rounded.j0 : Nat → Int → Bool → Bool → ByteArray → Int → Bool → ByteArray → Int → Bool → ByteArray → Int → Bool → ByteArray → Int → Option (Bool)
 | 0, _, _, _, _, _, _, _, _, _, _, _, _, _, _ => none
 | k + 1, x3, x35, x414000, x414001, x414002, x415000, x415001, x415002, x416000, x416001, x416002, x424000, x424001, x424002 => if x35 = true then (some false) else ((dec_Dec_Abs.f k x415000 x415001 x415002).bind fun bt430 => ((dec_Dec_Abs.f k x414000 x414001 x414002).bind fun bt433 => ((dec_Cmp.f k bt430.1 bt430.2.1 bt430.2.2 bt433.1 bt433.2.1 bt433.2.2).bind fun t436 => ((dec_Dec_Abs.f k x424000 x424001 x424002).bind fun bt437 => ((florinlaw03_twice.f k bt437.1 bt437.2.1 bt437.2.2).bind fun bt440 => ((dec_Cmp.f k bt440.1 bt440.2.1 bt440.2.2 x416000 x416001 x416002).bind fun t443 => (if x3 = 3 then (some (decide (t436 > 0))) else (if x3 = 4 then (some (!(decide (t436 > 0)))) else (if x3 = 5 then (some x424000) else (if x3 = 6 then (some (!x424000)) else (if x3 = 1 then (if t443 < 0 then (some true) else (if t443 = 0 then (some (decide (t436 > 0))) else (some false))) else (if x3 = 2 then (if t443 < 0 then (some true) else (if t443 = 0 then (some (!(decide (t436 > 0)))) else (some false))) else (if t443 < 0 then (some true) else (if t443 = 0 then ((florinlaw03_even.f k x415000 x415001 x415002 x416000 x416001 x416002).bind fun t444 => (some t444)) else (some false)))))))))))))))
def florinlaw03_Rounded.f (k : Nat) (a0_0 : Bool) (a0_1 : ByteArray) (a0_2 : Int) (a1_0 : Bool) (a1_1 : ByteArray) (a1_2 : Int) (a2_0 : Bool) (a2_1 : ByteArray) (a2_2 : Int) (a3 : Int) : Option (Bool) := (dec_Dec_Norm.f k a0_0 a0_1 a0_2).bind fun bt416 => ((florinlaw03_multiple.f k a1_0 a1_1 a1_2 a2_0 a2_1 a2_2).bind fun t419 => (if t419 = true then ((dec_Sub.f k bt416.1 bt416.2.1 bt416.2.2 a1_0 a1_1 a1_2).bind fun bt420 => ((dec_Dec_Zero.f k bt420.1 bt420.2.1 bt420.2.2).bind fun t424 => (if t424 = true then (some (a1_0 == bt416.1 && (a1_1.toList == bt416.2.1.toList && (a1_2 == bt416.2.2)))) else ((florinlaw03_multiple.f k bt416.1 bt416.2.1 bt416.2.2 a2_0 a2_1 a2_2).bind fun t425 => (if t425 = true then (florinlaw03_Rounded.j0 k a3 true bt416.1 bt416.2.1 bt416.2.2 a1_0 a1_1 a1_2 a2_0 a2_1 a2_2 bt420.1 bt420.2.1 bt420.2.2) else ((dec_Dec_Abs.f k bt420.1 bt420.2.1 bt420.2.2).bind fun bt426 => ((dec_Cmp.f k bt426.1 bt426.2.1 bt426.2.2 a2_0 a2_1 a2_2).bind fun t429 => (florinlaw03_Rounded.j0 k a3 (decide (t429 ≥ 0)) bt416.1 bt416.2.1 bt416.2.2 a1_0 a1_1 a1_2 a2_0 a2_1 a2_2 bt420.1 bt420.2.1 bt420.2.2)))))))) else (some false)))
theorem florinlaw03_Rounded.mono_l : ∀ k, (∀ y0 y1 y2 y3 y4 y5 y6 y7 y8 y9 y10 y11 y12 y13, LeO (florinlaw03_Rounded.j0 k y0 y1 y2 y3 y4 y5 y6 y7 y8 y9 y10 y11 y12 y13) (florinlaw03_Rounded.j0 (k + 1) y0 y1 y2 y3 y4 y5 y6 y7 y8 y9 y10 y11 y12 y13))
 | 0 => fun _ _ _ _ _ _ _ _ _ _ _ _ _ _ r h => by simp [florinlaw03_Rounded.j0] at h
 | k + 1 => by
  have ih0 := florinlaw03_Rounded.mono_l k
  ·intro y0 y1 y2 y3 y4 y5 y6 y7 y8 y9 y10 y11 y12 y13
   unfold florinlaw03_Rounded.j0
   repeat' first
   | (with_reducible exact ih0 _ _ _ _ _ _ _ _ _ _ _ _ _ _)
   | (with_reducible exact dec_Cmp.mono _ _ _ _ _ _ _)
   | (with_reducible exact dec_Dec_Abs.mono _ _ _ _)
   | (with_reducible exact dec_Dec_Norm.mono _ _ _ _)
   | (with_reducible exact dec_Dec_Zero.mono _ _ _ _)
   | (with_reducible exact dec_Sub.mono _ _ _ _ _ _ _)
   | (with_reducible exact florinlaw03_even.mono _ _ _ _ _ _ _)
   | (with_reducible exact florinlaw03_multiple.mono _ _ _ _ _ _ _)
   | (with_reducible exact florinlaw03_twice.mono _ _ _ _)
   | (with_reducible exact LeO.refl _)
   | (with_reducible exact LeO.none _)
   | (with_reducible refine LeO.ite ?_ ?_)
   | (with_reducible refine LeO.bind ?_ (fun _ => ?_))
   | exact ih0 _ _ _ _ _ _ _ _ _ _ _ _ _ _
   | exact dec_Cmp.mono _ _ _ _ _ _ _
   | exact dec_Dec_Abs.mono _ _ _ _
   | exact dec_Dec_Norm.mono _ _ _ _
   | exact dec_Dec_Zero.mono _ _ _ _
   | exact dec_Sub.mono _ _ _ _ _ _ _
   | exact florinlaw03_even.mono _ _ _ _ _ _ _
   | exact florinlaw03_multiple.mono _ _ _ _ _ _ _
   | exact florinlaw03_twice.mono _ _ _ _
   | exact LeO.none _
   | refine LeO.ite ?_ ?_
   | refine LeO.bind ?_ (fun _ => ?_)
theorem florinlaw03_Rounded.mono : ∀ a0 a1 a2 a3 a4 a5 a6 a7 a8 a9 k, LeO (florinlaw03_Rounded.f k a0 a1 a2 a3 a4 a5 a6 a7 a8 a9) (florinlaw03_Rounded.f (k + 1) a0 a1 a2 a3 a4 a5 a6 a7 a8 a9) := by
 intro a0 a1 a2 a3 a4 a5 a6 a7 a8 a9 k
 have ih0 := florinlaw03_Rounded.mono_l k
 unfold florinlaw03_Rounded.f
 repeat' first
   | (with_reducible exact ih0 _ _ _ _ _ _ _ _ _ _ _ _ _ _)
   | (with_reducible exact dec_Cmp.mono _ _ _ _ _ _ _)
   | (with_reducible exact dec_Dec_Abs.mono _ _ _ _)
   | (with_reducible exact dec_Dec_Norm.mono _ _ _ _)
   | (with_reducible exact dec_Dec_Zero.mono _ _ _ _)
   | (with_reducible exact dec_Sub.mono _ _ _ _ _ _ _)
   | (with_reducible exact florinlaw03_even.mono _ _ _ _ _ _ _)
   | (with_reducible exact florinlaw03_multiple.mono _ _ _ _ _ _ _)
   | (with_reducible exact florinlaw03_twice.mono _ _ _ _)
   | (with_reducible exact LeO.refl _)
   | (with_reducible exact LeO.none _)
   | (with_reducible refine LeO.ite ?_ ?_)
   | (with_reducible refine LeO.bind ?_ (fun _ => ?_))
   | exact ih0 _ _ _ _ _ _ _ _ _ _ _ _ _ _
   | exact dec_Cmp.mono _ _ _ _ _ _ _
   | exact dec_Dec_Abs.mono _ _ _ _
   | exact dec_Dec_Norm.mono _ _ _ _
   | exact dec_Dec_Zero.mono _ _ _ _
   | exact dec_Sub.mono _ _ _ _ _ _ _
   | exact florinlaw03_even.mono _ _ _ _ _ _ _
   | exact florinlaw03_multiple.mono _ _ _ _ _ _ _
   | exact florinlaw03_twice.mono _ _ _ _
   | exact LeO.none _
   | refine LeO.ite ?_ ?_
   | refine LeO.bind ?_ (fun _ => ?_)
def florinlaw03_Rounded.T7 : Bool × List (List Nat × List Nat) := (true, [([], []), ([], []), ([0, 1], [0, 1]), ([2, 2], [2]), ([3], [3]), ([4, 3, 3], [3, 4]), ([3], [3]), ([5, 6, 5, 3], [3, 5, 6]), ([7, 3], [3, 7]), ([3, 8], [3, 8])])
def florinlaw03_Rounded.B7 : List Nat := [0, 0, 3, 7, 15, 31, 15, 127, 255, 511]
theorem florinlaw03_Rounded.tab7 : rtab .any (opsOf Tryz.f14 7) = florinlaw03_Rounded.T7 := by kernel_rfl
theorem florinlaw03_Rounded.bits7 : waitsOk florinlaw03_Rounded.T7.2 florinlaw03_Rounded.B7 = true := by kernel_rfl
set_option maxHeartbeats 8000000 in
set_option maxRecDepth 100000 in
theorem florinlaw03_Rounded.calls (k : Nat) (a0_0 : Bool) (a0_1 : ByteArray) (a0_2 : Int) (a1_0 : Bool) (a1_1 : ByteArray) (a1_2 : Int) (a2_0 : Bool) (a2_1 : ByteArray) (a2_2 : Int) (a3 : Int) (r : Bool) (w : World) (h : florinlaw03_Rounded.f k a0_0 a0_1 a0_2 a1_0 a1_1 a1_2 a2_0 a2_1 a2_2 a3 = some r) :
  Calls Tryz.prog 14 #[.agg #[.bool a0_0, .string a0_1, .int .i64 a0_2], .agg #[.bool a1_0, .string a1_1, .int .i64 a1_2], .agg #[.bool a2_0, .string a2_1, .int .i64 a2_2], .int .i64 a3] w fun e w' => e = .returned (.bool r) ∧ Below w.heap.size w w' := by
 have hu31 := Tryz.underlying31
 have HB := Aside0.mk (Below.refl w.heap.size w)
 have H : ((dec_Dec_Norm.f k a0_0 a0_1 a0_2).bind fun bt416 => ((florinlaw03_multiple.f k a1_0 a1_1 a1_2 a2_0 a2_1 a2_2).bind fun t419 => (if t419 = true then ((dec_Sub.f k bt416.1 bt416.2.1 bt416.2.2 a1_0 a1_1 a1_2).bind fun bt420 => ((dec_Dec_Zero.f k bt420.1 bt420.2.1 bt420.2.2).bind fun t424 => (if t424 = true then (some (a1_0 == bt416.1 && (a1_1.toList == bt416.2.1.toList && (a1_2 == bt416.2.2)))) else ((florinlaw03_multiple.f k bt416.1 bt416.2.1 bt416.2.2 a2_0 a2_1 a2_2).bind fun t425 => (if t425 = true then (florinlaw03_Rounded.j0 k a3 true bt416.1 bt416.2.1 bt416.2.2 a1_0 a1_1 a1_2 a2_0 a2_1 a2_2 bt420.1 bt420.2.1 bt420.2.2) else ((dec_Dec_Abs.f k bt420.1 bt420.2.1 bt420.2.2).bind fun bt426 => ((dec_Cmp.f k bt426.1 bt426.2.1 bt426.2.2 a2_0 a2_1 a2_2).bind fun t429 => (florinlaw03_Rounded.j0 k a3 (decide (t429 ≥ 0)) bt416.1 bt416.2.1 bt416.2.2 a1_0 a1_1 a1_2 a2_0 a2_1 a2_2 bt420.1 bt420.2.1 bt420.2.2)))))))) else (some false)))) = some r := h
 clear h
 replace H := Option.bind_eq_some_iff.mp H
 obtain ⟨⟨t416, t417, t418⟩, A50, H⟩ := H
 replace H : ((florinlaw03_multiple.f k a1_0 a1_1 a1_2 a2_0 a2_1 a2_2).bind fun t419 => (if t419 = true then ((dec_Sub.f k t416 t417 t418 a1_0 a1_1 a1_2).bind fun bt420 => ((dec_Dec_Zero.f k bt420.1 bt420.2.1 bt420.2.2).bind fun t424 => (if t424 = true then (some (a1_0 == t416 && (a1_1.toList == t417.toList && (a1_2 == t418)))) else ((florinlaw03_multiple.f k t416 t417 t418 a2_0 a2_1 a2_2).bind fun t425 => (if t425 = true then (florinlaw03_Rounded.j0 k a3 true t416 t417 t418 a1_0 a1_1 a1_2 a2_0 a2_1 a2_2 bt420.1 bt420.2.1 bt420.2.2) else ((dec_Dec_Abs.f k bt420.1 bt420.2.1 bt420.2.2).bind fun bt426 => ((dec_Cmp.f k bt426.1 bt426.2.1 bt426.2.2 a2_0 a2_1 a2_2).bind fun t429 => (florinlaw03_Rounded.j0 k a3 (decide (t429 ≥ 0)) t416 t417 t418 a1_0 a1_1 a1_2 a2_0 a2_1 a2_2 bt420.1 bt420.2.1 bt420.2.2)))))))) else (some false))) = some r := H
 have A5 := Aside0.mk A50
 clear A50
 replace H := Option.bind_eq_some_iff.mp H
 obtain ⟨t419, A60, H⟩ := H
 replace H : (if t419 = true then ((dec_Sub.f k t416 t417 t418 a1_0 a1_1 a1_2).bind fun bt420 => ((dec_Dec_Zero.f k bt420.1 bt420.2.1 bt420.2.2).bind fun t424 => (if t424 = true then (some (a1_0 == t416 && (a1_1.toList == t417.toList && (a1_2 == t418)))) else ((florinlaw03_multiple.f k t416 t417 t418 a2_0 a2_1 a2_2).bind fun t425 => (if t425 = true then (florinlaw03_Rounded.j0 k a3 true t416 t417 t418 a1_0 a1_1 a1_2 a2_0 a2_1 a2_2 bt420.1 bt420.2.1 bt420.2.2) else ((dec_Dec_Abs.f k bt420.1 bt420.2.1 bt420.2.2).bind fun bt426 => ((dec_Cmp.f k bt426.1 bt426.2.1 bt426.2.2 a2_0 a2_1 a2_2).bind fun t429 => (florinlaw03_Rounded.j0 k a3 (decide (t429 ≥ 0)) t416 t417 t418 a1_0 a1_1 a1_2 a2_0 a2_1 a2_2 bt420.1 bt420.2.1 bt420.2.2)))))))) else (some false)) = some r := H
 have A6 := Aside0.mk A60
 clear A60
 by_cases c7 : t419 = true
 ·subst c7
  have H1 : ((dec_Sub.f k t416 t417 t418 a1_0 a1_1 a1_2).bind fun bt420 => ((dec_Dec_Zero.f k bt420.1 bt420.2.1 bt420.2.2).bind fun t424 => (if t424 = true then (some (a1_0 == t416 && (a1_1.toList == t417.toList && (a1_2 == t418)))) else ((florinlaw03_multiple.f k t416 t417 t418 a2_0 a2_1 a2_2).bind fun t425 => (if t425 = true then (florinlaw03_Rounded.j0 k a3 true t416 t417 t418 a1_0 a1_1 a1_2 a2_0 a2_1 a2_2 bt420.1 bt420.2.1 bt420.2.2) else ((dec_Dec_Abs.f k bt420.1 bt420.2.1 bt420.2.2).bind fun bt426 => ((dec_Cmp.f k bt426.1 bt426.2.1 bt426.2.2 a2_0 a2_1 a2_2).bind fun t429 => (florinlaw03_Rounded.j0 k a3 (decide (t429 ≥ 0)) t416 t417 t418 a1_0 a1_1 a1_2 a2_0 a2_1 a2_2 bt420.1 bt420.2.1 bt420.2.2)))))))) = some r := by rw [if_pos rfl] at H; exact H
  clear H
  have H := H1
  clear H1
  replace H := Option.bind_eq_some_iff.mp H
  obtain ⟨⟨t420, t421, t422⟩, A80, H⟩ := H
  replace H : ((dec_Dec_Zero.f k t420 t421 t422).bind fun t424 => (if t424 = true then (some (a1_0 == t416 && (a1_1.toList == t417.toList && (a1_2 == t418)))) else ((florinlaw03_multiple.f k t416 t417 t418 a2_0 a2_1 a2_2).bind fun t425 => (if t425 = true then (florinlaw03_Rounded.j0 k a3 true t416 t417 t418 a1_0 a1_1 a1_2 a2_0 a2_1 a2_2 t420 t421 t422) else ((dec_Dec_Abs.f k t420 t421 t422).bind fun bt426 => ((dec_Cmp.f k bt426.1 bt426.2.1 bt426.2.2 a2_0 a2_1 a2_2).bind fun t429 => (florinlaw03_Rounded.j0 k a3 (decide (t429 ≥ 0)) t416 t417 t418 a1_0 a1_1 a1_2 a2_0 a2_1 a2_2 t420 t421 t422))))))) = some r := H
  have A8 := Aside0.mk A80
  clear A80
  replace H := Option.bind_eq_some_iff.mp H
  obtain ⟨t424, A90, H⟩ := H
  replace H : (if t424 = true then (some (a1_0 == t416 && (a1_1.toList == t417.toList && (a1_2 == t418)))) else ((florinlaw03_multiple.f k t416 t417 t418 a2_0 a2_1 a2_2).bind fun t425 => (if t425 = true then (florinlaw03_Rounded.j0 k a3 true t416 t417 t418 a1_0 a1_1 a1_2 a2_0 a2_1 a2_2 t420 t421 t422) else ((dec_Dec_Abs.f k t420 t421 t422).bind fun bt426 => ((dec_Cmp.f k bt426.1 bt426.2.1 bt426.2.2 a2_0 a2_1 a2_2).bind fun t429 => (florinlaw03_Rounded.j0 k a3 (decide (t429 ≥ 0)) t416 t417 t418 a1_0 a1_1 a1_2 a2_0 a2_1 a2_2 t420 t421 t422)))))) = some r := H
  have A9 := Aside0.mk A90
  clear A90
  by_cases c10 : t424 = true
  ·subst c10
   have H1 : (some (a1_0 == t416 && (a1_1.toList == t417.toList && (a1_2 == t418)))) = some r := by rw [if_pos rfl] at H; exact H
   clear H
   have H := H1
   clear H1
   obtain rfl := Option.some.inj H
   go_enter Tryz.func14, Tryz.ntmps14
   go_wp2_with (first | ((with_reducible refine gate_dst (N := 4) rfl ?_); refine be_ 4 #[.bool a0_0, .string a0_1, .int .i64 a0_2] 31 ?_; intro gb413 hg w11 hbox hb; have BK413 := Aside0.mk (hbox); have GW413 := sz_ HB hg; have GE413 := sz_ HB hg; replace HB := Aside0.mk (below_step (bl_ HB).out hb); clear hb hbox hg) | ((with_reducible refine gate_dst (N := 5) rfl ?_); refine be_ 5 #[.bool a1_0, .string a1_1, .int .i64 a1_2] 31 ?_; intro gb414 hg w12 hbox hb; have BK414 := Aside0.mk (hbox); have GW414 := sz_ HB hg; have GE414 := sz_ HB hg; have NB413_414 := na_ BK413 hg; have NB414_413 := nb_ BK413 hg; replace BK413 := bb_ BK413 hb; replace HB := Aside0.mk (below_step (bl_ HB).out hb); clear hb hbox hg) | ((with_reducible refine gate_dst (N := 6) rfl ?_); refine be_ 6 #[.bool a2_0, .string a2_1, .int .i64 a2_2] 31 ?_; intro gb415 hg w13 hbox hb; have BK415 := Aside0.mk (hbox); have GW415 := sz_ HB hg; have GE415 := sz_ HB hg; have NB413_415 := na_ BK413 hg; have NB415_413 := nb_ BK413 hg; have NB414_415 := na_ BK414 hg; have NB415_414 := nb_ BK414 hg; replace BK413 := bb_ BK413 hb; replace BK414 := bb_ BK414 hb; replace HB := Aside0.mk (below_step (bl_ HB).out hb); clear hb hbox hg; have hnb14 := NB413_414.out; have hnc14 := NB414_413.out; have hnb15 := NB413_415.out; have hnc15 := NB415_413.out; obtain ⟨hcz16_0, hcz16_1, hcz16_2, hfz16_0, hfz16_1, hfz16_2⟩ := bo3_ BK413) | ((with_reducible refine gate_callee (f := 8) rfl ?_); refine gl_ (some 13) Tryz.func8 #[.agg #[.bool a0_0, .string a0_1, .int .i64 a0_2]] ?_; (with_reducible refine (dec_Dec_Norm.calls k a0_0 a0_1 a0_2 t416 t417 t418 _ A5.out).mono ?_); rintro e w17 ⟨rfl, hb⟩; refine ⟨_, rfl, ?_⟩; replace BK413 := bb_ BK413 hb; replace BK414 := bb_ BK414 hb; replace BK415 := bb_ BK415 hb; replace HB := Aside0.mk (below_step (bl_ HB).out hb); (try clear hb); (try clear hb2); (try clear hk); (try clear hi); obtain ⟨hcz18_0, hcz18_1, hcz18_2, hfz18_0, hfz18_1, hfz18_2⟩ := bo3_ BK413; have hnb19 := NB414_415.out; have hnc19 := NB415_414.out; obtain ⟨hcz20_0, hcz20_1, hcz20_2, hfz20_0, hfz20_1, hfz20_2⟩ := bo3_ BK414; obtain ⟨hcz21_0, hcz21_1, hcz21_2, hfz21_0, hfz21_1, hfz21_2⟩ := bo3_ BK415) | ((with_reducible refine gate_callee (f := 31) rfl ?_); refine gl_ (some 16) Tryz.func31 #[.agg #[.bool a1_0, .string a1_1, .int .i64 a1_2], .agg #[.bool a2_0, .string a2_1, .int .i64 a2_2]] ?_; (with_reducible refine (florinlaw03_multiple.calls k a1_0 a1_1 a1_2 a2_0 a2_1 a2_2 true _ A6.out).mono ?_); rintro e w22 ⟨rfl, hb⟩; refine ⟨_, rfl, ?_⟩; have n0_ := Aside0.mk (blk_below (g := gb413) (o := .cells #[.bool t416, .string t417, .int .i64 t418] 31 (0, 0)) (by (with_reducible repeat (first | refine blk_drewN ?_ _ | refine blk_drew ?_ | refine blk_alloc ?_ _)); refine blk_put (cs := #[.bool t416, .string t417, .int .i64 a0_2]) ?_ 2 _ rfl; (with_reducible repeat (first | refine blk_drewN ?_ _ | refine blk_drew ?_ | refine blk_alloc ?_ _)); refine blk_put (cs := #[.bool t416, .string a0_1, .int .i64 a0_2]) ?_ 1 _ rfl; (with_reducible repeat (first | refine blk_drewN ?_ _ | refine blk_drew ?_ | refine blk_alloc ?_ _)); refine blk_put (cs := #[.bool a0_0, .string a0_1, .int .i64 a0_2]) ?_ 0 _ rfl; (with_reducible repeat (first | refine blk_drewN ?_ _ | refine blk_drew ?_ | refine blk_alloc ?_ _)); exact BK413.out) hb); have n1_ := Aside0.mk (blk_below (g := gb414) (o := .cells #[.bool a1_0, .string a1_1, .int .i64 a1_2] 31 (0, 0)) (by (with_reducible repeat (first | refine blk_drewN ?_ _ | refine blk_drew ?_ | refine blk_alloc ?_ _)); refine blk_far ?_ NB414_413.out _; (with_reducible repeat (first | refine blk_drewN ?_ _ | refine blk_drew ?_ | refine blk_alloc ?_ _)); refine blk_far ?_ NB414_413.out _; (with_reducible repeat (first | refine blk_drewN ?_ _ | refine blk_drew ?_ | refine blk_alloc ?_ _)); refine blk_far ?_ NB414_413.out _; (with_reducible repeat (first | refine blk_drewN ?_ _ | refine blk_drew ?_ | refine blk_alloc ?_ _)); exact BK414.out) hb); have n2_ := Aside0.mk (blk_below (g := gb415) (o := .cells #[.bool a2_0, .string a2_1, .int .i64 a2_2] 31 (0, 0)) (by (with_reducible repeat (first | refine blk_drewN ?_ _ | refine blk_drew ?_ | refine blk_alloc ?_ _)); refine blk_far ?_ NB415_413.out _; (with_reducible repeat (first | refine blk_drewN ?_ _ | refine blk_drew ?_ | refine blk_alloc ?_ _)); refine blk_far ?_ NB415_413.out _; (with_reducible repeat (first | refine blk_drewN ?_ _ | refine blk_drew ?_ | refine blk_alloc ?_ _)); refine blk_far ?_ NB415_413.out _; (with_reducible repeat (first | refine blk_drewN ?_ _ | refine blk_drew ?_ | refine blk_alloc ?_ _)); exact BK415.out) hb); have n3_ := Aside0.mk (below_step (bl_ HB).out hb); clear BK413; clear BK414; clear BK415; clear HB; have BK413 := n0_; have BK414 := n1_; have BK415 := n2_; have HB := n3_; clear n0_ n1_ n2_ n3_; (try clear hb); (try clear hb2); (try clear hk); (try clear hi); obtain ⟨hcz23_0, hcz23_1, hcz23_2, hfz23_0, hfz23_1, hfz23_2⟩ := bo3_ BK413; obtain ⟨hcz24_0, hcz24_1, hcz24_2, hfz24_0, hfz24_1, hfz24_2⟩ := bo3_ BK414) | ((with_reducible refine gate_callee (f := 32) rfl ?_); refine gl_ (some 20) Tryz.func32 #[.agg #[.bool t416, .string t417, .int .i64 t418], .agg #[.bool a1_0, .string a1_1, .int .i64 a1_2]] ?_; (with_reducible refine (dec_Sub.calls k t416 t417 t418 a1_0 a1_1 a1_2 t420 t421 t422 _ A8.out).mono ?_); rintro e w25 ⟨rfl, hb⟩; refine ⟨_, rfl, ?_⟩; replace BK413 := bb_ BK413 hb; replace BK414 := bb_ BK414 hb; replace BK415 := bb_ BK415 hb; replace HB := Aside0.mk (below_step (bl_ HB).out hb); (try clear hb); (try clear hb2); (try clear hk); (try clear hi)) | ((with_reducible refine gate_dst (N := 9) rfl ?_); refine be_ 9 #[.bool false, .string (⟨#[]⟩ : ByteArray), .int .i64 0] 31 ?_; intro gb423 hg w26 hbox hb; have BK423 := Aside0.mk (hbox); have GW423 := sz_ HB hg; have GE423 := sz_ HB hg; have NB413_423 := na_ BK413 hg; have NB423_413 := nb_ BK413 hg; have NB414_423 := na_ BK414 hg; have NB423_414 := nb_ BK414 hg; have NB415_423 := na_ BK415 hg; have NB423_415 := nb_ BK415 hg; replace BK413 := bb_ BK413 hb; replace BK414 := bb_ BK414 hb; replace BK415 := bb_ BK415 hb; replace HB := Aside0.mk (below_step (bl_ HB).out hb); clear hb hbox hg; have hnb27 := NB423_413.out; have hnc27 := NB413_423.out; have hnb28 := NB423_414.out; have hnc28 := NB414_423.out; have hnb29 := NB423_415.out; have hnc29 := NB415_423.out; obtain ⟨hcz30_0, hcz30_1, hcz30_2, hfz30_0, hfz30_1, hfz30_2⟩ := bo3_ BK423) | ((with_reducible refine gate_callee (f := 13) rfl ?_); refine gl_ (some 22) Tryz.func13 #[.agg #[.bool t420, .string t421, .int .i64 t422]] ?_; (with_reducible refine (dec_Dec_Zero.calls k t420 t421 t422 true _ A9.out).mono ?_); rintro e w31 ⟨rfl, hb⟩; refine ⟨_, rfl, ?_⟩; have n0_ := Aside0.mk (blk_below (g := gb413) (o := .cells #[.bool t416, .string t417, .int .i64 t418] 31 (0, 0)) (by (with_reducible repeat (first | refine blk_drewN ?_ _ | refine blk_drew ?_ | refine blk_alloc ?_ _)); refine blk_far ?_ NB413_423.out _; (with_reducible repeat (first | refine blk_drewN ?_ _ | refine blk_drew ?_ | refine blk_alloc ?_ _)); refine blk_far ?_ NB413_423.out _; (with_reducible repeat (first | refine blk_drewN ?_ _ | refine blk_drew ?_ | refine blk_alloc ?_ _)); refine blk_far ?_ NB413_423.out _; (with_reducible repeat (first | refine blk_drewN ?_ _ | refine blk_drew ?_ | refine blk_alloc ?_ _)); exact BK413.out) hb); have n1_ := Aside0.mk (blk_below (g := gb414) (o := .cells #[.bool a1_0, .string a1_1, .int .i64 a1_2] 31 (0, 0)) (by (with_reducible repeat (first | refine blk_drewN ?_ _ | refine blk_drew ?_ | refine blk_alloc ?_ _)); refine blk_far ?_ NB414_423.out _; (with_reducible repeat (first | refine blk_drewN ?_ _ | refine blk_drew ?_ | refine blk_alloc ?_ _)); refine blk_far ?_ NB414_423.out _; (with_reducible repeat (first | refine blk_drewN ?_ _ | refine blk_drew ?_ | refine blk_alloc ?_ _)); refine blk_far ?_ NB414_423.out _; (with_reducible repeat (first | refine blk_drewN ?_ _ | refine blk_drew ?_ | refine blk_alloc ?_ _)); exact BK414.out) hb); have n2_ := Aside0.mk (blk_below (g := gb415) (o := .cells #[.bool a2_0, .string a2_1, .int .i64 a2_2] 31 (0, 0)) (by (with_reducible repeat (first | refine blk_drewN ?_ _ | refine blk_drew ?_ | refine blk_alloc ?_ _)); refine blk_far ?_ NB415_423.out _; (with_reducible repeat (first | refine blk_drewN ?_ _ | refine blk_drew ?_ | refine blk_alloc ?_ _)); refine blk_far ?_ NB415_423.out _; (with_reducible repeat (first | refine blk_drewN ?_ _ | refine blk_drew ?_ | refine blk_alloc ?_ _)); refine blk_far ?_ NB415_423.out _; (with_reducible repeat (first | refine blk_drewN ?_ _ | refine blk_drew ?_ | refine blk_alloc ?_ _)); exact BK415.out) hb); have n3_ := Aside0.mk (blk_below (g := gb423) (o := .cells #[.bool t420, .string t421, .int .i64 t422] 31 (0, 0)) (by (with_reducible repeat (first | refine blk_drewN ?_ _ | refine blk_drew ?_ | refine blk_alloc ?_ _)); refine blk_put (cs := #[.bool t420, .string t421, .int .i64 0]) ?_ 2 _ rfl; (with_reducible repeat (first | refine blk_drewN ?_ _ | refine blk_drew ?_ | refine blk_alloc ?_ _)); refine blk_put (cs := #[.bool t420, .string (⟨#[]⟩ : ByteArray), .int .i64 0]) ?_ 1 _ rfl; (with_reducible repeat (first | refine blk_drewN ?_ _ | refine blk_drew ?_ | refine blk_alloc ?_ _)); refine blk_put (cs := #[.bool false, .string (⟨#[]⟩ : ByteArray), .int .i64 0]) ?_ 0 _ rfl; (with_reducible repeat (first | refine blk_drewN ?_ _ | refine blk_drew ?_ | refine blk_alloc ?_ _)); exact BK423.out) hb); have n4_ := Aside0.mk (below_step (bl_ HB).out hb); clear BK413; clear BK414; clear BK415; clear BK423; clear HB; have BK413 := n0_; have BK414 := n1_; have BK415 := n2_; have BK423 := n3_; have HB := n4_; clear n0_ n1_ n2_ n3_ n4_; (try clear hb); (try clear hb2); (try clear hk); (try clear hi); obtain ⟨hcz32_0, hcz32_1, hcz32_2, hfz32_0, hfz32_1, hfz32_2⟩ := bo3_ BK414; obtain ⟨hcz33_0, hcz33_1, hcz33_2, hfz33_0, hfz33_1, hfz33_2⟩ := bo3_ BK413))
   go_ret
   exact ⟨ew_, (bl_ HB).out⟩
  ·replace c10 := Bool.eq_false_iff.mpr c10
   subst c10
   have H1 : ((florinlaw03_multiple.f k t416 t417 t418 a2_0 a2_1 a2_2).bind fun t425 => (if t425 = true then (florinlaw03_Rounded.j0 k a3 true t416 t417 t418 a1_0 a1_1 a1_2 a2_0 a2_1 a2_2 t420 t421 t422) else ((dec_Dec_Abs.f k t420 t421 t422).bind fun bt426 => ((dec_Cmp.f k bt426.1 bt426.2.1 bt426.2.2 a2_0 a2_1 a2_2).bind fun t429 => (florinlaw03_Rounded.j0 k a3 (decide (t429 ≥ 0)) t416 t417 t418 a1_0 a1_1 a1_2 a2_0 a2_1 a2_2 t420 t421 t422))))) = some r := by rw [if_neg (show ¬ (false = true) by decide)] at H; exact H
   clear H
   have H := H1
   clear H1
   have HC34 := Aside0.mk H
   clear H
   go_enter Tryz.func14, Tryz.ntmps14
   go_upto_region 7 with (first | ((with_reducible refine gate_dst (N := 4) rfl ?_); refine be_ 4 #[.bool a0_0, .string a0_1, .int .i64 a0_2] 31 ?_; intro gb413 hg w35 hbox hb; have BK413 := Aside0.mk (hbox); have GW413 := sz_ HB hg; have GE413 := sz_ HB hg; replace HB := Aside0.mk (below_step (bl_ HB).out hb); clear hb hbox hg) | ((with_reducible refine gate_dst (N := 5) rfl ?_); refine be_ 5 #[.bool a1_0, .string a1_1, .int .i64 a1_2] 31 ?_; intro gb414 hg w36 hbox hb; have BK414 := Aside0.mk (hbox); have GW414 := sz_ HB hg; have GE414 := sz_ HB hg; have NB413_414 := na_ BK413 hg; have NB414_413 := nb_ BK413 hg; replace BK413 := bb_ BK413 hb; replace HB := Aside0.mk (below_step (bl_ HB).out hb); clear hb hbox hg) | ((with_reducible refine gate_dst (N := 6) rfl ?_); refine be_ 6 #[.bool a2_0, .string a2_1, .int .i64 a2_2] 31 ?_; intro gb415 hg w37 hbox hb; have BK415 := Aside0.mk (hbox); have GW415 := sz_ HB hg; have GE415 := sz_ HB hg; have NB413_415 := na_ BK413 hg; have NB415_413 := nb_ BK413 hg; have NB414_415 := na_ BK414 hg; have NB415_414 := nb_ BK414 hg; replace BK413 := bb_ BK413 hb; replace BK414 := bb_ BK414 hb; replace HB := Aside0.mk (below_step (bl_ HB).out hb); clear hb hbox hg; have hnb38 := NB413_414.out; have hnc38 := NB414_413.out; have hnb39 := NB413_415.out; have hnc39 := NB415_413.out; obtain ⟨hcz40_0, hcz40_1, hcz40_2, hfz40_0, hfz40_1, hfz40_2⟩ := bo3_ BK413) | ((with_reducible refine gate_callee (f := 8) rfl ?_); refine gl_ (some 13) Tryz.func8 #[.agg #[.bool a0_0, .string a0_1, .int .i64 a0_2]] ?_; (with_reducible refine (dec_Dec_Norm.calls k a0_0 a0_1 a0_2 t416 t417 t418 _ A5.out).mono ?_); rintro e w41 ⟨rfl, hb⟩; refine ⟨_, rfl, ?_⟩; replace BK413 := bb_ BK413 hb; replace BK414 := bb_ BK414 hb; replace BK415 := bb_ BK415 hb; replace HB := Aside0.mk (below_step (bl_ HB).out hb); (try clear hb); (try clear hb2); (try clear hk); (try clear hi); obtain ⟨hcz42_0, hcz42_1, hcz42_2, hfz42_0, hfz42_1, hfz42_2⟩ := bo3_ BK413; have hnb43 := NB414_415.out; have hnc43 := NB415_414.out; obtain ⟨hcz44_0, hcz44_1, hcz44_2, hfz44_0, hfz44_1, hfz44_2⟩ := bo3_ BK414; obtain ⟨hcz45_0, hcz45_1, hcz45_2, hfz45_0, hfz45_1, hfz45_2⟩ := bo3_ BK415) | ((with_reducible refine gate_callee (f := 31) rfl ?_); refine gl_ (some 16) Tryz.func31 #[.agg #[.bool a1_0, .string a1_1, .int .i64 a1_2], .agg #[.bool a2_0, .string a2_1, .int .i64 a2_2]] ?_; (with_reducible refine (florinlaw03_multiple.calls k a1_0 a1_1 a1_2 a2_0 a2_1 a2_2 true _ A6.out).mono ?_); rintro e w46 ⟨rfl, hb⟩; refine ⟨_, rfl, ?_⟩; have n0_ := Aside0.mk (blk_below (g := gb413) (o := .cells #[.bool t416, .string t417, .int .i64 t418] 31 (0, 0)) (by (with_reducible repeat (first | refine blk_drewN ?_ _ | refine blk_drew ?_ | refine blk_alloc ?_ _)); refine blk_put (cs := #[.bool t416, .string t417, .int .i64 a0_2]) ?_ 2 _ rfl; (with_reducible repeat (first | refine blk_drewN ?_ _ | refine blk_drew ?_ | refine blk_alloc ?_ _)); refine blk_put (cs := #[.bool t416, .string a0_1, .int .i64 a0_2]) ?_ 1 _ rfl; (with_reducible repeat (first | refine blk_drewN ?_ _ | refine blk_drew ?_ | refine blk_alloc ?_ _)); refine blk_put (cs := #[.bool a0_0, .string a0_1, .int .i64 a0_2]) ?_ 0 _ rfl; (with_reducible repeat (first | refine blk_drewN ?_ _ | refine blk_drew ?_ | refine blk_alloc ?_ _)); exact BK413.out) hb); have n1_ := Aside0.mk (blk_below (g := gb414) (o := .cells #[.bool a1_0, .string a1_1, .int .i64 a1_2] 31 (0, 0)) (by (with_reducible repeat (first | refine blk_drewN ?_ _ | refine blk_drew ?_ | refine blk_alloc ?_ _)); refine blk_far ?_ NB414_413.out _; (with_reducible repeat (first | refine blk_drewN ?_ _ | refine blk_drew ?_ | refine blk_alloc ?_ _)); refine blk_far ?_ NB414_413.out _; (with_reducible repeat (first | refine blk_drewN ?_ _ | refine blk_drew ?_ | refine blk_alloc ?_ _)); refine blk_far ?_ NB414_413.out _; (with_reducible repeat (first | refine blk_drewN ?_ _ | refine blk_drew ?_ | refine blk_alloc ?_ _)); exact BK414.out) hb); have n2_ := Aside0.mk (blk_below (g := gb415) (o := .cells #[.bool a2_0, .string a2_1, .int .i64 a2_2] 31 (0, 0)) (by (with_reducible repeat (first | refine blk_drewN ?_ _ | refine blk_drew ?_ | refine blk_alloc ?_ _)); refine blk_far ?_ NB415_413.out _; (with_reducible repeat (first | refine blk_drewN ?_ _ | refine blk_drew ?_ | refine blk_alloc ?_ _)); refine blk_far ?_ NB415_413.out _; (with_reducible repeat (first | refine blk_drewN ?_ _ | refine blk_drew ?_ | refine blk_alloc ?_ _)); refine blk_far ?_ NB415_413.out _; (with_reducible repeat (first | refine blk_drewN ?_ _ | refine blk_drew ?_ | refine blk_alloc ?_ _)); exact BK415.out) hb); have n3_ := Aside0.mk (below_step (bl_ HB).out hb); clear BK413; clear BK414; clear BK415; clear HB; have BK413 := n0_; have BK414 := n1_; have BK415 := n2_; have HB := n3_; clear n0_ n1_ n2_ n3_; (try clear hb); (try clear hb2); (try clear hk); (try clear hi); obtain ⟨hcz47_0, hcz47_1, hcz47_2, hfz47_0, hfz47_1, hfz47_2⟩ := bo3_ BK413; obtain ⟨hcz48_0, hcz48_1, hcz48_2, hfz48_0, hfz48_1, hfz48_2⟩ := bo3_ BK414) | ((with_reducible refine gate_callee (f := 32) rfl ?_); refine gl_ (some 20) Tryz.func32 #[.agg #[.bool t416, .string t417, .int .i64 t418], .agg #[.bool a1_0, .string a1_1, .int .i64 a1_2]] ?_; (with_reducible refine (dec_Sub.calls k t416 t417 t418 a1_0 a1_1 a1_2 t420 t421 t422 _ A8.out).mono ?_); rintro e w49 ⟨rfl, hb⟩; refine ⟨_, rfl, ?_⟩; replace BK413 := bb_ BK413 hb; replace BK414 := bb_ BK414 hb; replace BK415 := bb_ BK415 hb; replace HB := Aside0.mk (below_step (bl_ HB).out hb); (try clear hb); (try clear hb2); (try clear hk); (try clear hi)) | ((with_reducible refine gate_dst (N := 9) rfl ?_); refine be_ 9 #[.bool false, .string (⟨#[]⟩ : ByteArray), .int .i64 0] 31 ?_; intro gb423 hg w50 hbox hb; have BK423 := Aside0.mk (hbox); have GW423 := sz_ HB hg; have GE423 := sz_ HB hg; have NB413_423 := na_ BK413 hg; have NB423_413 := nb_ BK413 hg; have NB414_423 := na_ BK414 hg; have NB423_414 := nb_ BK414 hg; have NB415_423 := na_ BK415 hg; have NB423_415 := nb_ BK415 hg; replace BK413 := bb_ BK413 hb; replace BK414 := bb_ BK414 hb; replace BK415 := bb_ BK415 hb; replace HB := Aside0.mk (below_step (bl_ HB).out hb); clear hb hbox hg; have hnb51 := NB423_413.out; have hnc51 := NB413_423.out; have hnb52 := NB423_414.out; have hnc52 := NB414_423.out; have hnb53 := NB423_415.out; have hnc53 := NB415_423.out; obtain ⟨hcz54_0, hcz54_1, hcz54_2, hfz54_0, hfz54_1, hfz54_2⟩ := bo3_ BK423) | ((with_reducible refine gate_callee (f := 13) rfl ?_); refine gl_ (some 22) Tryz.func13 #[.agg #[.bool t420, .string t421, .int .i64 t422]] ?_; (with_reducible refine (dec_Dec_Zero.calls k t420 t421 t422 false _ A9.out).mono ?_); rintro e w55 ⟨rfl, hb⟩; refine ⟨_, rfl, ?_⟩; have n0_ := Aside0.mk (blk_below (g := gb413) (o := .cells #[.bool t416, .string t417, .int .i64 t418] 31 (0, 0)) (by (with_reducible repeat (first | refine blk_drewN ?_ _ | refine blk_drew ?_ | refine blk_alloc ?_ _)); refine blk_far ?_ NB413_423.out _; (with_reducible repeat (first | refine blk_drewN ?_ _ | refine blk_drew ?_ | refine blk_alloc ?_ _)); refine blk_far ?_ NB413_423.out _; (with_reducible repeat (first | refine blk_drewN ?_ _ | refine blk_drew ?_ | refine blk_alloc ?_ _)); refine blk_far ?_ NB413_423.out _; (with_reducible repeat (first | refine blk_drewN ?_ _ | refine blk_drew ?_ | refine blk_alloc ?_ _)); exact BK413.out) hb); have n1_ := Aside0.mk (blk_below (g := gb414) (o := .cells #[.bool a1_0, .string a1_1, .int .i64 a1_2] 31 (0, 0)) (by (with_reducible repeat (first | refine blk_drewN ?_ _ | refine blk_drew ?_ | refine blk_alloc ?_ _)); refine blk_far ?_ NB414_423.out _; (with_reducible repeat (first | refine blk_drewN ?_ _ | refine blk_drew ?_ | refine blk_alloc ?_ _)); refine blk_far ?_ NB414_423.out _; (with_reducible repeat (first | refine blk_drewN ?_ _ | refine blk_drew ?_ | refine blk_alloc ?_ _)); refine blk_far ?_ NB414_423.out _; (with_reducible repeat (first | refine blk_drewN ?_ _ | refine blk_drew ?_ | refine blk_alloc ?_ _)); exact BK414.out) hb); have n2_ := Aside0.mk (blk_below (g := gb415) (o := .cells #[.bool a2_0, .string a2_1, .int .i64 a2_2] 31 (0, 0)) (by (with_reducible repeat (first | refine blk_drewN ?_ _ | refine blk_drew ?_ | refine blk_alloc ?_ _)); refine blk_far ?_ NB415_423.out _; (with_reducible repeat (first | refine blk_drewN ?_ _ | refine blk_drew ?_ | refine blk_alloc ?_ _)); refine blk_far ?_ NB415_423.out _; (with_reducible repeat (first | refine blk_drewN ?_ _ | refine blk_drew ?_ | refine blk_alloc ?_ _)); refine blk_far ?_ NB415_423.out _; (with_reducible repeat (first | refine blk_drewN ?_ _ | refine blk_drew ?_ | refine blk_alloc ?_ _)); exact BK415.out) hb); have n3_ := Aside0.mk (blk_below (g := gb423) (o := .cells #[.bool t420, .string t421, .int .i64 t422] 31 (0, 0)) (by (with_reducible repeat (first | refine blk_drewN ?_ _ | refine blk_drew ?_ | refine blk_alloc ?_ _)); refine blk_put (cs := #[.bool t420, .string t421, .int .i64 0]) ?_ 2 _ rfl; (with_reducible repeat (first | refine blk_drewN ?_ _ | refine blk_drew ?_ | refine blk_alloc ?_ _)); refine blk_put (cs := #[.bool t420, .string (⟨#[]⟩ : ByteArray), .int .i64 0]) ?_ 1 _ rfl; (with_reducible repeat (first | refine blk_drewN ?_ _ | refine blk_drew ?_ | refine blk_alloc ?_ _)); refine blk_put (cs := #[.bool false, .string (⟨#[]⟩ : ByteArray), .int .i64 0]) ?_ 0 _ rfl; (with_reducible repeat (first | refine blk_drewN ?_ _ | refine blk_drew ?_ | refine blk_alloc ?_ _)); exact BK423.out) hb); have n4_ := Aside0.mk (below_step (bl_ HB).out hb); clear BK413; clear BK414; clear BK415; clear BK423; clear HB; have BK413 := n0_; have BK414 := n1_; have BK415 := n2_; have BK423 := n3_; have HB := n4_; clear n0_ n1_ n2_ n3_ n4_; (try clear hb); (try clear hb2); (try clear hk); (try clear hi)))
   (try simp only [Act.put, List.setIfInBounds_toArray, List.set_cons_zero, List.set_cons_succ])
   go_cut [35] (fun v35 wc => ∃ (kq : Nat) (x35_33 : Bool), v35 = .bool x35_33 ∧ Aside0 (florinlaw03_Rounded.j0 kq a3 x35_33 t416 t417 t418 a1_0 a1_1 a1_2 a2_0 a2_1 a2_2 t420 t421 t422 = some r) ∧ Aside0 (kq ≤ k) ∧ Aside0 (wc.heap[gb413]? = some (.cells #[.bool t416, .string t417, .int .i64 t418] 31 (0, 0))) ∧ Aside0 (wc.heap[gb414]? = some (.cells #[.bool a1_0, .string a1_1, .int .i64 a1_2] 31 (0, 0))) ∧ Aside0 (wc.heap[gb415]? = some (.cells #[.bool a2_0, .string a2_1, .int .i64 a2_2] 31 (0, 0))) ∧ Aside0 (wc.heap[gb423]? = some (.cells #[.bool t420, .string t421, .int .i64 t422] 31 (0, 0))) ∧ Aside0 (Below w.heap.size w wc))
   case first =>
    have H := HC34.out
    clear HC34
    replace H := Option.bind_eq_some_iff.mp H
    obtain ⟨t425, A560, H⟩ := H
    replace H : (if t425 = true then (florinlaw03_Rounded.j0 k a3 true t416 t417 t418 a1_0 a1_1 a1_2 a2_0 a2_1 a2_2 t420 t421 t422) else ((dec_Dec_Abs.f k t420 t421 t422).bind fun bt426 => ((dec_Cmp.f k bt426.1 bt426.2.1 bt426.2.2 a2_0 a2_1 a2_2).bind fun t429 => (florinlaw03_Rounded.j0 k a3 (decide (t429 ≥ 0)) t416 t417 t418 a1_0 a1_1 a1_2 a2_0 a2_1 a2_2 t420 t421 t422)))) = some r := H
    have A56 := Aside0.mk A560
    clear A560
    by_cases c57 : t425 = true
    ·subst c57
     have H1 : (florinlaw03_Rounded.j0 k a3 true t416 t417 t418 a1_0 a1_1 a1_2 a2_0 a2_1 a2_2 t420 t421 t422) = some r := by rw [if_pos rfl] at H; exact H
     clear H
     have H := H1
     clear H1
     have H' := Aside0.mk H
     clear H
     try go_wp2
     replace BK413 := Aside0.mk (blk_drew BK413.out)
     replace BK414 := Aside0.mk (blk_drew BK414.out)
     replace BK415 := Aside0.mk (blk_drew BK415.out)
     replace BK423 := Aside0.mk (blk_drew BK423.out)
     replace HB := Aside0.mk (below_drew1 HB.out)
     refine start_ (n := 10) (S := fun w' => w'.cell? ⟨gb413, 0, none⟩ = some (.bool t416) ∧ w'.cell? ⟨gb413, 1, none⟩ = some (.string t417) ∧ w'.cell? ⟨gb413, 2, none⟩ = some (.int .i64 t418) ∧ w'.cell? ⟨gb415, 0, none⟩ = some (.bool a2_0) ∧ w'.cell? ⟨gb415, 1, none⟩ = some (.string a2_1) ∧ w'.cell? ⟨gb415, 2, none⟩ = some (.int .i64 a2_2)) (ds := []) #[false, false, false, false, false, false, false, false, false, false] (by kernel_rfl) rfl rfl ⟨bc_ BK413 0, bc_ BK413 1, bc_ BK413 2, bc_ BK415 0, bc_ BK415 1, bc_ BK415 2⟩ (fun hHeld => ?_); refine with_tabW florinlaw03_Rounded.tab7 florinlaw03_Rounded.bits7 (fun HT_ HW_ => ?_)
     generalize w55.drew = w58 at BK413 BK414 BK415 BK423 HB hHeld ⊢
     refine tk_ 0 26 (bm_ 10 1) HT_ HW_ hHeld rfl (by rintro w' ⟨s0, s1, s2, s3, s4, s5⟩; go_simp; with_reducible rfl) ?_
     refine tk_ 1 27 (bm_ 10 3) HT_ HW_ hHeld rfl (by rintro w' ⟨s0, s1, s2, s3, s4, s5⟩; go_simp; with_reducible rfl) ?_
     refine one_ (i := 2) (N := some 28) (bm_ 10 7) rfl rfl (one_of HT_.out (by kernel_rfl)) (by decide) (fun K hK => ?_)
     refine gs_ Tryz.func31 #[.agg #[.bool t416, .string t417, .int .i64 t418], .agg #[.bool a2_0, .string a2_1, .int .i64 a2_2]] ?_
     with_reducible refine (florinlaw03_multiple.calls k t416 t417 t418 a2_0 a2_1 a2_2 true _ A56.out).mono ?_
     rintro e w59 ⟨rfl, hb⟩
     refine ⟨_, rfl, ?_⟩
     replace BK413 := bb_ BK413 hb
     replace BK414 := bb_ BK414 hb
     replace BK415 := bb_ BK415 hb
     replace BK423 := bb_ BK423 hb
     replace HB := Aside0.mk (below_step (bl_ HB).out hb)
     (try clear hb)
     (try clear hb2)
     (try clear hk)
     (try clear hi)
     refine hK.out _ _ ⟨bc_ BK413 0, bc_ BK413 1, bc_ BK413 2, bc_ BK415 0, bc_ BK415 1, bc_ BK415 2⟩ (fun hHeld => ?_)
     clear hK K
     refine nm_ 28 ?_
     refine pu_ 3 29 (bm_ 10 15) HT_ ?_
     refine pn_ 4 30 (bm_ 10 31) HT_ ?_
     refine pn_ 5 31 (bm_ 10 63) HT_ ?_
     refine pn_ 6 32 (bm_ 10 127) HT_ ?_
     refine pn_ 7 33 (bm_ 10 255) HT_ ?_
     refine pn_ 8 34 (bm_ 10 511) HT_ ?_
     refine pu_ 9 35 (bm_ 10 1023) HT_ ?_
     refine done_ (done_of HT_.out (by kernel_rfl)) ?_
     try go_wp2
     go_meet
     case rel => exact ⟨_, (true), eq_, H', ⟨by first | omega | exact Nat.le_refl _⟩, (bk_ BK413), (bk_ BK414), (bk_ BK415), (bk_ BK423), (bl_ HB)⟩
    ·replace c57 := Bool.eq_false_iff.mpr c57
     subst c57
     have H1 : ((dec_Dec_Abs.f k t420 t421 t422).bind fun bt426 => ((dec_Cmp.f k bt426.1 bt426.2.1 bt426.2.2 a2_0 a2_1 a2_2).bind fun t429 => (florinlaw03_Rounded.j0 k a3 (decide (t429 ≥ 0)) t416 t417 t418 a1_0 a1_1 a1_2 a2_0 a2_1 a2_2 t420 t421 t422))) = some r := by rw [if_neg (show ¬ (false = true) by decide)] at H; exact H
     clear H
     have H := H1
     clear H1
     replace H := Option.bind_eq_some_iff.mp H
     obtain ⟨⟨t426, t427, t428⟩, A600, H⟩ := H
     replace H : ((dec_Cmp.f k t426 t427 t428 a2_0 a2_1 a2_2).bind fun t429 => (florinlaw03_Rounded.j0 k a3 (decide (t429 ≥ 0)) t416 t417 t418 a1_0 a1_1 a1_2 a2_0 a2_1 a2_2 t420 t421 t422)) = some r := H
     have A60 := Aside0.mk A600
     clear A600
     replace H := Option.bind_eq_some_iff.mp H
     obtain ⟨t429, A610, H⟩ := H
     replace H : (florinlaw03_Rounded.j0 k a3 (decide (t429 ≥ 0)) t416 t417 t418 a1_0 a1_1 a1_2 a2_0 a2_1 a2_2 t420 t421 t422) = some r := H
     have A61 := Aside0.mk A610
     clear A610
     have H' := Aside0.mk H
     clear H
     try go_wp2
     replace BK413 := Aside0.mk (blk_drew BK413.out)
     replace BK414 := Aside0.mk (blk_drew BK414.out)
     replace BK415 := Aside0.mk (blk_drew BK415.out)
     replace BK423 := Aside0.mk (blk_drew BK423.out)
     replace HB := Aside0.mk (below_drew1 HB.out)
     refine start_ (n := 10) (S := fun w' => w'.cell? ⟨gb413, 0, none⟩ = some (.bool t416) ∧ w'.cell? ⟨gb413, 1, none⟩ = some (.string t417) ∧ w'.cell? ⟨gb413, 2, none⟩ = some (.int .i64 t418) ∧ w'.cell? ⟨gb415, 0, none⟩ = some (.bool a2_0) ∧ w'.cell? ⟨gb415, 1, none⟩ = some (.string a2_1) ∧ w'.cell? ⟨gb415, 2, none⟩ = some (.int .i64 a2_2) ∧ w'.cell? ⟨gb423, 0, none⟩ = some (.bool t420) ∧ w'.cell? ⟨gb423, 1, none⟩ = some (.string t421) ∧ w'.cell? ⟨gb423, 2, none⟩ = some (.int .i64 t422)) (ds := []) #[false, false, false, false, false, false, false, false, false, false] (by kernel_rfl) rfl rfl ⟨bc_ BK413 0, bc_ BK413 1, bc_ BK413 2, bc_ BK415 0, bc_ BK415 1, bc_ BK415 2, bc_ BK423 0, bc_ BK423 1, bc_ BK423 2⟩ (fun hHeld => ?_); refine with_tabW florinlaw03_Rounded.tab7 florinlaw03_Rounded.bits7 (fun HT_ HW_ => ?_)
     generalize w55.drew = w62 at BK413 BK414 BK415 BK423 HB hHeld ⊢
     refine tk_ 0 26 (bm_ 10 1) HT_ HW_ hHeld rfl (by rintro w' ⟨s0, s1, s2, s3, s4, s5, s6, s7, s8⟩; go_simp; with_reducible rfl) ?_
     refine tk_ 1 27 (bm_ 10 3) HT_ HW_ hHeld rfl (by rintro w' ⟨s0, s1, s2, s3, s4, s5, s6, s7, s8⟩; go_simp; with_reducible rfl) ?_
     refine one_ (i := 2) (N := some 28) (bm_ 10 7) rfl rfl (one_of HT_.out (by kernel_rfl)) (by decide) (fun K hK => ?_)
     refine gs_ Tryz.func31 #[.agg #[.bool t416, .string t417, .int .i64 t418], .agg #[.bool a2_0, .string a2_1, .int .i64 a2_2]] ?_
     with_reducible refine (florinlaw03_multiple.calls k t416 t417 t418 a2_0 a2_1 a2_2 false _ A56.out).mono ?_
     rintro e w63 ⟨rfl, hb⟩
     refine ⟨_, rfl, ?_⟩
     replace BK413 := bb_ BK413 hb
     replace BK414 := bb_ BK414 hb
     replace BK415 := bb_ BK415 hb
     replace BK423 := bb_ BK423 hb
     replace HB := Aside0.mk (below_step (bl_ HB).out hb)
     (try clear hb)
     (try clear hb2)
     (try clear hk)
     (try clear hi)
     refine hK.out _ _ ⟨bc_ BK413 0, bc_ BK413 1, bc_ BK413 2, bc_ BK415 0, bc_ BK415 1, bc_ BK415 2, bc_ BK423 0, bc_ BK423 1, bc_ BK423 2⟩ (fun hHeld => ?_)
     clear hK K
     refine nm_ 28 ?_
     refine pu_ 3 29 (bm_ 10 15) HT_ ?_
     refine tk_ 4 30 (bm_ 10 31) HT_ HW_ hHeld rfl (by rintro w' ⟨s0, s1, s2, s3, s4, s5, s6, s7, s8⟩; go_simp; with_reducible rfl) ?_
     refine tk_ 6 32 (bm_ 10 95) HT_ HW_ hHeld rfl (by rintro w' ⟨s0, s1, s2, s3, s4, s5, s6, s7, s8⟩; go_simp; with_reducible rfl) ?_
     refine one_ (i := 5) (N := some 31) (bm_ 10 127) rfl rfl (one_of HT_.out (by kernel_rfl)) (by decide) (fun K hK => ?_)
     refine gs_ Tryz.func34 #[.agg #[.bool t420, .string t421, .int .i64 t422]] ?_
     with_reducible refine (dec_Dec_Abs.calls k t420 t421 t422 t426 t427 t428 _ A60.out).mono ?_
     rintro e w64 ⟨rfl, hb⟩
     refine ⟨_, rfl, ?_⟩
     replace BK413 := bb_ BK413 hb
     replace BK414 := bb_ BK414 hb
     replace BK415 := bb_ BK415 hb
     replace BK423 := bb_ BK423 hb
     replace HB := Aside0.mk (below_step (bl_ HB).out hb)
     (try clear hb)
     (try clear hb2)
     (try clear hk)
     (try clear hi)
     refine hK.out _ _ ⟨bc_ BK413 0, bc_ BK413 1, bc_ BK413 2, bc_ BK415 0, bc_ BK415 1, bc_ BK415 2, bc_ BK423 0, bc_ BK423 1, bc_ BK423 2⟩ (fun hHeld => ?_)
     clear hK K
     refine nm_ 31 ?_
     refine one_ (i := 7) (N := some 33) (bm_ 10 255) rfl rfl (one_of HT_.out (by kernel_rfl)) (by decide) (fun K hK => ?_)
     refine gs_ Tryz.func33 #[.agg #[.bool t426, .string t427, .int .i64 t428], .agg #[.bool a2_0, .string a2_1, .int .i64 a2_2]] ?_
     with_reducible refine (dec_Cmp.calls k t426 t427 t428 a2_0 a2_1 a2_2 t429 _ A61.out).mono ?_
     rintro e w65 ⟨rfl, hb⟩
     refine ⟨_, rfl, ?_⟩
     replace BK413 := bb_ BK413 hb
     replace BK414 := bb_ BK414 hb
     replace BK415 := bb_ BK415 hb
     replace BK423 := bb_ BK423 hb
     replace HB := Aside0.mk (below_step (bl_ HB).out hb)
     (try clear hb)
     (try clear hb2)
     (try clear hk)
     (try clear hi)
     refine hK.out _ _ ⟨bc_ BK413 0, bc_ BK413 1, bc_ BK413 2, bc_ BK415 0, bc_ BK415 1, bc_ BK415 2, bc_ BK423 0, bc_ BK423 1, bc_ BK423 2⟩ (fun hHeld => ?_)
     clear hK K
     refine nm_ 33 ?_
     refine pu_ 8 34 (bm_ 10 511) HT_ ?_
     refine pu_ 9 35 (bm_ 10 1023) HT_ ?_
     refine done_ (done_of HT_.out (by kernel_rfl)) ?_
     try go_wp2
     go_meet
     case rel => exact ⟨_, (decide (t429 ≥ 0)), eq_, H', ⟨by first | omega | exact Nat.le_refl _⟩, (bk_ BK413), (bk_ BK414), (bk_ BK415), (bk_ BK423), (bl_ HB)⟩
   case rest =>
    clear HC34
    try clear c1
    try clear c2
    try clear p2
    try clear c3
    try clear c4
    try clear c5
    try clear p6
    try clear c7
    try clear c8
    try clear c10
    try clear c13
    try clear c14
    try clear c15
    try clear c19
    try clear c27
    try clear c28
    try clear c29
    try clear c31
    try clear c32
    try clear c33
    try clear c34
    try clear c38
    try clear c39
    try clear c43
    try clear c51
    try clear c52
    try clear c53
    try clear c57
    try clear p64
    try clear hcz16_0
    try clear hcz16_1
    try clear hcz16_2
    try clear hcz18_0
    try clear hcz18_1
    try clear hcz18_2
    try clear hcz20_0
    try clear hcz20_1
    try clear hcz20_2
    try clear hcz21_0
    try clear hcz21_1
    try clear hcz21_2
    try clear hcz23_0
    try clear hcz23_1
    try clear hcz23_2
    try clear hcz24_0
    try clear hcz24_1
    try clear hcz24_2
    try clear hcz30_0
    try clear hcz30_1
    try clear hcz30_2
    try clear hcz32_0
    try clear hcz32_1
    try clear hcz32_2
    try clear hcz33_0
    try clear hcz33_1
    try clear hcz33_2
    try clear hcz40_0
    try clear hcz40_1
    try clear hcz40_2
    try clear hcz42_0
    try clear hcz42_1
    try clear hcz42_2
    try clear hcz44_0
    try clear hcz44_1
    try clear hcz44_2
    try clear hcz45_0
    try clear hcz45_1
    try clear hcz45_2
    try clear hcz47_0
    try clear hcz47_1
    try clear hcz47_2
    try clear hcz48_0
    try clear hcz48_1
    try clear hcz48_2
    try clear hcz54_0
    try clear hcz54_1
    try clear hcz54_2
    try clear hfz16_0
    try clear hfz16_1
    try clear hfz16_2
    try clear hfz18_0
    try clear hfz18_1
    try clear hfz18_2
    try clear hfz20_0
    try clear hfz20_1
    try clear hfz20_2
    try clear hfz21_0
    try clear hfz21_1
    try clear hfz21_2
    try clear hfz23_0
    try clear hfz23_1
    try clear hfz23_2
    try clear hfz24_0
    try clear hfz24_1
    try clear hfz24_2
    try clear hfz30_0
    try clear hfz30_1
    try clear hfz30_2
    try clear hfz32_0
    try clear hfz32_1
    try clear hfz32_2
    try clear hfz33_0
    try clear hfz33_1
    try clear hfz33_2
    try clear hfz40_0
    try clear hfz40_1
    try clear hfz40_2
    try clear hfz42_0
    try clear hfz42_1
    try clear hfz42_2
    try clear hfz44_0
    try clear hfz44_1
    try clear hfz44_2
    try clear hfz45_0
    try clear hfz45_1
    try clear hfz45_2
    try clear hfz47_0
    try clear hfz47_1
    try clear hfz47_2
    try clear hfz48_0
    try clear hfz48_1
    try clear hfz48_2
    try clear hfz54_0
    try clear hfz54_1
    try clear hfz54_2
    obtain ⟨kq, x35_33, rfl, HA, HJ33, BK413, BK414, BK415, BK423, HB⟩ := hcut
    cases kq with
    | zero => exact absurd HA.out (by simp [florinlaw03_Rounded.j0])
    | succ kj33 =>
     have H := HA.out
     clear HA
     simp only [florinlaw03_Rounded.j0] at H
     by_cases c66 : x35_33 = true
     ·subst c66
      have H1 : (some false) = some r := by rw [if_pos rfl] at H; exact H
      clear H
      have H := H1
      clear H1
      obtain rfl := Option.some.inj H
      go_wp2
      go_ret
      exact ⟨ew_, (bl_ HB).out⟩
     ·replace c66 := Bool.eq_false_iff.mpr c66
      subst c66
      have H1 : ((dec_Dec_Abs.f kj33 a1_0 a1_1 a1_2).bind fun bt430 => ((dec_Dec_Abs.f kj33 t416 t417 t418).bind fun bt433 => ((dec_Cmp.f kj33 bt430.1 bt430.2.1 bt430.2.2 bt433.1 bt433.2.1 bt433.2.2).bind fun t436 => ((dec_Dec_Abs.f kj33 t420 t421 t422).bind fun bt437 => ((florinlaw03_twice.f kj33 bt437.1 bt437.2.1 bt437.2.2).bind fun bt440 => ((dec_Cmp.f kj33 bt440.1 bt440.2.1 bt440.2.2 a2_0 a2_1 a2_2).bind fun t443 => (if a3 = 3 then (some (decide (t436 > 0))) else (if a3 = 4 then (some (!(decide (t436 > 0)))) else (if a3 = 5 then (some t420) else (if a3 = 6 then (some (!t420)) else (if a3 = 1 then (if t443 < 0 then (some true) else (if t443 = 0 then (some (decide (t436 > 0))) else (some false))) else (if a3 = 2 then (if t443 < 0 then (some true) else (if t443 = 0 then (some (!(decide (t436 > 0)))) else (some false))) else (if t443 < 0 then (some true) else (if t443 = 0 then ((florinlaw03_even.f kj33 a1_0 a1_1 a1_2 a2_0 a2_1 a2_2).bind fun t444 => (some t444)) else (some false))))))))))))))) = some r := by rw [if_neg (show ¬ (false = true) by decide)] at H; exact H
      clear H
      have H := H1
      clear H1
      replace H := Option.bind_eq_some_iff.mp H
      obtain ⟨⟨t430, t431, t432⟩, A670, H⟩ := H
      replace H : ((dec_Dec_Abs.f kj33 t416 t417 t418).bind fun bt433 => ((dec_Cmp.f kj33 t430 t431 t432 bt433.1 bt433.2.1 bt433.2.2).bind fun t436 => ((dec_Dec_Abs.f kj33 t420 t421 t422).bind fun bt437 => ((florinlaw03_twice.f kj33 bt437.1 bt437.2.1 bt437.2.2).bind fun bt440 => ((dec_Cmp.f kj33 bt440.1 bt440.2.1 bt440.2.2 a2_0 a2_1 a2_2).bind fun t443 => (if a3 = 3 then (some (decide (t436 > 0))) else (if a3 = 4 then (some (!(decide (t436 > 0)))) else (if a3 = 5 then (some t420) else (if a3 = 6 then (some (!t420)) else (if a3 = 1 then (if t443 < 0 then (some true) else (if t443 = 0 then (some (decide (t436 > 0))) else (some false))) else (if a3 = 2 then (if t443 < 0 then (some true) else (if t443 = 0 then (some (!(decide (t436 > 0)))) else (some false))) else (if t443 < 0 then (some true) else (if t443 = 0 then ((florinlaw03_even.f kj33 a1_0 a1_1 a1_2 a2_0 a2_1 a2_2).bind fun t444 => (some t444)) else (some false)))))))))))))) = some r := H
      have A67 := Aside0.mk A670
      clear A670
      replace H := Option.bind_eq_some_iff.mp H
      obtain ⟨⟨t433, t434, t435⟩, A680, H⟩ := H
      replace H : ((dec_Cmp.f kj33 t430 t431 t432 t433 t434 t435).bind fun t436 => ((dec_Dec_Abs.f kj33 t420 t421 t422).bind fun bt437 => ((florinlaw03_twice.f kj33 bt437.1 bt437.2.1 bt437.2.2).bind fun bt440 => ((dec_Cmp.f kj33 bt440.1 bt440.2.1 bt440.2.2 a2_0 a2_1 a2_2).bind fun t443 => (if a3 = 3 then (some (decide (t436 > 0))) else (if a3 = 4 then (some (!(decide (t436 > 0)))) else (if a3 = 5 then (some t420) else (if a3 = 6 then (some (!t420)) else (if a3 = 1 then (if t443 < 0 then (some true) else (if t443 = 0 then (some (decide (t436 > 0))) else (some false))) else (if a3 = 2 then (if t443 < 0 then (some true) else (if t443 = 0 then (some (!(decide (t436 > 0)))) else (some false))) else (if t443 < 0 then (some true) else (if t443 = 0 then ((florinlaw03_even.f kj33 a1_0 a1_1 a1_2 a2_0 a2_1 a2_2).bind fun t444 => (some t444)) else (some false))))))))))))) = some r := H
      have A68 := Aside0.mk A680
      clear A680
      replace H := Option.bind_eq_some_iff.mp H
      obtain ⟨t436, A690, H⟩ := H
      replace H : ((dec_Dec_Abs.f kj33 t420 t421 t422).bind fun bt437 => ((florinlaw03_twice.f kj33 bt437.1 bt437.2.1 bt437.2.2).bind fun bt440 => ((dec_Cmp.f kj33 bt440.1 bt440.2.1 bt440.2.2 a2_0 a2_1 a2_2).bind fun t443 => (if a3 = 3 then (some (decide (t436 > 0))) else (if a3 = 4 then (some (!(decide (t436 > 0)))) else (if a3 = 5 then (some t420) else (if a3 = 6 then (some (!t420)) else (if a3 = 1 then (if t443 < 0 then (some true) else (if t443 = 0 then (some (decide (t436 > 0))) else (some false))) else (if a3 = 2 then (if t443 < 0 then (some true) else (if t443 = 0 then (some (!(decide (t436 > 0)))) else (some false))) else (if t443 < 0 then (some true) else (if t443 = 0 then ((florinlaw03_even.f kj33 a1_0 a1_1 a1_2 a2_0 a2_1 a2_2).bind fun t444 => (some t444)) else (some false)))))))))))) = some r := H
      have A69 := Aside0.mk A690
      clear A690
      replace H := Option.bind_eq_some_iff.mp H
      obtain ⟨⟨t437, t438, t439⟩, A700, H⟩ := H
      replace H : ((florinlaw03_twice.f kj33 t437 t438 t439).bind fun bt440 => ((dec_Cmp.f kj33 bt440.1 bt440.2.1 bt440.2.2 a2_0 a2_1 a2_2).bind fun t443 => (if a3 = 3 then (some (decide (t436 > 0))) else (if a3 = 4 then (some (!(decide (t436 > 0)))) else (if a3 = 5 then (some t420) else (if a3 = 6 then (some (!t420)) else (if a3 = 1 then (if t443 < 0 then (some true) else (if t443 = 0 then (some (decide (t436 > 0))) else (some false))) else (if a3 = 2 then (if t443 < 0 then (some true) else (if t443 = 0 then (some (!(decide (t436 > 0)))) else (some false))) else (if t443 < 0 then (some true) else (if t443 = 0 then ((florinlaw03_even.f kj33 a1_0 a1_1 a1_2 a2_0 a2_1 a2_2).bind fun t444 => (some t444)) else (some false))))))))))) = some r := H
      have A70 := Aside0.mk A700
      clear A700
      replace H := Option.bind_eq_some_iff.mp H
      obtain ⟨⟨t440, t441, t442⟩, A710, H⟩ := H
      replace H : ((dec_Cmp.f kj33 t440 t441 t442 a2_0 a2_1 a2_2).bind fun t443 => (if a3 = 3 then (some (decide (t436 > 0))) else (if a3 = 4 then (some (!(decide (t436 > 0)))) else (if a3 = 5 then (some t420) else (if a3 = 6 then (some (!t420)) else (if a3 = 1 then (if t443 < 0 then (some true) else (if t443 = 0 then (some (decide (t436 > 0))) else (some false))) else (if a3 = 2 then (if t443 < 0 then (some true) else (if t443 = 0 then (some (!(decide (t436 > 0)))) else (some false))) else (if t443 < 0 then (some true) else (if t443 = 0 then ((florinlaw03_even.f kj33 a1_0 a1_1 a1_2 a2_0 a2_1 a2_2).bind fun t444 => (some t444)) else (some false)))))))))) = some r := H
      have A71 := Aside0.mk A710
      clear A710
      replace H := Option.bind_eq_some_iff.mp H
      obtain ⟨t443, A720, H⟩ := H
      replace H : (if a3 = 3 then (some (decide (t436 > 0))) else (if a3 = 4 then (some (!(decide (t436 > 0)))) else (if a3 = 5 then (some t420) else (if a3 = 6 then (some (!t420)) else (if a3 = 1 then (if t443 < 0 then (some true) else (if t443 = 0 then (some (decide (t436 > 0))) else (some false))) else (if a3 = 2 then (if t443 < 0 then (some true) else (if t443 = 0 then (some (!(decide (t436 > 0)))) else (some false))) else (if t443 < 0 then (some true) else (if t443 = 0 then ((florinlaw03_even.f kj33 a1_0 a1_1 a1_2 a2_0 a2_1 a2_2).bind fun t444 => (some t444)) else (some false))))))))) = some r := H
      have A72 := Aside0.mk A720
      clear A720
      by_cases c73 : a3 = 3
      ·rw [if_pos c73] at H
       have c73b0 : (a3 == 3) = true := beq_iff_eq.mpr c73
       have c73b1 : (a3 != 3) = false := bne_eq_false_iff_eq.mpr c73
       clear c73
       obtain rfl := Option.some.inj H
       try go_wp2
       replace BK413 := Aside0.mk (blk_drew BK413.out)
       replace BK414 := Aside0.mk (blk_drew BK414.out)
       replace BK415 := Aside0.mk (blk_drew BK415.out)
       replace BK423 := Aside0.mk (blk_drew BK423.out)
       replace HB := Aside0.mk (below_drew1 HB.out)
       refine start_ (n := 7) (S := fun w' => w'.cell? ⟨gb414, 0, none⟩ = some (.bool a1_0) ∧ w'.cell? ⟨gb414, 1, none⟩ = some (.string a1_1) ∧ w'.cell? ⟨gb414, 2, none⟩ = some (.int .i64 a1_2) ∧ w'.cell? ⟨gb413, 0, none⟩ = some (.bool t416) ∧ w'.cell? ⟨gb413, 1, none⟩ = some (.string t417) ∧ w'.cell? ⟨gb413, 2, none⟩ = some (.int .i64 t418)) (ds := []) #[false, false, false, false, false, false, false] (by kernel_rfl) rfl rfl ⟨bc_ BK414 0, bc_ BK414 1, bc_ BK414 2, bc_ BK413 0, bc_ BK413 1, bc_ BK413 2⟩ (fun hHeld => ?_)
       generalize wc.drew = w74 at BK413 BK414 BK415 BK423 HB hHeld ⊢
       refine tk0_ 0 36 #[true, false, false, false, false, false, false] hHeld rfl (by rintro w' ⟨s0, s1, s2, s3, s4, s5⟩; go_simp; with_reducible rfl) ?_
       refine tk0_ 2 38 #[true, false, true, false, false, false, false] hHeld rfl (by rintro w' ⟨s0, s1, s2, s3, s4, s5⟩; go_simp; with_reducible rfl) ?_
       refine one_ (i := 1) (N := some 37) #[true, true, true, false, false, false, false] rfl rfl (by kernel_rfl) (by decide) (fun K hK => ?_)
       refine gs_ Tryz.func34 #[.agg #[.bool a1_0, .string a1_1, .int .i64 a1_2]] ?_
       with_reducible refine (dec_Dec_Abs.calls kj33 a1_0 a1_1 a1_2 t430 t431 t432 _ A67.out).mono ?_
       rintro e w75 ⟨rfl, hb⟩
       refine ⟨_, rfl, ?_⟩
       replace BK413 := bb_ BK413 hb
       replace BK414 := bb_ BK414 hb
       replace BK415 := bb_ BK415 hb
       replace BK423 := bb_ BK423 hb
       replace HB := Aside0.mk (below_step (bl_ HB).out hb)
       (try clear hb)
       (try clear hb2)
       (try clear hk)
       (try clear hi)
       refine hK.out _ _ ⟨bc_ BK414 0, bc_ BK414 1, bc_ BK414 2, bc_ BK413 0, bc_ BK413 1, bc_ BK413 2⟩ (fun hHeld => ?_)
       clear hK K
       refine nm_ 37 ?_
       refine one_ (i := 3) (N := some 39) #[true, true, true, true, false, false, false] rfl rfl (by kernel_rfl) (by decide) (fun K hK => ?_)
       refine gs_ Tryz.func34 #[.agg #[.bool t416, .string t417, .int .i64 t418]] ?_
       with_reducible refine (dec_Dec_Abs.calls kj33 t416 t417 t418 t433 t434 t435 _ A68.out).mono ?_
       rintro e w76 ⟨rfl, hb⟩
       refine ⟨_, rfl, ?_⟩
       replace BK413 := bb_ BK413 hb
       replace BK414 := bb_ BK414 hb
       replace BK415 := bb_ BK415 hb
       replace BK423 := bb_ BK423 hb
       replace HB := Aside0.mk (below_step (bl_ HB).out hb)
       (try clear hb)
       (try clear hb2)
       (try clear hk)
       (try clear hi)
       refine hK.out _ _ ⟨bc_ BK414 0, bc_ BK414 1, bc_ BK414 2, bc_ BK413 0, bc_ BK413 1, bc_ BK413 2⟩ (fun hHeld => ?_)
       clear hK K
       refine nm_ 39 ?_
       refine one_ (i := 4) (N := some 40) #[true, true, true, true, true, false, false] rfl rfl (by kernel_rfl) (by decide) (fun K hK => ?_)
       refine gs_ Tryz.func33 #[.agg #[.bool t430, .string t431, .int .i64 t432], .agg #[.bool t433, .string t434, .int .i64 t435]] ?_
       with_reducible refine (dec_Cmp.calls kj33 t430 t431 t432 t433 t434 t435 t436 _ A69.out).mono ?_
       rintro e w77 ⟨rfl, hb⟩
       refine ⟨_, rfl, ?_⟩
       replace BK413 := bb_ BK413 hb
       replace BK414 := bb_ BK414 hb
       replace BK415 := bb_ BK415 hb
       replace BK423 := bb_ BK423 hb
       replace HB := Aside0.mk (below_step (bl_ HB).out hb)
       (try clear hb)
       (try clear hb2)
       (try clear hk)
       (try clear hi)
       refine hK.out _ _ ⟨bc_ BK414 0, bc_ BK414 1, bc_ BK414 2, bc_ BK413 0, bc_ BK413 1, bc_ BK413 2⟩ (fun hHeld => ?_)
       clear hK K
       refine nm_ 40 ?_
       refine pu0_ 5 41 #[true, true, true, true, true, true, false] ?_
       refine pu0_ 6 10 #[true, true, true, true, true, true, true] ?_
       refine done_ (by kernel_rfl) ?_
       try go_wp2
       replace BK413 := Aside0.mk (blk_drew BK413.out)
       replace BK414 := Aside0.mk (blk_drew BK414.out)
       replace BK415 := Aside0.mk (blk_drew BK415.out)
       replace BK423 := Aside0.mk (blk_drew BK423.out)
       replace HB := Aside0.mk (below_drew1 HB.out)
       refine start_ (n := 6) (S := fun w' => w'.cell? ⟨gb423, 0, none⟩ = some (.bool t420) ∧ w'.cell? ⟨gb423, 1, none⟩ = some (.string t421) ∧ w'.cell? ⟨gb423, 2, none⟩ = some (.int .i64 t422) ∧ w'.cell? ⟨gb415, 0, none⟩ = some (.bool a2_0) ∧ w'.cell? ⟨gb415, 1, none⟩ = some (.string a2_1) ∧ w'.cell? ⟨gb415, 2, none⟩ = some (.int .i64 a2_2)) (ds := []) #[false, false, false, false, false, false] (by kernel_rfl) rfl rfl ⟨bc_ BK423 0, bc_ BK423 1, bc_ BK423 2, bc_ BK415 0, bc_ BK415 1, bc_ BK415 2⟩ (fun hHeld => ?_)
       generalize w77.drew = w78 at BK413 BK414 BK415 BK423 HB hHeld ⊢
       refine tk0_ 0 42 #[true, false, false, false, false, false] hHeld rfl (by rintro w' ⟨s0, s1, s2, s3, s4, s5⟩; go_simp; with_reducible rfl) ?_
       refine tk0_ 3 45 #[true, false, false, true, false, false] hHeld rfl (by rintro w' ⟨s0, s1, s2, s3, s4, s5⟩; go_simp; with_reducible rfl) ?_
       refine one_ (i := 1) (N := some 43) #[true, true, false, true, false, false] rfl rfl (by kernel_rfl) (by decide) (fun K hK => ?_)
       refine gs_ Tryz.func34 #[.agg #[.bool t420, .string t421, .int .i64 t422]] ?_
       with_reducible refine (dec_Dec_Abs.calls kj33 t420 t421 t422 t437 t438 t439 _ A70.out).mono ?_
       rintro e w79 ⟨rfl, hb⟩
       refine ⟨_, rfl, ?_⟩
       replace BK413 := bb_ BK413 hb
       replace BK414 := bb_ BK414 hb
       replace BK415 := bb_ BK415 hb
       replace BK423 := bb_ BK423 hb
       replace HB := Aside0.mk (below_step (bl_ HB).out hb)
       (try clear hb)
       (try clear hb2)
       (try clear hk)
       (try clear hi)
       refine hK.out _ _ ⟨bc_ BK423 0, bc_ BK423 1, bc_ BK423 2, bc_ BK415 0, bc_ BK415 1, bc_ BK415 2⟩ (fun hHeld => ?_)
       clear hK K
       refine nm_ 43 ?_
       refine one_ (i := 2) (N := some 44) #[true, true, true, true, false, false] rfl rfl (by kernel_rfl) (by decide) (fun K hK => ?_)
       refine gs_ Tryz.func35 #[.agg #[.bool t437, .string t438, .int .i64 t439]] ?_
       with_reducible refine (florinlaw03_twice.calls kj33 t437 t438 t439 t440 t441 t442 _ A71.out).mono ?_
       rintro e w80 ⟨rfl, hb⟩
       refine ⟨_, rfl, ?_⟩
       replace BK413 := bb_ BK413 hb
       replace BK414 := bb_ BK414 hb
       replace BK415 := bb_ BK415 hb
       replace BK423 := bb_ BK423 hb
       replace HB := Aside0.mk (below_step (bl_ HB).out hb)
       (try clear hb)
       (try clear hb2)
       (try clear hk)
       (try clear hi)
       refine hK.out _ _ ⟨bc_ BK423 0, bc_ BK423 1, bc_ BK423 2, bc_ BK415 0, bc_ BK415 1, bc_ BK415 2⟩ (fun hHeld => ?_)
       clear hK K
       refine nm_ 44 ?_
       refine one_ (i := 4) (N := some 46) #[true, true, true, true, true, false] rfl rfl (by kernel_rfl) (by decide) (fun K hK => ?_)
       refine gs_ Tryz.func33 #[.agg #[.bool t440, .string t441, .int .i64 t442], .agg #[.bool a2_0, .string a2_1, .int .i64 a2_2]] ?_
       with_reducible refine (dec_Cmp.calls kj33 t440 t441 t442 a2_0 a2_1 a2_2 t443 _ A72.out).mono ?_
       rintro e w81 ⟨rfl, hb⟩
       refine ⟨_, rfl, ?_⟩
       replace BK413 := bb_ BK413 hb
       replace BK414 := bb_ BK414 hb
       replace BK415 := bb_ BK415 hb
       replace BK423 := bb_ BK423 hb
       replace HB := Aside0.mk (below_step (bl_ HB).out hb)
       (try clear hb)
       (try clear hb2)
       (try clear hk)
       (try clear hi)
       refine hK.out _ _ ⟨bc_ BK423 0, bc_ BK423 1, bc_ BK423 2, bc_ BK415 0, bc_ BK415 1, bc_ BK415 2⟩ (fun hHeld => ?_)
       clear hK K
       refine nm_ 46 ?_
       refine pu0_ 5 11 #[true, true, true, true, true, true] ?_
       refine done_ (by kernel_rfl) ?_
       try go_wp2
       go_ret
       exact ⟨ew_, (bl_ HB).out⟩
      ·rw [if_neg c73] at H
       have c73b0 : (a3 == 3) = false := beq_eq_false_iff_ne.mpr c73
       have c73b1 : (a3 != 3) = true := bne_iff_ne.mpr c73
       by_cases c82 : a3 = 4
       ·rw [if_pos c82] at H
        have c82b0 : (a3 == 4) = true := beq_iff_eq.mpr c82
        have c82b1 : (a3 != 4) = false := bne_eq_false_iff_eq.mpr c82
        clear c82
        obtain rfl := Option.some.inj H
        try go_wp2
        replace BK413 := Aside0.mk (blk_drew BK413.out)
        replace BK414 := Aside0.mk (blk_drew BK414.out)
        replace BK415 := Aside0.mk (blk_drew BK415.out)
        replace BK423 := Aside0.mk (blk_drew BK423.out)
        replace HB := Aside0.mk (below_drew1 HB.out)
        refine start_ (n := 7) (S := fun w' => w'.cell? ⟨gb414, 0, none⟩ = some (.bool a1_0) ∧ w'.cell? ⟨gb414, 1, none⟩ = some (.string a1_1) ∧ w'.cell? ⟨gb414, 2, none⟩ = some (.int .i64 a1_2) ∧ w'.cell? ⟨gb413, 0, none⟩ = some (.bool t416) ∧ w'.cell? ⟨gb413, 1, none⟩ = some (.string t417) ∧ w'.cell? ⟨gb413, 2, none⟩ = some (.int .i64 t418)) (ds := []) #[false, false, false, false, false, false, false] (by kernel_rfl) rfl rfl ⟨bc_ BK414 0, bc_ BK414 1, bc_ BK414 2, bc_ BK413 0, bc_ BK413 1, bc_ BK413 2⟩ (fun hHeld => ?_)
        generalize wc.drew = w83 at BK413 BK414 BK415 BK423 HB hHeld ⊢
        refine tk0_ 0 36 #[true, false, false, false, false, false, false] hHeld rfl (by rintro w' ⟨s0, s1, s2, s3, s4, s5⟩; go_simp; with_reducible rfl) ?_
        refine tk0_ 2 38 #[true, false, true, false, false, false, false] hHeld rfl (by rintro w' ⟨s0, s1, s2, s3, s4, s5⟩; go_simp; with_reducible rfl) ?_
        refine one_ (i := 1) (N := some 37) #[true, true, true, false, false, false, false] rfl rfl (by kernel_rfl) (by decide) (fun K hK => ?_)
        refine gs_ Tryz.func34 #[.agg #[.bool a1_0, .string a1_1, .int .i64 a1_2]] ?_
        with_reducible refine (dec_Dec_Abs.calls kj33 a1_0 a1_1 a1_2 t430 t431 t432 _ A67.out).mono ?_
        rintro e w84 ⟨rfl, hb⟩
        refine ⟨_, rfl, ?_⟩
        replace BK413 := bb_ BK413 hb
        replace BK414 := bb_ BK414 hb
        replace BK415 := bb_ BK415 hb
        replace BK423 := bb_ BK423 hb
        replace HB := Aside0.mk (below_step (bl_ HB).out hb)
        (try clear hb)
        (try clear hb2)
        (try clear hk)
        (try clear hi)
        refine hK.out _ _ ⟨bc_ BK414 0, bc_ BK414 1, bc_ BK414 2, bc_ BK413 0, bc_ BK413 1, bc_ BK413 2⟩ (fun hHeld => ?_)
        clear hK K
        refine nm_ 37 ?_
        refine one_ (i := 3) (N := some 39) #[true, true, true, true, false, false, false] rfl rfl (by kernel_rfl) (by decide) (fun K hK => ?_)
        refine gs_ Tryz.func34 #[.agg #[.bool t416, .string t417, .int .i64 t418]] ?_
        with_reducible refine (dec_Dec_Abs.calls kj33 t416 t417 t418 t433 t434 t435 _ A68.out).mono ?_
        rintro e w85 ⟨rfl, hb⟩
        refine ⟨_, rfl, ?_⟩
        replace BK413 := bb_ BK413 hb
        replace BK414 := bb_ BK414 hb
        replace BK415 := bb_ BK415 hb
        replace BK423 := bb_ BK423 hb
        replace HB := Aside0.mk (below_step (bl_ HB).out hb)
        (try clear hb)
        (try clear hb2)
        (try clear hk)
        (try clear hi)
        refine hK.out _ _ ⟨bc_ BK414 0, bc_ BK414 1, bc_ BK414 2, bc_ BK413 0, bc_ BK413 1, bc_ BK413 2⟩ (fun hHeld => ?_)
        clear hK K
        refine nm_ 39 ?_
        refine one_ (i := 4) (N := some 40) #[true, true, true, true, true, false, false] rfl rfl (by kernel_rfl) (by decide) (fun K hK => ?_)
        refine gs_ Tryz.func33 #[.agg #[.bool t430, .string t431, .int .i64 t432], .agg #[.bool t433, .string t434, .int .i64 t435]] ?_
        with_reducible refine (dec_Cmp.calls kj33 t430 t431 t432 t433 t434 t435 t436 _ A69.out).mono ?_
        rintro e w86 ⟨rfl, hb⟩
        refine ⟨_, rfl, ?_⟩
        replace BK413 := bb_ BK413 hb
        replace BK414 := bb_ BK414 hb
        replace BK415 := bb_ BK415 hb
        replace BK423 := bb_ BK423 hb
        replace HB := Aside0.mk (below_step (bl_ HB).out hb)
        (try clear hb)
        (try clear hb2)
        (try clear hk)
        (try clear hi)
        refine hK.out _ _ ⟨bc_ BK414 0, bc_ BK414 1, bc_ BK414 2, bc_ BK413 0, bc_ BK413 1, bc_ BK413 2⟩ (fun hHeld => ?_)
        clear hK K
        refine nm_ 40 ?_
        refine pu0_ 5 41 #[true, true, true, true, true, true, false] ?_
        refine pu0_ 6 10 #[true, true, true, true, true, true, true] ?_
        refine done_ (by kernel_rfl) ?_
        try go_wp2
        replace BK413 := Aside0.mk (blk_drew BK413.out)
        replace BK414 := Aside0.mk (blk_drew BK414.out)
        replace BK415 := Aside0.mk (blk_drew BK415.out)
        replace BK423 := Aside0.mk (blk_drew BK423.out)
        replace HB := Aside0.mk (below_drew1 HB.out)
        refine start_ (n := 6) (S := fun w' => w'.cell? ⟨gb423, 0, none⟩ = some (.bool t420) ∧ w'.cell? ⟨gb423, 1, none⟩ = some (.string t421) ∧ w'.cell? ⟨gb423, 2, none⟩ = some (.int .i64 t422) ∧ w'.cell? ⟨gb415, 0, none⟩ = some (.bool a2_0) ∧ w'.cell? ⟨gb415, 1, none⟩ = some (.string a2_1) ∧ w'.cell? ⟨gb415, 2, none⟩ = some (.int .i64 a2_2)) (ds := []) #[false, false, false, false, false, false] (by kernel_rfl) rfl rfl ⟨bc_ BK423 0, bc_ BK423 1, bc_ BK423 2, bc_ BK415 0, bc_ BK415 1, bc_ BK415 2⟩ (fun hHeld => ?_)
        generalize w86.drew = w87 at BK413 BK414 BK415 BK423 HB hHeld ⊢
        refine tk0_ 0 42 #[true, false, false, false, false, false] hHeld rfl (by rintro w' ⟨s0, s1, s2, s3, s4, s5⟩; go_simp; with_reducible rfl) ?_
        refine tk0_ 3 45 #[true, false, false, true, false, false] hHeld rfl (by rintro w' ⟨s0, s1, s2, s3, s4, s5⟩; go_simp; with_reducible rfl) ?_
        refine one_ (i := 1) (N := some 43) #[true, true, false, true, false, false] rfl rfl (by kernel_rfl) (by decide) (fun K hK => ?_)
        refine gs_ Tryz.func34 #[.agg #[.bool t420, .string t421, .int .i64 t422]] ?_
        with_reducible refine (dec_Dec_Abs.calls kj33 t420 t421 t422 t437 t438 t439 _ A70.out).mono ?_
        rintro e w88 ⟨rfl, hb⟩
        refine ⟨_, rfl, ?_⟩
        replace BK413 := bb_ BK413 hb
        replace BK414 := bb_ BK414 hb
        replace BK415 := bb_ BK415 hb
        replace BK423 := bb_ BK423 hb
        replace HB := Aside0.mk (below_step (bl_ HB).out hb)
        (try clear hb)
        (try clear hb2)
        (try clear hk)
        (try clear hi)
        refine hK.out _ _ ⟨bc_ BK423 0, bc_ BK423 1, bc_ BK423 2, bc_ BK415 0, bc_ BK415 1, bc_ BK415 2⟩ (fun hHeld => ?_)
        clear hK K
        refine nm_ 43 ?_
        refine one_ (i := 2) (N := some 44) #[true, true, true, true, false, false] rfl rfl (by kernel_rfl) (by decide) (fun K hK => ?_)
        refine gs_ Tryz.func35 #[.agg #[.bool t437, .string t438, .int .i64 t439]] ?_
        with_reducible refine (florinlaw03_twice.calls kj33 t437 t438 t439 t440 t441 t442 _ A71.out).mono ?_
        rintro e w89 ⟨rfl, hb⟩
        refine ⟨_, rfl, ?_⟩
        replace BK413 := bb_ BK413 hb
        replace BK414 := bb_ BK414 hb
        replace BK415 := bb_ BK415 hb
        replace BK423 := bb_ BK423 hb
        replace HB := Aside0.mk (below_step (bl_ HB).out hb)
        (try clear hb)
        (try clear hb2)
        (try clear hk)
        (try clear hi)
        refine hK.out _ _ ⟨bc_ BK423 0, bc_ BK423 1, bc_ BK423 2, bc_ BK415 0, bc_ BK415 1, bc_ BK415 2⟩ (fun hHeld => ?_)
        clear hK K
        refine nm_ 44 ?_
        refine one_ (i := 4) (N := some 46) #[true, true, true, true, true, false] rfl rfl (by kernel_rfl) (by decide) (fun K hK => ?_)
        refine gs_ Tryz.func33 #[.agg #[.bool t440, .string t441, .int .i64 t442], .agg #[.bool a2_0, .string a2_1, .int .i64 a2_2]] ?_
        with_reducible refine (dec_Cmp.calls kj33 t440 t441 t442 a2_0 a2_1 a2_2 t443 _ A72.out).mono ?_
        rintro e w90 ⟨rfl, hb⟩
        refine ⟨_, rfl, ?_⟩
        replace BK413 := bb_ BK413 hb
        replace BK414 := bb_ BK414 hb
        replace BK415 := bb_ BK415 hb
        replace BK423 := bb_ BK423 hb
        replace HB := Aside0.mk (below_step (bl_ HB).out hb)
        (try clear hb)
        (try clear hb2)
        (try clear hk)
        (try clear hi)
        refine hK.out _ _ ⟨bc_ BK423 0, bc_ BK423 1, bc_ BK423 2, bc_ BK415 0, bc_ BK415 1, bc_ BK415 2⟩ (fun hHeld => ?_)
        clear hK K
        refine nm_ 46 ?_
        refine pu0_ 5 11 #[true, true, true, true, true, true] ?_
        refine done_ (by kernel_rfl) ?_
        try go_wp2
        go_ret
        exact ⟨ew_, (bl_ HB).out⟩
       ·rw [if_neg c82] at H
        have c82b0 : (a3 == 4) = false := beq_eq_false_iff_ne.mpr c82
        have c82b1 : (a3 != 4) = true := bne_iff_ne.mpr c82
        by_cases c91 : a3 = 5
        ·rw [if_pos c91] at H
         have c91b0 : (a3 == 5) = true := beq_iff_eq.mpr c91
         have c91b1 : (a3 != 5) = false := bne_eq_false_iff_eq.mpr c91
         clear c91
         obtain rfl := Option.some.inj H
         try go_wp2
         replace BK413 := Aside0.mk (blk_drew BK413.out)
         replace BK414 := Aside0.mk (blk_drew BK414.out)
         replace BK415 := Aside0.mk (blk_drew BK415.out)
         replace BK423 := Aside0.mk (blk_drew BK423.out)
         replace HB := Aside0.mk (below_drew1 HB.out)
         refine start_ (n := 7) (S := fun w' => w'.cell? ⟨gb414, 0, none⟩ = some (.bool a1_0) ∧ w'.cell? ⟨gb414, 1, none⟩ = some (.string a1_1) ∧ w'.cell? ⟨gb414, 2, none⟩ = some (.int .i64 a1_2) ∧ w'.cell? ⟨gb413, 0, none⟩ = some (.bool t416) ∧ w'.cell? ⟨gb413, 1, none⟩ = some (.string t417) ∧ w'.cell? ⟨gb413, 2, none⟩ = some (.int .i64 t418)) (ds := []) #[false, false, false, false, false, false, false] (by kernel_rfl) rfl rfl ⟨bc_ BK414 0, bc_ BK414 1, bc_ BK414 2, bc_ BK413 0, bc_ BK413 1, bc_ BK413 2⟩ (fun hHeld => ?_)
         generalize wc.drew = w92 at BK413 BK414 BK415 BK423 HB hHeld ⊢
         refine tk0_ 0 36 #[true, false, false, false, false, false, false] hHeld rfl (by rintro w' ⟨s0, s1, s2, s3, s4, s5⟩; go_simp; with_reducible rfl) ?_
         refine tk0_ 2 38 #[true, false, true, false, false, false, false] hHeld rfl (by rintro w' ⟨s0, s1, s2, s3, s4, s5⟩; go_simp; with_reducible rfl) ?_
         refine one_ (i := 1) (N := some 37) #[true, true, true, false, false, false, false] rfl rfl (by kernel_rfl) (by decide) (fun K hK => ?_)
         refine gs_ Tryz.func34 #[.agg #[.bool a1_0, .string a1_1, .int .i64 a1_2]] ?_
         with_reducible refine (dec_Dec_Abs.calls kj33 a1_0 a1_1 a1_2 t430 t431 t432 _ A67.out).mono ?_
         rintro e w93 ⟨rfl, hb⟩
         refine ⟨_, rfl, ?_⟩
         replace BK413 := bb_ BK413 hb
         replace BK414 := bb_ BK414 hb
         replace BK415 := bb_ BK415 hb
         replace BK423 := bb_ BK423 hb
         replace HB := Aside0.mk (below_step (bl_ HB).out hb)
         (try clear hb)
         (try clear hb2)
         (try clear hk)
         (try clear hi)
         refine hK.out _ _ ⟨bc_ BK414 0, bc_ BK414 1, bc_ BK414 2, bc_ BK413 0, bc_ BK413 1, bc_ BK413 2⟩ (fun hHeld => ?_)
         clear hK K
         refine nm_ 37 ?_
         refine one_ (i := 3) (N := some 39) #[true, true, true, true, false, false, false] rfl rfl (by kernel_rfl) (by decide) (fun K hK => ?_)
         refine gs_ Tryz.func34 #[.agg #[.bool t416, .string t417, .int .i64 t418]] ?_
         with_reducible refine (dec_Dec_Abs.calls kj33 t416 t417 t418 t433 t434 t435 _ A68.out).mono ?_
         rintro e w94 ⟨rfl, hb⟩
         refine ⟨_, rfl, ?_⟩
         replace BK413 := bb_ BK413 hb
         replace BK414 := bb_ BK414 hb
         replace BK415 := bb_ BK415 hb
         replace BK423 := bb_ BK423 hb
         replace HB := Aside0.mk (below_step (bl_ HB).out hb)
         (try clear hb)
         (try clear hb2)
         (try clear hk)
         (try clear hi)
         refine hK.out _ _ ⟨bc_ BK414 0, bc_ BK414 1, bc_ BK414 2, bc_ BK413 0, bc_ BK413 1, bc_ BK413 2⟩ (fun hHeld => ?_)
         clear hK K
         refine nm_ 39 ?_
         refine one_ (i := 4) (N := some 40) #[true, true, true, true, true, false, false] rfl rfl (by kernel_rfl) (by decide) (fun K hK => ?_)
         refine gs_ Tryz.func33 #[.agg #[.bool t430, .string t431, .int .i64 t432], .agg #[.bool t433, .string t434, .int .i64 t435]] ?_
         with_reducible refine (dec_Cmp.calls kj33 t430 t431 t432 t433 t434 t435 t436 _ A69.out).mono ?_
         rintro e w95 ⟨rfl, hb⟩
         refine ⟨_, rfl, ?_⟩
         replace BK413 := bb_ BK413 hb
         replace BK414 := bb_ BK414 hb
         replace BK415 := bb_ BK415 hb
         replace BK423 := bb_ BK423 hb
         replace HB := Aside0.mk (below_step (bl_ HB).out hb)
         (try clear hb)
         (try clear hb2)
         (try clear hk)
         (try clear hi)
         refine hK.out _ _ ⟨bc_ BK414 0, bc_ BK414 1, bc_ BK414 2, bc_ BK413 0, bc_ BK413 1, bc_ BK413 2⟩ (fun hHeld => ?_)
         clear hK K
         refine nm_ 40 ?_
         refine pu0_ 5 41 #[true, true, true, true, true, true, false] ?_
         refine pu0_ 6 10 #[true, true, true, true, true, true, true] ?_
         refine done_ (by kernel_rfl) ?_
         try go_wp2
         replace BK413 := Aside0.mk (blk_drew BK413.out)
         replace BK414 := Aside0.mk (blk_drew BK414.out)
         replace BK415 := Aside0.mk (blk_drew BK415.out)
         replace BK423 := Aside0.mk (blk_drew BK423.out)
         replace HB := Aside0.mk (below_drew1 HB.out)
         refine start_ (n := 6) (S := fun w' => w'.cell? ⟨gb423, 0, none⟩ = some (.bool t420) ∧ w'.cell? ⟨gb423, 1, none⟩ = some (.string t421) ∧ w'.cell? ⟨gb423, 2, none⟩ = some (.int .i64 t422) ∧ w'.cell? ⟨gb415, 0, none⟩ = some (.bool a2_0) ∧ w'.cell? ⟨gb415, 1, none⟩ = some (.string a2_1) ∧ w'.cell? ⟨gb415, 2, none⟩ = some (.int .i64 a2_2)) (ds := []) #[false, false, false, false, false, false] (by kernel_rfl) rfl rfl ⟨bc_ BK423 0, bc_ BK423 1, bc_ BK423 2, bc_ BK415 0, bc_ BK415 1, bc_ BK415 2⟩ (fun hHeld => ?_)
         generalize w95.drew = w96 at BK413 BK414 BK415 BK423 HB hHeld ⊢
         refine tk0_ 0 42 #[true, false, false, false, false, false] hHeld rfl (by rintro w' ⟨s0, s1, s2, s3, s4, s5⟩; go_simp; with_reducible rfl) ?_
         refine tk0_ 3 45 #[true, false, false, true, false, false] hHeld rfl (by rintro w' ⟨s0, s1, s2, s3, s4, s5⟩; go_simp; with_reducible rfl) ?_
         refine one_ (i := 1) (N := some 43) #[true, true, false, true, false, false] rfl rfl (by kernel_rfl) (by decide) (fun K hK => ?_)
         refine gs_ Tryz.func34 #[.agg #[.bool t420, .string t421, .int .i64 t422]] ?_
         with_reducible refine (dec_Dec_Abs.calls kj33 t420 t421 t422 t437 t438 t439 _ A70.out).mono ?_
         rintro e w97 ⟨rfl, hb⟩
         refine ⟨_, rfl, ?_⟩
         replace BK413 := bb_ BK413 hb
         replace BK414 := bb_ BK414 hb
         replace BK415 := bb_ BK415 hb
         replace BK423 := bb_ BK423 hb
         replace HB := Aside0.mk (below_step (bl_ HB).out hb)
         (try clear hb)
         (try clear hb2)
         (try clear hk)
         (try clear hi)
         refine hK.out _ _ ⟨bc_ BK423 0, bc_ BK423 1, bc_ BK423 2, bc_ BK415 0, bc_ BK415 1, bc_ BK415 2⟩ (fun hHeld => ?_)
         clear hK K
         refine nm_ 43 ?_
         refine one_ (i := 2) (N := some 44) #[true, true, true, true, false, false] rfl rfl (by kernel_rfl) (by decide) (fun K hK => ?_)
         refine gs_ Tryz.func35 #[.agg #[.bool t437, .string t438, .int .i64 t439]] ?_
         with_reducible refine (florinlaw03_twice.calls kj33 t437 t438 t439 t440 t441 t442 _ A71.out).mono ?_
         rintro e w98 ⟨rfl, hb⟩
         refine ⟨_, rfl, ?_⟩
         replace BK413 := bb_ BK413 hb
         replace BK414 := bb_ BK414 hb
         replace BK415 := bb_ BK415 hb
         replace BK423 := bb_ BK423 hb
         replace HB := Aside0.mk (below_step (bl_ HB).out hb)
         (try clear hb)
         (try clear hb2)
         (try clear hk)
         (try clear hi)
         refine hK.out _ _ ⟨bc_ BK423 0, bc_ BK423 1, bc_ BK423 2, bc_ BK415 0, bc_ BK415 1, bc_ BK415 2⟩ (fun hHeld => ?_)
         clear hK K
         refine nm_ 44 ?_
         refine one_ (i := 4) (N := some 46) #[true, true, true, true, true, false] rfl rfl (by kernel_rfl) (by decide) (fun K hK => ?_)
         refine gs_ Tryz.func33 #[.agg #[.bool t440, .string t441, .int .i64 t442], .agg #[.bool a2_0, .string a2_1, .int .i64 a2_2]] ?_
         with_reducible refine (dec_Cmp.calls kj33 t440 t441 t442 a2_0 a2_1 a2_2 t443 _ A72.out).mono ?_
         rintro e w99 ⟨rfl, hb⟩
         refine ⟨_, rfl, ?_⟩
         replace BK413 := bb_ BK413 hb
         replace BK414 := bb_ BK414 hb
         replace BK415 := bb_ BK415 hb
         replace BK423 := bb_ BK423 hb
         replace HB := Aside0.mk (below_step (bl_ HB).out hb)
         (try clear hb)
         (try clear hb2)
         (try clear hk)
         (try clear hi)
         refine hK.out _ _ ⟨bc_ BK423 0, bc_ BK423 1, bc_ BK423 2, bc_ BK415 0, bc_ BK415 1, bc_ BK415 2⟩ (fun hHeld => ?_)
         clear hK K
         refine nm_ 46 ?_
         refine pu0_ 5 11 #[true, true, true, true, true, true] ?_
         refine done_ (by kernel_rfl) ?_
         have hnb100 := NB423_413.out
         have hnc100 := NB413_423.out
         have hnb101 := NB423_414.out
         have hnc101 := NB414_423.out
         have hnb102 := NB423_415.out
         have hnc102 := NB415_423.out
         obtain ⟨hcz103_0, hcz103_1, hcz103_2, hfz103_0, hfz103_1, hfz103_2⟩ := bo3_ BK423
         try go_wp2
         go_ret
         exact ⟨ew_, (bl_ HB).out⟩
        ·rw [if_neg c91] at H
         have c91b0 : (a3 == 5) = false := beq_eq_false_iff_ne.mpr c91
         have c91b1 : (a3 != 5) = true := bne_iff_ne.mpr c91
         by_cases c104 : a3 = 6
         ·rw [if_pos c104] at H
          have c104b0 : (a3 == 6) = true := beq_iff_eq.mpr c104
          have c104b1 : (a3 != 6) = false := bne_eq_false_iff_eq.mpr c104
          clear c104
          obtain rfl := Option.some.inj H
          try go_wp2
          replace BK413 := Aside0.mk (blk_drew BK413.out)
          replace BK414 := Aside0.mk (blk_drew BK414.out)
          replace BK415 := Aside0.mk (blk_drew BK415.out)
          replace BK423 := Aside0.mk (blk_drew BK423.out)
          replace HB := Aside0.mk (below_drew1 HB.out)
          refine start_ (n := 7) (S := fun w' => w'.cell? ⟨gb414, 0, none⟩ = some (.bool a1_0) ∧ w'.cell? ⟨gb414, 1, none⟩ = some (.string a1_1) ∧ w'.cell? ⟨gb414, 2, none⟩ = some (.int .i64 a1_2) ∧ w'.cell? ⟨gb413, 0, none⟩ = some (.bool t416) ∧ w'.cell? ⟨gb413, 1, none⟩ = some (.string t417) ∧ w'.cell? ⟨gb413, 2, none⟩ = some (.int .i64 t418)) (ds := []) #[false, false, false, false, false, false, false] (by kernel_rfl) rfl rfl ⟨bc_ BK414 0, bc_ BK414 1, bc_ BK414 2, bc_ BK413 0, bc_ BK413 1, bc_ BK413 2⟩ (fun hHeld => ?_)
          generalize wc.drew = w105 at BK413 BK414 BK415 BK423 HB hHeld ⊢
          refine tk0_ 0 36 #[true, false, false, false, false, false, false] hHeld rfl (by rintro w' ⟨s0, s1, s2, s3, s4, s5⟩; go_simp; with_reducible rfl) ?_
          refine tk0_ 2 38 #[true, false, true, false, false, false, false] hHeld rfl (by rintro w' ⟨s0, s1, s2, s3, s4, s5⟩; go_simp; with_reducible rfl) ?_
          refine one_ (i := 1) (N := some 37) #[true, true, true, false, false, false, false] rfl rfl (by kernel_rfl) (by decide) (fun K hK => ?_)
          refine gs_ Tryz.func34 #[.agg #[.bool a1_0, .string a1_1, .int .i64 a1_2]] ?_
          with_reducible refine (dec_Dec_Abs.calls kj33 a1_0 a1_1 a1_2 t430 t431 t432 _ A67.out).mono ?_
          rintro e w106 ⟨rfl, hb⟩
          refine ⟨_, rfl, ?_⟩
          replace BK413 := bb_ BK413 hb
          replace BK414 := bb_ BK414 hb
          replace BK415 := bb_ BK415 hb
          replace BK423 := bb_ BK423 hb
          replace HB := Aside0.mk (below_step (bl_ HB).out hb)
          (try clear hb)
          (try clear hb2)
          (try clear hk)
          (try clear hi)
          refine hK.out _ _ ⟨bc_ BK414 0, bc_ BK414 1, bc_ BK414 2, bc_ BK413 0, bc_ BK413 1, bc_ BK413 2⟩ (fun hHeld => ?_)
          clear hK K
          refine nm_ 37 ?_
          refine one_ (i := 3) (N := some 39) #[true, true, true, true, false, false, false] rfl rfl (by kernel_rfl) (by decide) (fun K hK => ?_)
          refine gs_ Tryz.func34 #[.agg #[.bool t416, .string t417, .int .i64 t418]] ?_
          with_reducible refine (dec_Dec_Abs.calls kj33 t416 t417 t418 t433 t434 t435 _ A68.out).mono ?_
          rintro e w107 ⟨rfl, hb⟩
          refine ⟨_, rfl, ?_⟩
          replace BK413 := bb_ BK413 hb
          replace BK414 := bb_ BK414 hb
          replace BK415 := bb_ BK415 hb
          replace BK423 := bb_ BK423 hb
          replace HB := Aside0.mk (below_step (bl_ HB).out hb)
          (try clear hb)
          (try clear hb2)
          (try clear hk)
          (try clear hi)
          refine hK.out _ _ ⟨bc_ BK414 0, bc_ BK414 1, bc_ BK414 2, bc_ BK413 0, bc_ BK413 1, bc_ BK413 2⟩ (fun hHeld => ?_)
          clear hK K
          refine nm_ 39 ?_
          refine one_ (i := 4) (N := some 40) #[true, true, true, true, true, false, false] rfl rfl (by kernel_rfl) (by decide) (fun K hK => ?_)
          refine gs_ Tryz.func33 #[.agg #[.bool t430, .string t431, .int .i64 t432], .agg #[.bool t433, .string t434, .int .i64 t435]] ?_
          with_reducible refine (dec_Cmp.calls kj33 t430 t431 t432 t433 t434 t435 t436 _ A69.out).mono ?_
          rintro e w108 ⟨rfl, hb⟩
          refine ⟨_, rfl, ?_⟩
          replace BK413 := bb_ BK413 hb
          replace BK414 := bb_ BK414 hb
          replace BK415 := bb_ BK415 hb
          replace BK423 := bb_ BK423 hb
          replace HB := Aside0.mk (below_step (bl_ HB).out hb)
          (try clear hb)
          (try clear hb2)
          (try clear hk)
          (try clear hi)
          refine hK.out _ _ ⟨bc_ BK414 0, bc_ BK414 1, bc_ BK414 2, bc_ BK413 0, bc_ BK413 1, bc_ BK413 2⟩ (fun hHeld => ?_)
          clear hK K
          refine nm_ 40 ?_
          refine pu0_ 5 41 #[true, true, true, true, true, true, false] ?_
          refine pu0_ 6 10 #[true, true, true, true, true, true, true] ?_
          refine done_ (by kernel_rfl) ?_
          try go_wp2
          replace BK413 := Aside0.mk (blk_drew BK413.out)
          replace BK414 := Aside0.mk (blk_drew BK414.out)
          replace BK415 := Aside0.mk (blk_drew BK415.out)
          replace BK423 := Aside0.mk (blk_drew BK423.out)
          replace HB := Aside0.mk (below_drew1 HB.out)
          refine start_ (n := 6) (S := fun w' => w'.cell? ⟨gb423, 0, none⟩ = some (.bool t420) ∧ w'.cell? ⟨gb423, 1, none⟩ = some (.string t421) ∧ w'.cell? ⟨gb423, 2, none⟩ = some (.int .i64 t422) ∧ w'.cell? ⟨gb415, 0, none⟩ = some (.bool a2_0) ∧ w'.cell? ⟨gb415, 1, none⟩ = some (.string a2_1) ∧ w'.cell? ⟨gb415, 2, none⟩ = some (.int .i64 a2_2)) (ds := []) #[false, false, false, false, false, false] (by kernel_rfl) rfl rfl ⟨bc_ BK423 0, bc_ BK423 1, bc_ BK423 2, bc_ BK415 0, bc_ BK415 1, bc_ BK415 2⟩ (fun hHeld => ?_)
          generalize w108.drew = w109 at BK413 BK414 BK415 BK423 HB hHeld ⊢
          refine tk0_ 0 42 #[true, false, false, false, false, false] hHeld rfl (by rintro w' ⟨s0, s1, s2, s3, s4, s5⟩; go_simp; with_reducible rfl) ?_
          refine tk0_ 3 45 #[true, false, false, true, false, false] hHeld rfl (by rintro w' ⟨s0, s1, s2, s3, s4, s5⟩; go_simp; with_reducible rfl) ?_
          refine one_ (i := 1) (N := some 43) #[true, true, false, true, false, false] rfl rfl (by kernel_rfl) (by decide) (fun K hK => ?_)
          refine gs_ Tryz.func34 #[.agg #[.bool t420, .string t421, .int .i64 t422]] ?_
          with_reducible refine (dec_Dec_Abs.calls kj33 t420 t421 t422 t437 t438 t439 _ A70.out).mono ?_
          rintro e w110 ⟨rfl, hb⟩
          refine ⟨_, rfl, ?_⟩
          replace BK413 := bb_ BK413 hb
          replace BK414 := bb_ BK414 hb
          replace BK415 := bb_ BK415 hb
          replace BK423 := bb_ BK423 hb
          replace HB := Aside0.mk (below_step (bl_ HB).out hb)
          (try clear hb)
          (try clear hb2)
          (try clear hk)
          (try clear hi)
          refine hK.out _ _ ⟨bc_ BK423 0, bc_ BK423 1, bc_ BK423 2, bc_ BK415 0, bc_ BK415 1, bc_ BK415 2⟩ (fun hHeld => ?_)
          clear hK K
          refine nm_ 43 ?_
          refine one_ (i := 2) (N := some 44) #[true, true, true, true, false, false] rfl rfl (by kernel_rfl) (by decide) (fun K hK => ?_)
          refine gs_ Tryz.func35 #[.agg #[.bool t437, .string t438, .int .i64 t439]] ?_
          with_reducible refine (florinlaw03_twice.calls kj33 t437 t438 t439 t440 t441 t442 _ A71.out).mono ?_
          rintro e w111 ⟨rfl, hb⟩
          refine ⟨_, rfl, ?_⟩
          replace BK413 := bb_ BK413 hb
          replace BK414 := bb_ BK414 hb
          replace BK415 := bb_ BK415 hb
          replace BK423 := bb_ BK423 hb
          replace HB := Aside0.mk (below_step (bl_ HB).out hb)
          (try clear hb)
          (try clear hb2)
          (try clear hk)
          (try clear hi)
          refine hK.out _ _ ⟨bc_ BK423 0, bc_ BK423 1, bc_ BK423 2, bc_ BK415 0, bc_ BK415 1, bc_ BK415 2⟩ (fun hHeld => ?_)
          clear hK K
          refine nm_ 44 ?_
          refine one_ (i := 4) (N := some 46) #[true, true, true, true, true, false] rfl rfl (by kernel_rfl) (by decide) (fun K hK => ?_)
          refine gs_ Tryz.func33 #[.agg #[.bool t440, .string t441, .int .i64 t442], .agg #[.bool a2_0, .string a2_1, .int .i64 a2_2]] ?_
          with_reducible refine (dec_Cmp.calls kj33 t440 t441 t442 a2_0 a2_1 a2_2 t443 _ A72.out).mono ?_
          rintro e w112 ⟨rfl, hb⟩
          refine ⟨_, rfl, ?_⟩
          replace BK413 := bb_ BK413 hb
          replace BK414 := bb_ BK414 hb
          replace BK415 := bb_ BK415 hb
          replace BK423 := bb_ BK423 hb
          replace HB := Aside0.mk (below_step (bl_ HB).out hb)
          (try clear hb)
          (try clear hb2)
          (try clear hk)
          (try clear hi)
          refine hK.out _ _ ⟨bc_ BK423 0, bc_ BK423 1, bc_ BK423 2, bc_ BK415 0, bc_ BK415 1, bc_ BK415 2⟩ (fun hHeld => ?_)
          clear hK K
          refine nm_ 46 ?_
          refine pu0_ 5 11 #[true, true, true, true, true, true] ?_
          refine done_ (by kernel_rfl) ?_
          have hnb113 := NB423_413.out
          have hnc113 := NB413_423.out
          have hnb114 := NB423_414.out
          have hnc114 := NB414_423.out
          have hnb115 := NB423_415.out
          have hnc115 := NB415_423.out
          obtain ⟨hcz116_0, hcz116_1, hcz116_2, hfz116_0, hfz116_1, hfz116_2⟩ := bo3_ BK423
          try go_wp2
          go_ret
          exact ⟨ew_, (bl_ HB).out⟩
         ·rw [if_neg c104] at H
          have c104b0 : (a3 == 6) = false := beq_eq_false_iff_ne.mpr c104
          have c104b1 : (a3 != 6) = true := bne_iff_ne.mpr c104
          by_cases c117 : a3 = 1
          ·rw [if_pos c117] at H
           have c117b0 : (a3 == 1) = true := beq_iff_eq.mpr c117
           have c117b1 : (a3 != 1) = false := bne_eq_false_iff_eq.mpr c117
           clear c117
           by_cases c118 : t443 < 0
           ·rw [if_pos c118] at H
            have c118b0 : decide (t443 < 0) = true := decide_eq_true c118
            clear c118
            obtain rfl := Option.some.inj H
            try go_wp2
            replace BK413 := Aside0.mk (blk_drew BK413.out)
            replace BK414 := Aside0.mk (blk_drew BK414.out)
            replace BK415 := Aside0.mk (blk_drew BK415.out)
            replace BK423 := Aside0.mk (blk_drew BK423.out)
            replace HB := Aside0.mk (below_drew1 HB.out)
            refine start_ (n := 7) (S := fun w' => w'.cell? ⟨gb414, 0, none⟩ = some (.bool a1_0) ∧ w'.cell? ⟨gb414, 1, none⟩ = some (.string a1_1) ∧ w'.cell? ⟨gb414, 2, none⟩ = some (.int .i64 a1_2) ∧ w'.cell? ⟨gb413, 0, none⟩ = some (.bool t416) ∧ w'.cell? ⟨gb413, 1, none⟩ = some (.string t417) ∧ w'.cell? ⟨gb413, 2, none⟩ = some (.int .i64 t418)) (ds := []) #[false, false, false, false, false, false, false] (by kernel_rfl) rfl rfl ⟨bc_ BK414 0, bc_ BK414 1, bc_ BK414 2, bc_ BK413 0, bc_ BK413 1, bc_ BK413 2⟩ (fun hHeld => ?_)
            generalize wc.drew = w119 at BK413 BK414 BK415 BK423 HB hHeld ⊢
            refine tk0_ 0 36 #[true, false, false, false, false, false, false] hHeld rfl (by rintro w' ⟨s0, s1, s2, s3, s4, s5⟩; go_simp; with_reducible rfl) ?_
            refine tk0_ 2 38 #[true, false, true, false, false, false, false] hHeld rfl (by rintro w' ⟨s0, s1, s2, s3, s4, s5⟩; go_simp; with_reducible rfl) ?_
            refine one_ (i := 1) (N := some 37) #[true, true, true, false, false, false, false] rfl rfl (by kernel_rfl) (by decide) (fun K hK => ?_)
            refine gs_ Tryz.func34 #[.agg #[.bool a1_0, .string a1_1, .int .i64 a1_2]] ?_
            with_reducible refine (dec_Dec_Abs.calls kj33 a1_0 a1_1 a1_2 t430 t431 t432 _ A67.out).mono ?_
            rintro e w120 ⟨rfl, hb⟩
            refine ⟨_, rfl, ?_⟩
            replace BK413 := bb_ BK413 hb
            replace BK414 := bb_ BK414 hb
            replace BK415 := bb_ BK415 hb
            replace BK423 := bb_ BK423 hb
            replace HB := Aside0.mk (below_step (bl_ HB).out hb)
            (try clear hb)
            (try clear hb2)
            (try clear hk)
            (try clear hi)
            refine hK.out _ _ ⟨bc_ BK414 0, bc_ BK414 1, bc_ BK414 2, bc_ BK413 0, bc_ BK413 1, bc_ BK413 2⟩ (fun hHeld => ?_)
            clear hK K
            refine nm_ 37 ?_
            refine one_ (i := 3) (N := some 39) #[true, true, true, true, false, false, false] rfl rfl (by kernel_rfl) (by decide) (fun K hK => ?_)
            refine gs_ Tryz.func34 #[.agg #[.bool t416, .string t417, .int .i64 t418]] ?_
            with_reducible refine (dec_Dec_Abs.calls kj33 t416 t417 t418 t433 t434 t435 _ A68.out).mono ?_
            rintro e w121 ⟨rfl, hb⟩
            refine ⟨_, rfl, ?_⟩
            replace BK413 := bb_ BK413 hb
            replace BK414 := bb_ BK414 hb
            replace BK415 := bb_ BK415 hb
            replace BK423 := bb_ BK423 hb
            replace HB := Aside0.mk (below_step (bl_ HB).out hb)
            (try clear hb)
            (try clear hb2)
            (try clear hk)
            (try clear hi)
            refine hK.out _ _ ⟨bc_ BK414 0, bc_ BK414 1, bc_ BK414 2, bc_ BK413 0, bc_ BK413 1, bc_ BK413 2⟩ (fun hHeld => ?_)
            clear hK K
            refine nm_ 39 ?_
            refine one_ (i := 4) (N := some 40) #[true, true, true, true, true, false, false] rfl rfl (by kernel_rfl) (by decide) (fun K hK => ?_)
            refine gs_ Tryz.func33 #[.agg #[.bool t430, .string t431, .int .i64 t432], .agg #[.bool t433, .string t434, .int .i64 t435]] ?_
            with_reducible refine (dec_Cmp.calls kj33 t430 t431 t432 t433 t434 t435 t436 _ A69.out).mono ?_
            rintro e w122 ⟨rfl, hb⟩
            refine ⟨_, rfl, ?_⟩
            replace BK413 := bb_ BK413 hb
            replace BK414 := bb_ BK414 hb
            replace BK415 := bb_ BK415 hb
            replace BK423 := bb_ BK423 hb
            replace HB := Aside0.mk (below_step (bl_ HB).out hb)
            (try clear hb)
            (try clear hb2)
            (try clear hk)
            (try clear hi)
            refine hK.out _ _ ⟨bc_ BK414 0, bc_ BK414 1, bc_ BK414 2, bc_ BK413 0, bc_ BK413 1, bc_ BK413 2⟩ (fun hHeld => ?_)
            clear hK K
            refine nm_ 40 ?_
            refine pu0_ 5 41 #[true, true, true, true, true, true, false] ?_
            refine pu0_ 6 10 #[true, true, true, true, true, true, true] ?_
            refine done_ (by kernel_rfl) ?_
            try go_wp2
            replace BK413 := Aside0.mk (blk_drew BK413.out)
            replace BK414 := Aside0.mk (blk_drew BK414.out)
            replace BK415 := Aside0.mk (blk_drew BK415.out)
            replace BK423 := Aside0.mk (blk_drew BK423.out)
            replace HB := Aside0.mk (below_drew1 HB.out)
            refine start_ (n := 6) (S := fun w' => w'.cell? ⟨gb423, 0, none⟩ = some (.bool t420) ∧ w'.cell? ⟨gb423, 1, none⟩ = some (.string t421) ∧ w'.cell? ⟨gb423, 2, none⟩ = some (.int .i64 t422) ∧ w'.cell? ⟨gb415, 0, none⟩ = some (.bool a2_0) ∧ w'.cell? ⟨gb415, 1, none⟩ = some (.string a2_1) ∧ w'.cell? ⟨gb415, 2, none⟩ = some (.int .i64 a2_2)) (ds := []) #[false, false, false, false, false, false] (by kernel_rfl) rfl rfl ⟨bc_ BK423 0, bc_ BK423 1, bc_ BK423 2, bc_ BK415 0, bc_ BK415 1, bc_ BK415 2⟩ (fun hHeld => ?_)
            generalize w122.drew = w123 at BK413 BK414 BK415 BK423 HB hHeld ⊢
            refine tk0_ 0 42 #[true, false, false, false, false, false] hHeld rfl (by rintro w' ⟨s0, s1, s2, s3, s4, s5⟩; go_simp; with_reducible rfl) ?_
            refine tk0_ 3 45 #[true, false, false, true, false, false] hHeld rfl (by rintro w' ⟨s0, s1, s2, s3, s4, s5⟩; go_simp; with_reducible rfl) ?_
            refine one_ (i := 1) (N := some 43) #[true, true, false, true, false, false] rfl rfl (by kernel_rfl) (by decide) (fun K hK => ?_)
            refine gs_ Tryz.func34 #[.agg #[.bool t420, .string t421, .int .i64 t422]] ?_
            with_reducible refine (dec_Dec_Abs.calls kj33 t420 t421 t422 t437 t438 t439 _ A70.out).mono ?_
            rintro e w124 ⟨rfl, hb⟩
            refine ⟨_, rfl, ?_⟩
            replace BK413 := bb_ BK413 hb
            replace BK414 := bb_ BK414 hb
            replace BK415 := bb_ BK415 hb
            replace BK423 := bb_ BK423 hb
            replace HB := Aside0.mk (below_step (bl_ HB).out hb)
            (try clear hb)
            (try clear hb2)
            (try clear hk)
            (try clear hi)
            refine hK.out _ _ ⟨bc_ BK423 0, bc_ BK423 1, bc_ BK423 2, bc_ BK415 0, bc_ BK415 1, bc_ BK415 2⟩ (fun hHeld => ?_)
            clear hK K
            refine nm_ 43 ?_
            refine one_ (i := 2) (N := some 44) #[true, true, true, true, false, false] rfl rfl (by kernel_rfl) (by decide) (fun K hK => ?_)
            refine gs_ Tryz.func35 #[.agg #[.bool t437, .string t438, .int .i64 t439]] ?_
            with_reducible refine (florinlaw03_twice.calls kj33 t437 t438 t439 t440 t441 t442 _ A71.out).mono ?_
            rintro e w125 ⟨rfl, hb⟩
            refine ⟨_, rfl, ?_⟩
            replace BK413 := bb_ BK413 hb
            replace BK414 := bb_ BK414 hb
            replace BK415 := bb_ BK415 hb
            replace BK423 := bb_ BK423 hb
            replace HB := Aside0.mk (below_step (bl_ HB).out hb)
            (try clear hb)
            (try clear hb2)
            (try clear hk)
            (try clear hi)
            refine hK.out _ _ ⟨bc_ BK423 0, bc_ BK423 1, bc_ BK423 2, bc_ BK415 0, bc_ BK415 1, bc_ BK415 2⟩ (fun hHeld => ?_)
            clear hK K
            refine nm_ 44 ?_
            refine one_ (i := 4) (N := some 46) #[true, true, true, true, true, false] rfl rfl (by kernel_rfl) (by decide) (fun K hK => ?_)
            refine gs_ Tryz.func33 #[.agg #[.bool t440, .string t441, .int .i64 t442], .agg #[.bool a2_0, .string a2_1, .int .i64 a2_2]] ?_
            with_reducible refine (dec_Cmp.calls kj33 t440 t441 t442 a2_0 a2_1 a2_2 t443 _ A72.out).mono ?_
            rintro e w126 ⟨rfl, hb⟩
            refine ⟨_, rfl, ?_⟩
            replace BK413 := bb_ BK413 hb
            replace BK414 := bb_ BK414 hb
            replace BK415 := bb_ BK415 hb
            replace BK423 := bb_ BK423 hb
            replace HB := Aside0.mk (below_step (bl_ HB).out hb)
            (try clear hb)
            (try clear hb2)
            (try clear hk)
            (try clear hi)
            refine hK.out _ _ ⟨bc_ BK423 0, bc_ BK423 1, bc_ BK423 2, bc_ BK415 0, bc_ BK415 1, bc_ BK415 2⟩ (fun hHeld => ?_)
            clear hK K
            refine nm_ 46 ?_
            refine pu0_ 5 11 #[true, true, true, true, true, true] ?_
            refine done_ (by kernel_rfl) ?_
            try go_wp2
            go_ret
            exact ⟨ew_, (bl_ HB).out⟩
           ·rw [if_neg c118] at H
            have c118b0 : decide (t443 < 0) = false := decide_eq_false c118
            clear c118
            by_cases c127 : t443 = 0
            ·rw [if_pos c127] at H
             have c127b0 : (t443 == 0) = true := beq_iff_eq.mpr c127
             have c127b1 : (t443 != 0) = false := bne_eq_false_iff_eq.mpr c127
             clear c127
             obtain rfl := Option.some.inj H
             try go_wp2
             replace BK413 := Aside0.mk (blk_drew BK413.out)
             replace BK414 := Aside0.mk (blk_drew BK414.out)
             replace BK415 := Aside0.mk (blk_drew BK415.out)
             replace BK423 := Aside0.mk (blk_drew BK423.out)
             replace HB := Aside0.mk (below_drew1 HB.out)
             refine start_ (n := 7) (S := fun w' => w'.cell? ⟨gb414, 0, none⟩ = some (.bool a1_0) ∧ w'.cell? ⟨gb414, 1, none⟩ = some (.string a1_1) ∧ w'.cell? ⟨gb414, 2, none⟩ = some (.int .i64 a1_2) ∧ w'.cell? ⟨gb413, 0, none⟩ = some (.bool t416) ∧ w'.cell? ⟨gb413, 1, none⟩ = some (.string t417) ∧ w'.cell? ⟨gb413, 2, none⟩ = some (.int .i64 t418)) (ds := []) #[false, false, false, false, false, false, false] (by kernel_rfl) rfl rfl ⟨bc_ BK414 0, bc_ BK414 1, bc_ BK414 2, bc_ BK413 0, bc_ BK413 1, bc_ BK413 2⟩ (fun hHeld => ?_)
             generalize wc.drew = w128 at BK413 BK414 BK415 BK423 HB hHeld ⊢
             refine tk0_ 0 36 #[true, false, false, false, false, false, false] hHeld rfl (by rintro w' ⟨s0, s1, s2, s3, s4, s5⟩; go_simp; with_reducible rfl) ?_
             refine tk0_ 2 38 #[true, false, true, false, false, false, false] hHeld rfl (by rintro w' ⟨s0, s1, s2, s3, s4, s5⟩; go_simp; with_reducible rfl) ?_
             refine one_ (i := 1) (N := some 37) #[true, true, true, false, false, false, false] rfl rfl (by kernel_rfl) (by decide) (fun K hK => ?_)
             refine gs_ Tryz.func34 #[.agg #[.bool a1_0, .string a1_1, .int .i64 a1_2]] ?_
             with_reducible refine (dec_Dec_Abs.calls kj33 a1_0 a1_1 a1_2 t430 t431 t432 _ A67.out).mono ?_
             rintro e w129 ⟨rfl, hb⟩
             refine ⟨_, rfl, ?_⟩
             replace BK413 := bb_ BK413 hb
             replace BK414 := bb_ BK414 hb
             replace BK415 := bb_ BK415 hb
             replace BK423 := bb_ BK423 hb
             replace HB := Aside0.mk (below_step (bl_ HB).out hb)
             (try clear hb)
             (try clear hb2)
             (try clear hk)
             (try clear hi)
             refine hK.out _ _ ⟨bc_ BK414 0, bc_ BK414 1, bc_ BK414 2, bc_ BK413 0, bc_ BK413 1, bc_ BK413 2⟩ (fun hHeld => ?_)
             clear hK K
             refine nm_ 37 ?_
             refine one_ (i := 3) (N := some 39) #[true, true, true, true, false, false, false] rfl rfl (by kernel_rfl) (by decide) (fun K hK => ?_)
             refine gs_ Tryz.func34 #[.agg #[.bool t416, .string t417, .int .i64 t418]] ?_
             with_reducible refine (dec_Dec_Abs.calls kj33 t416 t417 t418 t433 t434 t435 _ A68.out).mono ?_
             rintro e w130 ⟨rfl, hb⟩
             refine ⟨_, rfl, ?_⟩
             replace BK413 := bb_ BK413 hb
             replace BK414 := bb_ BK414 hb
             replace BK415 := bb_ BK415 hb
             replace BK423 := bb_ BK423 hb
             replace HB := Aside0.mk (below_step (bl_ HB).out hb)
             (try clear hb)
             (try clear hb2)
             (try clear hk)
             (try clear hi)
             refine hK.out _ _ ⟨bc_ BK414 0, bc_ BK414 1, bc_ BK414 2, bc_ BK413 0, bc_ BK413 1, bc_ BK413 2⟩ (fun hHeld => ?_)
             clear hK K
             refine nm_ 39 ?_
             refine one_ (i := 4) (N := some 40) #[true, true, true, true, true, false, false] rfl rfl (by kernel_rfl) (by decide) (fun K hK => ?_)
             refine gs_ Tryz.func33 #[.agg #[.bool t430, .string t431, .int .i64 t432], .agg #[.bool t433, .string t434, .int .i64 t435]] ?_
             with_reducible refine (dec_Cmp.calls kj33 t430 t431 t432 t433 t434 t435 t436 _ A69.out).mono ?_
             rintro e w131 ⟨rfl, hb⟩
             refine ⟨_, rfl, ?_⟩
             replace BK413 := bb_ BK413 hb
             replace BK414 := bb_ BK414 hb
             replace BK415 := bb_ BK415 hb
             replace BK423 := bb_ BK423 hb
             replace HB := Aside0.mk (below_step (bl_ HB).out hb)
             (try clear hb)
             (try clear hb2)
             (try clear hk)
             (try clear hi)
             refine hK.out _ _ ⟨bc_ BK414 0, bc_ BK414 1, bc_ BK414 2, bc_ BK413 0, bc_ BK413 1, bc_ BK413 2⟩ (fun hHeld => ?_)
             clear hK K
             refine nm_ 40 ?_
             refine pu0_ 5 41 #[true, true, true, true, true, true, false] ?_
             refine pu0_ 6 10 #[true, true, true, true, true, true, true] ?_
             refine done_ (by kernel_rfl) ?_
             try go_wp2
             replace BK413 := Aside0.mk (blk_drew BK413.out)
             replace BK414 := Aside0.mk (blk_drew BK414.out)
             replace BK415 := Aside0.mk (blk_drew BK415.out)
             replace BK423 := Aside0.mk (blk_drew BK423.out)
             replace HB := Aside0.mk (below_drew1 HB.out)
             refine start_ (n := 6) (S := fun w' => w'.cell? ⟨gb423, 0, none⟩ = some (.bool t420) ∧ w'.cell? ⟨gb423, 1, none⟩ = some (.string t421) ∧ w'.cell? ⟨gb423, 2, none⟩ = some (.int .i64 t422) ∧ w'.cell? ⟨gb415, 0, none⟩ = some (.bool a2_0) ∧ w'.cell? ⟨gb415, 1, none⟩ = some (.string a2_1) ∧ w'.cell? ⟨gb415, 2, none⟩ = some (.int .i64 a2_2)) (ds := []) #[false, false, false, false, false, false] (by kernel_rfl) rfl rfl ⟨bc_ BK423 0, bc_ BK423 1, bc_ BK423 2, bc_ BK415 0, bc_ BK415 1, bc_ BK415 2⟩ (fun hHeld => ?_)
             generalize w131.drew = w132 at BK413 BK414 BK415 BK423 HB hHeld ⊢
             refine tk0_ 0 42 #[true, false, false, false, false, false] hHeld rfl (by rintro w' ⟨s0, s1, s2, s3, s4, s5⟩; go_simp; with_reducible rfl) ?_
             refine tk0_ 3 45 #[true, false, false, true, false, false] hHeld rfl (by rintro w' ⟨s0, s1, s2, s3, s4, s5⟩; go_simp; with_reducible rfl) ?_
             refine one_ (i := 1) (N := some 43) #[true, true, false, true, false, false] rfl rfl (by kernel_rfl) (by decide) (fun K hK => ?_)
             refine gs_ Tryz.func34 #[.agg #[.bool t420, .string t421, .int .i64 t422]] ?_
             with_reducible refine (dec_Dec_Abs.calls kj33 t420 t421 t422 t437 t438 t439 _ A70.out).mono ?_
             rintro e w133 ⟨rfl, hb⟩
             refine ⟨_, rfl, ?_⟩
             replace BK413 := bb_ BK413 hb
             replace BK414 := bb_ BK414 hb
             replace BK415 := bb_ BK415 hb
             replace BK423 := bb_ BK423 hb
             replace HB := Aside0.mk (below_step (bl_ HB).out hb)
             (try clear hb)
             (try clear hb2)
             (try clear hk)
             (try clear hi)
             refine hK.out _ _ ⟨bc_ BK423 0, bc_ BK423 1, bc_ BK423 2, bc_ BK415 0, bc_ BK415 1, bc_ BK415 2⟩ (fun hHeld => ?_)
             clear hK K
             refine nm_ 43 ?_
             refine one_ (i := 2) (N := some 44) #[true, true, true, true, false, false] rfl rfl (by kernel_rfl) (by decide) (fun K hK => ?_)
             refine gs_ Tryz.func35 #[.agg #[.bool t437, .string t438, .int .i64 t439]] ?_
             with_reducible refine (florinlaw03_twice.calls kj33 t437 t438 t439 t440 t441 t442 _ A71.out).mono ?_
             rintro e w134 ⟨rfl, hb⟩
             refine ⟨_, rfl, ?_⟩
             replace BK413 := bb_ BK413 hb
             replace BK414 := bb_ BK414 hb
             replace BK415 := bb_ BK415 hb
             replace BK423 := bb_ BK423 hb
             replace HB := Aside0.mk (below_step (bl_ HB).out hb)
             (try clear hb)
             (try clear hb2)
             (try clear hk)
             (try clear hi)
             refine hK.out _ _ ⟨bc_ BK423 0, bc_ BK423 1, bc_ BK423 2, bc_ BK415 0, bc_ BK415 1, bc_ BK415 2⟩ (fun hHeld => ?_)
             clear hK K
             refine nm_ 44 ?_
             refine one_ (i := 4) (N := some 46) #[true, true, true, true, true, false] rfl rfl (by kernel_rfl) (by decide) (fun K hK => ?_)
             refine gs_ Tryz.func33 #[.agg #[.bool t440, .string t441, .int .i64 t442], .agg #[.bool a2_0, .string a2_1, .int .i64 a2_2]] ?_
             with_reducible refine (dec_Cmp.calls kj33 t440 t441 t442 a2_0 a2_1 a2_2 t443 _ A72.out).mono ?_
             rintro e w135 ⟨rfl, hb⟩
             refine ⟨_, rfl, ?_⟩
             replace BK413 := bb_ BK413 hb
             replace BK414 := bb_ BK414 hb
             replace BK415 := bb_ BK415 hb
             replace BK423 := bb_ BK423 hb
             replace HB := Aside0.mk (below_step (bl_ HB).out hb)
             (try clear hb)
             (try clear hb2)
             (try clear hk)
             (try clear hi)
             refine hK.out _ _ ⟨bc_ BK423 0, bc_ BK423 1, bc_ BK423 2, bc_ BK415 0, bc_ BK415 1, bc_ BK415 2⟩ (fun hHeld => ?_)
             clear hK K
             refine nm_ 46 ?_
             refine pu0_ 5 11 #[true, true, true, true, true, true] ?_
             refine done_ (by kernel_rfl) ?_
             try go_wp2
             go_ret
             exact ⟨ew_, (bl_ HB).out⟩
            ·rw [if_neg c127] at H
             have c127b0 : (t443 == 0) = false := beq_eq_false_iff_ne.mpr c127
             have c127b1 : (t443 != 0) = true := bne_iff_ne.mpr c127
             obtain rfl := Option.some.inj H
             try go_wp2
             replace BK413 := Aside0.mk (blk_drew BK413.out)
             replace BK414 := Aside0.mk (blk_drew BK414.out)
             replace BK415 := Aside0.mk (blk_drew BK415.out)
             replace BK423 := Aside0.mk (blk_drew BK423.out)
             replace HB := Aside0.mk (below_drew1 HB.out)
             refine start_ (n := 7) (S := fun w' => w'.cell? ⟨gb414, 0, none⟩ = some (.bool a1_0) ∧ w'.cell? ⟨gb414, 1, none⟩ = some (.string a1_1) ∧ w'.cell? ⟨gb414, 2, none⟩ = some (.int .i64 a1_2) ∧ w'.cell? ⟨gb413, 0, none⟩ = some (.bool t416) ∧ w'.cell? ⟨gb413, 1, none⟩ = some (.string t417) ∧ w'.cell? ⟨gb413, 2, none⟩ = some (.int .i64 t418)) (ds := []) #[false, false, false, false, false, false, false] (by kernel_rfl) rfl rfl ⟨bc_ BK414 0, bc_ BK414 1, bc_ BK414 2, bc_ BK413 0, bc_ BK413 1, bc_ BK413 2⟩ (fun hHeld => ?_)
             generalize wc.drew = w136 at BK413 BK414 BK415 BK423 HB hHeld ⊢
             refine tk0_ 0 36 #[true, false, false, false, false, false, false] hHeld rfl (by rintro w' ⟨s0, s1, s2, s3, s4, s5⟩; go_simp; with_reducible rfl) ?_
             refine tk0_ 2 38 #[true, false, true, false, false, false, false] hHeld rfl (by rintro w' ⟨s0, s1, s2, s3, s4, s5⟩; go_simp; with_reducible rfl) ?_
             refine one_ (i := 1) (N := some 37) #[true, true, true, false, false, false, false] rfl rfl (by kernel_rfl) (by decide) (fun K hK => ?_)
             refine gs_ Tryz.func34 #[.agg #[.bool a1_0, .string a1_1, .int .i64 a1_2]] ?_
             with_reducible refine (dec_Dec_Abs.calls kj33 a1_0 a1_1 a1_2 t430 t431 t432 _ A67.out).mono ?_
             rintro e w137 ⟨rfl, hb⟩
             refine ⟨_, rfl, ?_⟩
             replace BK413 := bb_ BK413 hb
             replace BK414 := bb_ BK414 hb
             replace BK415 := bb_ BK415 hb
             replace BK423 := bb_ BK423 hb
             replace HB := Aside0.mk (below_step (bl_ HB).out hb)
             (try clear hb)
             (try clear hb2)
             (try clear hk)
             (try clear hi)
             refine hK.out _ _ ⟨bc_ BK414 0, bc_ BK414 1, bc_ BK414 2, bc_ BK413 0, bc_ BK413 1, bc_ BK413 2⟩ (fun hHeld => ?_)
             clear hK K
             refine nm_ 37 ?_
             refine one_ (i := 3) (N := some 39) #[true, true, true, true, false, false, false] rfl rfl (by kernel_rfl) (by decide) (fun K hK => ?_)
             refine gs_ Tryz.func34 #[.agg #[.bool t416, .string t417, .int .i64 t418]] ?_
             with_reducible refine (dec_Dec_Abs.calls kj33 t416 t417 t418 t433 t434 t435 _ A68.out).mono ?_
             rintro e w138 ⟨rfl, hb⟩
             refine ⟨_, rfl, ?_⟩
             replace BK413 := bb_ BK413 hb
             replace BK414 := bb_ BK414 hb
             replace BK415 := bb_ BK415 hb
             replace BK423 := bb_ BK423 hb
             replace HB := Aside0.mk (below_step (bl_ HB).out hb)
             (try clear hb)
             (try clear hb2)
             (try clear hk)
             (try clear hi)
             refine hK.out _ _ ⟨bc_ BK414 0, bc_ BK414 1, bc_ BK414 2, bc_ BK413 0, bc_ BK413 1, bc_ BK413 2⟩ (fun hHeld => ?_)
             clear hK K
             refine nm_ 39 ?_
             refine one_ (i := 4) (N := some 40) #[true, true, true, true, true, false, false] rfl rfl (by kernel_rfl) (by decide) (fun K hK => ?_)
             refine gs_ Tryz.func33 #[.agg #[.bool t430, .string t431, .int .i64 t432], .agg #[.bool t433, .string t434, .int .i64 t435]] ?_
             with_reducible refine (dec_Cmp.calls kj33 t430 t431 t432 t433 t434 t435 t436 _ A69.out).mono ?_
             rintro e w139 ⟨rfl, hb⟩
             refine ⟨_, rfl, ?_⟩
             replace BK413 := bb_ BK413 hb
             replace BK414 := bb_ BK414 hb
             replace BK415 := bb_ BK415 hb
             replace BK423 := bb_ BK423 hb
             replace HB := Aside0.mk (below_step (bl_ HB).out hb)
             (try clear hb)
             (try clear hb2)
             (try clear hk)
             (try clear hi)
             refine hK.out _ _ ⟨bc_ BK414 0, bc_ BK414 1, bc_ BK414 2, bc_ BK413 0, bc_ BK413 1, bc_ BK413 2⟩ (fun hHeld => ?_)
             clear hK K
             refine nm_ 40 ?_
             refine pu0_ 5 41 #[true, true, true, true, true, true, false] ?_
             refine pu0_ 6 10 #[true, true, true, true, true, true, true] ?_
             refine done_ (by kernel_rfl) ?_
             try go_wp2
             replace BK413 := Aside0.mk (blk_drew BK413.out)
             replace BK414 := Aside0.mk (blk_drew BK414.out)
             replace BK415 := Aside0.mk (blk_drew BK415.out)
             replace BK423 := Aside0.mk (blk_drew BK423.out)
             replace HB := Aside0.mk (below_drew1 HB.out)
             refine start_ (n := 6) (S := fun w' => w'.cell? ⟨gb423, 0, none⟩ = some (.bool t420) ∧ w'.cell? ⟨gb423, 1, none⟩ = some (.string t421) ∧ w'.cell? ⟨gb423, 2, none⟩ = some (.int .i64 t422) ∧ w'.cell? ⟨gb415, 0, none⟩ = some (.bool a2_0) ∧ w'.cell? ⟨gb415, 1, none⟩ = some (.string a2_1) ∧ w'.cell? ⟨gb415, 2, none⟩ = some (.int .i64 a2_2)) (ds := []) #[false, false, false, false, false, false] (by kernel_rfl) rfl rfl ⟨bc_ BK423 0, bc_ BK423 1, bc_ BK423 2, bc_ BK415 0, bc_ BK415 1, bc_ BK415 2⟩ (fun hHeld => ?_)
             generalize w139.drew = w140 at BK413 BK414 BK415 BK423 HB hHeld ⊢
             refine tk0_ 0 42 #[true, false, false, false, false, false] hHeld rfl (by rintro w' ⟨s0, s1, s2, s3, s4, s5⟩; go_simp; with_reducible rfl) ?_
             refine tk0_ 3 45 #[true, false, false, true, false, false] hHeld rfl (by rintro w' ⟨s0, s1, s2, s3, s4, s5⟩; go_simp; with_reducible rfl) ?_
             refine one_ (i := 1) (N := some 43) #[true, true, false, true, false, false] rfl rfl (by kernel_rfl) (by decide) (fun K hK => ?_)
             refine gs_ Tryz.func34 #[.agg #[.bool t420, .string t421, .int .i64 t422]] ?_
             with_reducible refine (dec_Dec_Abs.calls kj33 t420 t421 t422 t437 t438 t439 _ A70.out).mono ?_
             rintro e w141 ⟨rfl, hb⟩
             refine ⟨_, rfl, ?_⟩
             replace BK413 := bb_ BK413 hb
             replace BK414 := bb_ BK414 hb
             replace BK415 := bb_ BK415 hb
             replace BK423 := bb_ BK423 hb
             replace HB := Aside0.mk (below_step (bl_ HB).out hb)
             (try clear hb)
             (try clear hb2)
             (try clear hk)
             (try clear hi)
             refine hK.out _ _ ⟨bc_ BK423 0, bc_ BK423 1, bc_ BK423 2, bc_ BK415 0, bc_ BK415 1, bc_ BK415 2⟩ (fun hHeld => ?_)
             clear hK K
             refine nm_ 43 ?_
             refine one_ (i := 2) (N := some 44) #[true, true, true, true, false, false] rfl rfl (by kernel_rfl) (by decide) (fun K hK => ?_)
             refine gs_ Tryz.func35 #[.agg #[.bool t437, .string t438, .int .i64 t439]] ?_
             with_reducible refine (florinlaw03_twice.calls kj33 t437 t438 t439 t440 t441 t442 _ A71.out).mono ?_
             rintro e w142 ⟨rfl, hb⟩
             refine ⟨_, rfl, ?_⟩
             replace BK413 := bb_ BK413 hb
             replace BK414 := bb_ BK414 hb
             replace BK415 := bb_ BK415 hb
             replace BK423 := bb_ BK423 hb
             replace HB := Aside0.mk (below_step (bl_ HB).out hb)
             (try clear hb)
             (try clear hb2)
             (try clear hk)
             (try clear hi)
             refine hK.out _ _ ⟨bc_ BK423 0, bc_ BK423 1, bc_ BK423 2, bc_ BK415 0, bc_ BK415 1, bc_ BK415 2⟩ (fun hHeld => ?_)
             clear hK K
             refine nm_ 44 ?_
             refine one_ (i := 4) (N := some 46) #[true, true, true, true, true, false] rfl rfl (by kernel_rfl) (by decide) (fun K hK => ?_)
             refine gs_ Tryz.func33 #[.agg #[.bool t440, .string t441, .int .i64 t442], .agg #[.bool a2_0, .string a2_1, .int .i64 a2_2]] ?_
             with_reducible refine (dec_Cmp.calls kj33 t440 t441 t442 a2_0 a2_1 a2_2 t443 _ A72.out).mono ?_
             rintro e w143 ⟨rfl, hb⟩
             refine ⟨_, rfl, ?_⟩
             replace BK413 := bb_ BK413 hb
             replace BK414 := bb_ BK414 hb
             replace BK415 := bb_ BK415 hb
             replace BK423 := bb_ BK423 hb
             replace HB := Aside0.mk (below_step (bl_ HB).out hb)
             (try clear hb)
             (try clear hb2)
             (try clear hk)
             (try clear hi)
             refine hK.out _ _ ⟨bc_ BK423 0, bc_ BK423 1, bc_ BK423 2, bc_ BK415 0, bc_ BK415 1, bc_ BK415 2⟩ (fun hHeld => ?_)
             clear hK K
             refine nm_ 46 ?_
             refine pu0_ 5 11 #[true, true, true, true, true, true] ?_
             refine done_ (by kernel_rfl) ?_
             try go_wp2
             go_ret
             exact ⟨ew_, (bl_ HB).out⟩
          ·rw [if_neg c117] at H
           have c117b0 : (a3 == 1) = false := beq_eq_false_iff_ne.mpr c117
           have c117b1 : (a3 != 1) = true := bne_iff_ne.mpr c117
           by_cases c144 : a3 = 2
           ·rw [if_pos c144] at H
            have c144b0 : (a3 == 2) = true := beq_iff_eq.mpr c144
            have c144b1 : (a3 != 2) = false := bne_eq_false_iff_eq.mpr c144
            clear c144
            by_cases c145 : t443 < 0
            ·rw [if_pos c145] at H
             have c145b0 : decide (t443 < 0) = true := decide_eq_true c145
             clear c145
             obtain rfl := Option.some.inj H
             try go_wp2
             replace BK413 := Aside0.mk (blk_drew BK413.out)
             replace BK414 := Aside0.mk (blk_drew BK414.out)
             replace BK415 := Aside0.mk (blk_drew BK415.out)
             replace BK423 := Aside0.mk (blk_drew BK423.out)
             replace HB := Aside0.mk (below_drew1 HB.out)
             refine start_ (n := 7) (S := fun w' => w'.cell? ⟨gb414, 0, none⟩ = some (.bool a1_0) ∧ w'.cell? ⟨gb414, 1, none⟩ = some (.string a1_1) ∧ w'.cell? ⟨gb414, 2, none⟩ = some (.int .i64 a1_2) ∧ w'.cell? ⟨gb413, 0, none⟩ = some (.bool t416) ∧ w'.cell? ⟨gb413, 1, none⟩ = some (.string t417) ∧ w'.cell? ⟨gb413, 2, none⟩ = some (.int .i64 t418)) (ds := []) #[false, false, false, false, false, false, false] (by kernel_rfl) rfl rfl ⟨bc_ BK414 0, bc_ BK414 1, bc_ BK414 2, bc_ BK413 0, bc_ BK413 1, bc_ BK413 2⟩ (fun hHeld => ?_)
             generalize wc.drew = w146 at BK413 BK414 BK415 BK423 HB hHeld ⊢
             refine tk0_ 0 36 #[true, false, false, false, false, false, false] hHeld rfl (by rintro w' ⟨s0, s1, s2, s3, s4, s5⟩; go_simp; with_reducible rfl) ?_
             refine tk0_ 2 38 #[true, false, true, false, false, false, false] hHeld rfl (by rintro w' ⟨s0, s1, s2, s3, s4, s5⟩; go_simp; with_reducible rfl) ?_
             refine one_ (i := 1) (N := some 37) #[true, true, true, false, false, false, false] rfl rfl (by kernel_rfl) (by decide) (fun K hK => ?_)
             refine gs_ Tryz.func34 #[.agg #[.bool a1_0, .string a1_1, .int .i64 a1_2]] ?_
             with_reducible refine (dec_Dec_Abs.calls kj33 a1_0 a1_1 a1_2 t430 t431 t432 _ A67.out).mono ?_
             rintro e w147 ⟨rfl, hb⟩
             refine ⟨_, rfl, ?_⟩
             replace BK413 := bb_ BK413 hb
             replace BK414 := bb_ BK414 hb
             replace BK415 := bb_ BK415 hb
             replace BK423 := bb_ BK423 hb
             replace HB := Aside0.mk (below_step (bl_ HB).out hb)
             (try clear hb)
             (try clear hb2)
             (try clear hk)
             (try clear hi)
             refine hK.out _ _ ⟨bc_ BK414 0, bc_ BK414 1, bc_ BK414 2, bc_ BK413 0, bc_ BK413 1, bc_ BK413 2⟩ (fun hHeld => ?_)
             clear hK K
             refine nm_ 37 ?_
             refine one_ (i := 3) (N := some 39) #[true, true, true, true, false, false, false] rfl rfl (by kernel_rfl) (by decide) (fun K hK => ?_)
             refine gs_ Tryz.func34 #[.agg #[.bool t416, .string t417, .int .i64 t418]] ?_
             with_reducible refine (dec_Dec_Abs.calls kj33 t416 t417 t418 t433 t434 t435 _ A68.out).mono ?_
             rintro e w148 ⟨rfl, hb⟩
             refine ⟨_, rfl, ?_⟩
             replace BK413 := bb_ BK413 hb
             replace BK414 := bb_ BK414 hb
             replace BK415 := bb_ BK415 hb
             replace BK423 := bb_ BK423 hb
             replace HB := Aside0.mk (below_step (bl_ HB).out hb)
             (try clear hb)
             (try clear hb2)
             (try clear hk)
             (try clear hi)
             refine hK.out _ _ ⟨bc_ BK414 0, bc_ BK414 1, bc_ BK414 2, bc_ BK413 0, bc_ BK413 1, bc_ BK413 2⟩ (fun hHeld => ?_)
             clear hK K
             refine nm_ 39 ?_
             refine one_ (i := 4) (N := some 40) #[true, true, true, true, true, false, false] rfl rfl (by kernel_rfl) (by decide) (fun K hK => ?_)
             refine gs_ Tryz.func33 #[.agg #[.bool t430, .string t431, .int .i64 t432], .agg #[.bool t433, .string t434, .int .i64 t435]] ?_
             with_reducible refine (dec_Cmp.calls kj33 t430 t431 t432 t433 t434 t435 t436 _ A69.out).mono ?_
             rintro e w149 ⟨rfl, hb⟩
             refine ⟨_, rfl, ?_⟩
             replace BK413 := bb_ BK413 hb
             replace BK414 := bb_ BK414 hb
             replace BK415 := bb_ BK415 hb
             replace BK423 := bb_ BK423 hb
             replace HB := Aside0.mk (below_step (bl_ HB).out hb)
             (try clear hb)
             (try clear hb2)
             (try clear hk)
             (try clear hi)
             refine hK.out _ _ ⟨bc_ BK414 0, bc_ BK414 1, bc_ BK414 2, bc_ BK413 0, bc_ BK413 1, bc_ BK413 2⟩ (fun hHeld => ?_)
             clear hK K
             refine nm_ 40 ?_
             refine pu0_ 5 41 #[true, true, true, true, true, true, false] ?_
             refine pu0_ 6 10 #[true, true, true, true, true, true, true] ?_
             refine done_ (by kernel_rfl) ?_
             try go_wp2
             replace BK413 := Aside0.mk (blk_drew BK413.out)
             replace BK414 := Aside0.mk (blk_drew BK414.out)
             replace BK415 := Aside0.mk (blk_drew BK415.out)
             replace BK423 := Aside0.mk (blk_drew BK423.out)
             replace HB := Aside0.mk (below_drew1 HB.out)
             refine start_ (n := 6) (S := fun w' => w'.cell? ⟨gb423, 0, none⟩ = some (.bool t420) ∧ w'.cell? ⟨gb423, 1, none⟩ = some (.string t421) ∧ w'.cell? ⟨gb423, 2, none⟩ = some (.int .i64 t422) ∧ w'.cell? ⟨gb415, 0, none⟩ = some (.bool a2_0) ∧ w'.cell? ⟨gb415, 1, none⟩ = some (.string a2_1) ∧ w'.cell? ⟨gb415, 2, none⟩ = some (.int .i64 a2_2)) (ds := []) #[false, false, false, false, false, false] (by kernel_rfl) rfl rfl ⟨bc_ BK423 0, bc_ BK423 1, bc_ BK423 2, bc_ BK415 0, bc_ BK415 1, bc_ BK415 2⟩ (fun hHeld => ?_)
             generalize w149.drew = w150 at BK413 BK414 BK415 BK423 HB hHeld ⊢
             refine tk0_ 0 42 #[true, false, false, false, false, false] hHeld rfl (by rintro w' ⟨s0, s1, s2, s3, s4, s5⟩; go_simp; with_reducible rfl) ?_
             refine tk0_ 3 45 #[true, false, false, true, false, false] hHeld rfl (by rintro w' ⟨s0, s1, s2, s3, s4, s5⟩; go_simp; with_reducible rfl) ?_
             refine one_ (i := 1) (N := some 43) #[true, true, false, true, false, false] rfl rfl (by kernel_rfl) (by decide) (fun K hK => ?_)
             refine gs_ Tryz.func34 #[.agg #[.bool t420, .string t421, .int .i64 t422]] ?_
             with_reducible refine (dec_Dec_Abs.calls kj33 t420 t421 t422 t437 t438 t439 _ A70.out).mono ?_
             rintro e w151 ⟨rfl, hb⟩
             refine ⟨_, rfl, ?_⟩
             replace BK413 := bb_ BK413 hb
             replace BK414 := bb_ BK414 hb
             replace BK415 := bb_ BK415 hb
             replace BK423 := bb_ BK423 hb
             replace HB := Aside0.mk (below_step (bl_ HB).out hb)
             (try clear hb)
             (try clear hb2)
             (try clear hk)
             (try clear hi)
             refine hK.out _ _ ⟨bc_ BK423 0, bc_ BK423 1, bc_ BK423 2, bc_ BK415 0, bc_ BK415 1, bc_ BK415 2⟩ (fun hHeld => ?_)
             clear hK K
             refine nm_ 43 ?_
             refine one_ (i := 2) (N := some 44) #[true, true, true, true, false, false] rfl rfl (by kernel_rfl) (by decide) (fun K hK => ?_)
             refine gs_ Tryz.func35 #[.agg #[.bool t437, .string t438, .int .i64 t439]] ?_
             with_reducible refine (florinlaw03_twice.calls kj33 t437 t438 t439 t440 t441 t442 _ A71.out).mono ?_
             rintro e w152 ⟨rfl, hb⟩
             refine ⟨_, rfl, ?_⟩
             replace BK413 := bb_ BK413 hb
             replace BK414 := bb_ BK414 hb
             replace BK415 := bb_ BK415 hb
             replace BK423 := bb_ BK423 hb
             replace HB := Aside0.mk (below_step (bl_ HB).out hb)
             (try clear hb)
             (try clear hb2)
             (try clear hk)
             (try clear hi)
             refine hK.out _ _ ⟨bc_ BK423 0, bc_ BK423 1, bc_ BK423 2, bc_ BK415 0, bc_ BK415 1, bc_ BK415 2⟩ (fun hHeld => ?_)
             clear hK K
             refine nm_ 44 ?_
             refine one_ (i := 4) (N := some 46) #[true, true, true, true, true, false] rfl rfl (by kernel_rfl) (by decide) (fun K hK => ?_)
             refine gs_ Tryz.func33 #[.agg #[.bool t440, .string t441, .int .i64 t442], .agg #[.bool a2_0, .string a2_1, .int .i64 a2_2]] ?_
             with_reducible refine (dec_Cmp.calls kj33 t440 t441 t442 a2_0 a2_1 a2_2 t443 _ A72.out).mono ?_
             rintro e w153 ⟨rfl, hb⟩
             refine ⟨_, rfl, ?_⟩
             replace BK413 := bb_ BK413 hb
             replace BK414 := bb_ BK414 hb
             replace BK415 := bb_ BK415 hb
             replace BK423 := bb_ BK423 hb
             replace HB := Aside0.mk (below_step (bl_ HB).out hb)
             (try clear hb)
             (try clear hb2)
             (try clear hk)
             (try clear hi)
             refine hK.out _ _ ⟨bc_ BK423 0, bc_ BK423 1, bc_ BK423 2, bc_ BK415 0, bc_ BK415 1, bc_ BK415 2⟩ (fun hHeld => ?_)
             clear hK K
             refine nm_ 46 ?_
             refine pu0_ 5 11 #[true, true, true, true, true, true] ?_
             refine done_ (by kernel_rfl) ?_
             try go_wp2
             go_ret
             exact ⟨ew_, (bl_ HB).out⟩
            ·rw [if_neg c145] at H
             have c145b0 : decide (t443 < 0) = false := decide_eq_false c145
             clear c145
             by_cases c154 : t443 = 0
             ·rw [if_pos c154] at H
              have c154b0 : (t443 == 0) = true := beq_iff_eq.mpr c154
              have c154b1 : (t443 != 0) = false := bne_eq_false_iff_eq.mpr c154
              clear c154
              obtain rfl := Option.some.inj H
              try go_wp2
              replace BK413 := Aside0.mk (blk_drew BK413.out)
              replace BK414 := Aside0.mk (blk_drew BK414.out)
              replace BK415 := Aside0.mk (blk_drew BK415.out)
              replace BK423 := Aside0.mk (blk_drew BK423.out)
              replace HB := Aside0.mk (below_drew1 HB.out)
              refine start_ (n := 7) (S := fun w' => w'.cell? ⟨gb414, 0, none⟩ = some (.bool a1_0) ∧ w'.cell? ⟨gb414, 1, none⟩ = some (.string a1_1) ∧ w'.cell? ⟨gb414, 2, none⟩ = some (.int .i64 a1_2) ∧ w'.cell? ⟨gb413, 0, none⟩ = some (.bool t416) ∧ w'.cell? ⟨gb413, 1, none⟩ = some (.string t417) ∧ w'.cell? ⟨gb413, 2, none⟩ = some (.int .i64 t418)) (ds := []) #[false, false, false, false, false, false, false] (by kernel_rfl) rfl rfl ⟨bc_ BK414 0, bc_ BK414 1, bc_ BK414 2, bc_ BK413 0, bc_ BK413 1, bc_ BK413 2⟩ (fun hHeld => ?_)
              generalize wc.drew = w155 at BK413 BK414 BK415 BK423 HB hHeld ⊢
              refine tk0_ 0 36 #[true, false, false, false, false, false, false] hHeld rfl (by rintro w' ⟨s0, s1, s2, s3, s4, s5⟩; go_simp; with_reducible rfl) ?_
              refine tk0_ 2 38 #[true, false, true, false, false, false, false] hHeld rfl (by rintro w' ⟨s0, s1, s2, s3, s4, s5⟩; go_simp; with_reducible rfl) ?_
              refine one_ (i := 1) (N := some 37) #[true, true, true, false, false, false, false] rfl rfl (by kernel_rfl) (by decide) (fun K hK => ?_)
              refine gs_ Tryz.func34 #[.agg #[.bool a1_0, .string a1_1, .int .i64 a1_2]] ?_
              with_reducible refine (dec_Dec_Abs.calls kj33 a1_0 a1_1 a1_2 t430 t431 t432 _ A67.out).mono ?_
              rintro e w156 ⟨rfl, hb⟩
              refine ⟨_, rfl, ?_⟩
              replace BK413 := bb_ BK413 hb
              replace BK414 := bb_ BK414 hb
              replace BK415 := bb_ BK415 hb
              replace BK423 := bb_ BK423 hb
              replace HB := Aside0.mk (below_step (bl_ HB).out hb)
              (try clear hb)
              (try clear hb2)
              (try clear hk)
              (try clear hi)
              refine hK.out _ _ ⟨bc_ BK414 0, bc_ BK414 1, bc_ BK414 2, bc_ BK413 0, bc_ BK413 1, bc_ BK413 2⟩ (fun hHeld => ?_)
              clear hK K
              refine nm_ 37 ?_
              refine one_ (i := 3) (N := some 39) #[true, true, true, true, false, false, false] rfl rfl (by kernel_rfl) (by decide) (fun K hK => ?_)
              refine gs_ Tryz.func34 #[.agg #[.bool t416, .string t417, .int .i64 t418]] ?_
              with_reducible refine (dec_Dec_Abs.calls kj33 t416 t417 t418 t433 t434 t435 _ A68.out).mono ?_
              rintro e w157 ⟨rfl, hb⟩
              refine ⟨_, rfl, ?_⟩
              replace BK413 := bb_ BK413 hb
              replace BK414 := bb_ BK414 hb
              replace BK415 := bb_ BK415 hb
              replace BK423 := bb_ BK423 hb
              replace HB := Aside0.mk (below_step (bl_ HB).out hb)
              (try clear hb)
              (try clear hb2)
              (try clear hk)
              (try clear hi)
              refine hK.out _ _ ⟨bc_ BK414 0, bc_ BK414 1, bc_ BK414 2, bc_ BK413 0, bc_ BK413 1, bc_ BK413 2⟩ (fun hHeld => ?_)
              clear hK K
              refine nm_ 39 ?_
              refine one_ (i := 4) (N := some 40) #[true, true, true, true, true, false, false] rfl rfl (by kernel_rfl) (by decide) (fun K hK => ?_)
              refine gs_ Tryz.func33 #[.agg #[.bool t430, .string t431, .int .i64 t432], .agg #[.bool t433, .string t434, .int .i64 t435]] ?_
              with_reducible refine (dec_Cmp.calls kj33 t430 t431 t432 t433 t434 t435 t436 _ A69.out).mono ?_
              rintro e w158 ⟨rfl, hb⟩
              refine ⟨_, rfl, ?_⟩
              replace BK413 := bb_ BK413 hb
              replace BK414 := bb_ BK414 hb
              replace BK415 := bb_ BK415 hb
              replace BK423 := bb_ BK423 hb
              replace HB := Aside0.mk (below_step (bl_ HB).out hb)
              (try clear hb)
              (try clear hb2)
              (try clear hk)
              (try clear hi)
              refine hK.out _ _ ⟨bc_ BK414 0, bc_ BK414 1, bc_ BK414 2, bc_ BK413 0, bc_ BK413 1, bc_ BK413 2⟩ (fun hHeld => ?_)
              clear hK K
              refine nm_ 40 ?_
              refine pu0_ 5 41 #[true, true, true, true, true, true, false] ?_
              refine pu0_ 6 10 #[true, true, true, true, true, true, true] ?_
              refine done_ (by kernel_rfl) ?_
              try go_wp2
              replace BK413 := Aside0.mk (blk_drew BK413.out)
              replace BK414 := Aside0.mk (blk_drew BK414.out)
              replace BK415 := Aside0.mk (blk_drew BK415.out)
              replace BK423 := Aside0.mk (blk_drew BK423.out)
              replace HB := Aside0.mk (below_drew1 HB.out)
              refine start_ (n := 6) (S := fun w' => w'.cell? ⟨gb423, 0, none⟩ = some (.bool t420) ∧ w'.cell? ⟨gb423, 1, none⟩ = some (.string t421) ∧ w'.cell? ⟨gb423, 2, none⟩ = some (.int .i64 t422) ∧ w'.cell? ⟨gb415, 0, none⟩ = some (.bool a2_0) ∧ w'.cell? ⟨gb415, 1, none⟩ = some (.string a2_1) ∧ w'.cell? ⟨gb415, 2, none⟩ = some (.int .i64 a2_2)) (ds := []) #[false, false, false, false, false, false] (by kernel_rfl) rfl rfl ⟨bc_ BK423 0, bc_ BK423 1, bc_ BK423 2, bc_ BK415 0, bc_ BK415 1, bc_ BK415 2⟩ (fun hHeld => ?_)
              generalize w158.drew = w159 at BK413 BK414 BK415 BK423 HB hHeld ⊢
              refine tk0_ 0 42 #[true, false, false, false, false, false] hHeld rfl (by rintro w' ⟨s0, s1, s2, s3, s4, s5⟩; go_simp; with_reducible rfl) ?_
              refine tk0_ 3 45 #[true, false, false, true, false, false] hHeld rfl (by rintro w' ⟨s0, s1, s2, s3, s4, s5⟩; go_simp; with_reducible rfl) ?_
              refine one_ (i := 1) (N := some 43) #[true, true, false, true, false, false] rfl rfl (by kernel_rfl) (by decide) (fun K hK => ?_)
              refine gs_ Tryz.func34 #[.agg #[.bool t420, .string t421, .int .i64 t422]] ?_
              with_reducible refine (dec_Dec_Abs.calls kj33 t420 t421 t422 t437 t438 t439 _ A70.out).mono ?_
              rintro e w160 ⟨rfl, hb⟩
              refine ⟨_, rfl, ?_⟩
              replace BK413 := bb_ BK413 hb
              replace BK414 := bb_ BK414 hb
              replace BK415 := bb_ BK415 hb
              replace BK423 := bb_ BK423 hb
              replace HB := Aside0.mk (below_step (bl_ HB).out hb)
              (try clear hb)
              (try clear hb2)
              (try clear hk)
              (try clear hi)
              refine hK.out _ _ ⟨bc_ BK423 0, bc_ BK423 1, bc_ BK423 2, bc_ BK415 0, bc_ BK415 1, bc_ BK415 2⟩ (fun hHeld => ?_)
              clear hK K
              refine nm_ 43 ?_
              refine one_ (i := 2) (N := some 44) #[true, true, true, true, false, false] rfl rfl (by kernel_rfl) (by decide) (fun K hK => ?_)
              refine gs_ Tryz.func35 #[.agg #[.bool t437, .string t438, .int .i64 t439]] ?_
              with_reducible refine (florinlaw03_twice.calls kj33 t437 t438 t439 t440 t441 t442 _ A71.out).mono ?_
              rintro e w161 ⟨rfl, hb⟩
              refine ⟨_, rfl, ?_⟩
              replace BK413 := bb_ BK413 hb
              replace BK414 := bb_ BK414 hb
              replace BK415 := bb_ BK415 hb
              replace BK423 := bb_ BK423 hb
              replace HB := Aside0.mk (below_step (bl_ HB).out hb)
              (try clear hb)
              (try clear hb2)
              (try clear hk)
              (try clear hi)
              refine hK.out _ _ ⟨bc_ BK423 0, bc_ BK423 1, bc_ BK423 2, bc_ BK415 0, bc_ BK415 1, bc_ BK415 2⟩ (fun hHeld => ?_)
              clear hK K
              refine nm_ 44 ?_
              refine one_ (i := 4) (N := some 46) #[true, true, true, true, true, false] rfl rfl (by kernel_rfl) (by decide) (fun K hK => ?_)
              refine gs_ Tryz.func33 #[.agg #[.bool t440, .string t441, .int .i64 t442], .agg #[.bool a2_0, .string a2_1, .int .i64 a2_2]] ?_
              with_reducible refine (dec_Cmp.calls kj33 t440 t441 t442 a2_0 a2_1 a2_2 t443 _ A72.out).mono ?_
              rintro e w162 ⟨rfl, hb⟩
              refine ⟨_, rfl, ?_⟩
              replace BK413 := bb_ BK413 hb
              replace BK414 := bb_ BK414 hb
              replace BK415 := bb_ BK415 hb
              replace BK423 := bb_ BK423 hb
              replace HB := Aside0.mk (below_step (bl_ HB).out hb)
              (try clear hb)
              (try clear hb2)
              (try clear hk)
              (try clear hi)
              refine hK.out _ _ ⟨bc_ BK423 0, bc_ BK423 1, bc_ BK423 2, bc_ BK415 0, bc_ BK415 1, bc_ BK415 2⟩ (fun hHeld => ?_)
              clear hK K
              refine nm_ 46 ?_
              refine pu0_ 5 11 #[true, true, true, true, true, true] ?_
              refine done_ (by kernel_rfl) ?_
              try go_wp2
              go_ret
              exact ⟨ew_, (bl_ HB).out⟩
             ·rw [if_neg c154] at H
              have c154b0 : (t443 == 0) = false := beq_eq_false_iff_ne.mpr c154
              have c154b1 : (t443 != 0) = true := bne_iff_ne.mpr c154
              obtain rfl := Option.some.inj H
              try go_wp2
              replace BK413 := Aside0.mk (blk_drew BK413.out)
              replace BK414 := Aside0.mk (blk_drew BK414.out)
              replace BK415 := Aside0.mk (blk_drew BK415.out)
              replace BK423 := Aside0.mk (blk_drew BK423.out)
              replace HB := Aside0.mk (below_drew1 HB.out)
              refine start_ (n := 7) (S := fun w' => w'.cell? ⟨gb414, 0, none⟩ = some (.bool a1_0) ∧ w'.cell? ⟨gb414, 1, none⟩ = some (.string a1_1) ∧ w'.cell? ⟨gb414, 2, none⟩ = some (.int .i64 a1_2) ∧ w'.cell? ⟨gb413, 0, none⟩ = some (.bool t416) ∧ w'.cell? ⟨gb413, 1, none⟩ = some (.string t417) ∧ w'.cell? ⟨gb413, 2, none⟩ = some (.int .i64 t418)) (ds := []) #[false, false, false, false, false, false, false] (by kernel_rfl) rfl rfl ⟨bc_ BK414 0, bc_ BK414 1, bc_ BK414 2, bc_ BK413 0, bc_ BK413 1, bc_ BK413 2⟩ (fun hHeld => ?_)
              generalize wc.drew = w163 at BK413 BK414 BK415 BK423 HB hHeld ⊢
              refine tk0_ 0 36 #[true, false, false, false, false, false, false] hHeld rfl (by rintro w' ⟨s0, s1, s2, s3, s4, s5⟩; go_simp; with_reducible rfl) ?_
              refine tk0_ 2 38 #[true, false, true, false, false, false, false] hHeld rfl (by rintro w' ⟨s0, s1, s2, s3, s4, s5⟩; go_simp; with_reducible rfl) ?_
              refine one_ (i := 1) (N := some 37) #[true, true, true, false, false, false, false] rfl rfl (by kernel_rfl) (by decide) (fun K hK => ?_)
              refine gs_ Tryz.func34 #[.agg #[.bool a1_0, .string a1_1, .int .i64 a1_2]] ?_
              with_reducible refine (dec_Dec_Abs.calls kj33 a1_0 a1_1 a1_2 t430 t431 t432 _ A67.out).mono ?_
              rintro e w164 ⟨rfl, hb⟩
              refine ⟨_, rfl, ?_⟩
              replace BK413 := bb_ BK413 hb
              replace BK414 := bb_ BK414 hb
              replace BK415 := bb_ BK415 hb
              replace BK423 := bb_ BK423 hb
              replace HB := Aside0.mk (below_step (bl_ HB).out hb)
              (try clear hb)
              (try clear hb2)
              (try clear hk)
              (try clear hi)
              refine hK.out _ _ ⟨bc_ BK414 0, bc_ BK414 1, bc_ BK414 2, bc_ BK413 0, bc_ BK413 1, bc_ BK413 2⟩ (fun hHeld => ?_)
              clear hK K
              refine nm_ 37 ?_
              refine one_ (i := 3) (N := some 39) #[true, true, true, true, false, false, false] rfl rfl (by kernel_rfl) (by decide) (fun K hK => ?_)
              refine gs_ Tryz.func34 #[.agg #[.bool t416, .string t417, .int .i64 t418]] ?_
              with_reducible refine (dec_Dec_Abs.calls kj33 t416 t417 t418 t433 t434 t435 _ A68.out).mono ?_
              rintro e w165 ⟨rfl, hb⟩
              refine ⟨_, rfl, ?_⟩
              replace BK413 := bb_ BK413 hb
              replace BK414 := bb_ BK414 hb
              replace BK415 := bb_ BK415 hb
              replace BK423 := bb_ BK423 hb
              replace HB := Aside0.mk (below_step (bl_ HB).out hb)
              (try clear hb)
              (try clear hb2)
              (try clear hk)
              (try clear hi)
              refine hK.out _ _ ⟨bc_ BK414 0, bc_ BK414 1, bc_ BK414 2, bc_ BK413 0, bc_ BK413 1, bc_ BK413 2⟩ (fun hHeld => ?_)
              clear hK K
              refine nm_ 39 ?_
              refine one_ (i := 4) (N := some 40) #[true, true, true, true, true, false, false] rfl rfl (by kernel_rfl) (by decide) (fun K hK => ?_)
              refine gs_ Tryz.func33 #[.agg #[.bool t430, .string t431, .int .i64 t432], .agg #[.bool t433, .string t434, .int .i64 t435]] ?_
              with_reducible refine (dec_Cmp.calls kj33 t430 t431 t432 t433 t434 t435 t436 _ A69.out).mono ?_
              rintro e w166 ⟨rfl, hb⟩
              refine ⟨_, rfl, ?_⟩
              replace BK413 := bb_ BK413 hb
              replace BK414 := bb_ BK414 hb
              replace BK415 := bb_ BK415 hb
              replace BK423 := bb_ BK423 hb
              replace HB := Aside0.mk (below_step (bl_ HB).out hb)
              (try clear hb)
              (try clear hb2)
              (try clear hk)
              (try clear hi)
              refine hK.out _ _ ⟨bc_ BK414 0, bc_ BK414 1, bc_ BK414 2, bc_ BK413 0, bc_ BK413 1, bc_ BK413 2⟩ (fun hHeld => ?_)
              clear hK K
              refine nm_ 40 ?_
              refine pu0_ 5 41 #[true, true, true, true, true, true, false] ?_
              refine pu0_ 6 10 #[true, true, true, true, true, true, true] ?_
              refine done_ (by kernel_rfl) ?_
              try go_wp2
              replace BK413 := Aside0.mk (blk_drew BK413.out)
              replace BK414 := Aside0.mk (blk_drew BK414.out)
              replace BK415 := Aside0.mk (blk_drew BK415.out)
              replace BK423 := Aside0.mk (blk_drew BK423.out)
              replace HB := Aside0.mk (below_drew1 HB.out)
              refine start_ (n := 6) (S := fun w' => w'.cell? ⟨gb423, 0, none⟩ = some (.bool t420) ∧ w'.cell? ⟨gb423, 1, none⟩ = some (.string t421) ∧ w'.cell? ⟨gb423, 2, none⟩ = some (.int .i64 t422) ∧ w'.cell? ⟨gb415, 0, none⟩ = some (.bool a2_0) ∧ w'.cell? ⟨gb415, 1, none⟩ = some (.string a2_1) ∧ w'.cell? ⟨gb415, 2, none⟩ = some (.int .i64 a2_2)) (ds := []) #[false, false, false, false, false, false] (by kernel_rfl) rfl rfl ⟨bc_ BK423 0, bc_ BK423 1, bc_ BK423 2, bc_ BK415 0, bc_ BK415 1, bc_ BK415 2⟩ (fun hHeld => ?_)
              generalize w166.drew = w167 at BK413 BK414 BK415 BK423 HB hHeld ⊢
              refine tk0_ 0 42 #[true, false, false, false, false, false] hHeld rfl (by rintro w' ⟨s0, s1, s2, s3, s4, s5⟩; go_simp; with_reducible rfl) ?_
              refine tk0_ 3 45 #[true, false, false, true, false, false] hHeld rfl (by rintro w' ⟨s0, s1, s2, s3, s4, s5⟩; go_simp; with_reducible rfl) ?_
              refine one_ (i := 1) (N := some 43) #[true, true, false, true, false, false] rfl rfl (by kernel_rfl) (by decide) (fun K hK => ?_)
              refine gs_ Tryz.func34 #[.agg #[.bool t420, .string t421, .int .i64 t422]] ?_
              with_reducible refine (dec_Dec_Abs.calls kj33 t420 t421 t422 t437 t438 t439 _ A70.out).mono ?_
              rintro e w168 ⟨rfl, hb⟩
              refine ⟨_, rfl, ?_⟩
              replace BK413 := bb_ BK413 hb
              replace BK414 := bb_ BK414 hb
              replace BK415 := bb_ BK415 hb
              replace BK423 := bb_ BK423 hb
              replace HB := Aside0.mk (below_step (bl_ HB).out hb)
              (try clear hb)
              (try clear hb2)
              (try clear hk)
              (try clear hi)
              refine hK.out _ _ ⟨bc_ BK423 0, bc_ BK423 1, bc_ BK423 2, bc_ BK415 0, bc_ BK415 1, bc_ BK415 2⟩ (fun hHeld => ?_)
              clear hK K
              refine nm_ 43 ?_
              refine one_ (i := 2) (N := some 44) #[true, true, true, true, false, false] rfl rfl (by kernel_rfl) (by decide) (fun K hK => ?_)
              refine gs_ Tryz.func35 #[.agg #[.bool t437, .string t438, .int .i64 t439]] ?_
              with_reducible refine (florinlaw03_twice.calls kj33 t437 t438 t439 t440 t441 t442 _ A71.out).mono ?_
              rintro e w169 ⟨rfl, hb⟩
              refine ⟨_, rfl, ?_⟩
              replace BK413 := bb_ BK413 hb
              replace BK414 := bb_ BK414 hb
              replace BK415 := bb_ BK415 hb
              replace BK423 := bb_ BK423 hb
              replace HB := Aside0.mk (below_step (bl_ HB).out hb)
              (try clear hb)
              (try clear hb2)
              (try clear hk)
              (try clear hi)
              refine hK.out _ _ ⟨bc_ BK423 0, bc_ BK423 1, bc_ BK423 2, bc_ BK415 0, bc_ BK415 1, bc_ BK415 2⟩ (fun hHeld => ?_)
              clear hK K
              refine nm_ 44 ?_
              refine one_ (i := 4) (N := some 46) #[true, true, true, true, true, false] rfl rfl (by kernel_rfl) (by decide) (fun K hK => ?_)
              refine gs_ Tryz.func33 #[.agg #[.bool t440, .string t441, .int .i64 t442], .agg #[.bool a2_0, .string a2_1, .int .i64 a2_2]] ?_
              with_reducible refine (dec_Cmp.calls kj33 t440 t441 t442 a2_0 a2_1 a2_2 t443 _ A72.out).mono ?_
              rintro e w170 ⟨rfl, hb⟩
              refine ⟨_, rfl, ?_⟩
              replace BK413 := bb_ BK413 hb
              replace BK414 := bb_ BK414 hb
              replace BK415 := bb_ BK415 hb
              replace BK423 := bb_ BK423 hb
              replace HB := Aside0.mk (below_step (bl_ HB).out hb)
              (try clear hb)
              (try clear hb2)
              (try clear hk)
              (try clear hi)
              refine hK.out _ _ ⟨bc_ BK423 0, bc_ BK423 1, bc_ BK423 2, bc_ BK415 0, bc_ BK415 1, bc_ BK415 2⟩ (fun hHeld => ?_)
              clear hK K
              refine nm_ 46 ?_
              refine pu0_ 5 11 #[true, true, true, true, true, true] ?_
              refine done_ (by kernel_rfl) ?_
              try go_wp2
              go_ret
              exact ⟨ew_, (bl_ HB).out⟩
           ·rw [if_neg c144] at H
            have c144b0 : (a3 == 2) = false := beq_eq_false_iff_ne.mpr c144
            have c144b1 : (a3 != 2) = true := bne_iff_ne.mpr c144
            by_cases c171 : t443 < 0
            ·rw [if_pos c171] at H
             have c171b0 : decide (t443 < 0) = true := decide_eq_true c171
             clear c171
             obtain rfl := Option.some.inj H
             try go_wp2
             replace BK413 := Aside0.mk (blk_drew BK413.out)
             replace BK414 := Aside0.mk (blk_drew BK414.out)
             replace BK415 := Aside0.mk (blk_drew BK415.out)
             replace BK423 := Aside0.mk (blk_drew BK423.out)
             replace HB := Aside0.mk (below_drew1 HB.out)
             refine start_ (n := 7) (S := fun w' => w'.cell? ⟨gb414, 0, none⟩ = some (.bool a1_0) ∧ w'.cell? ⟨gb414, 1, none⟩ = some (.string a1_1) ∧ w'.cell? ⟨gb414, 2, none⟩ = some (.int .i64 a1_2) ∧ w'.cell? ⟨gb413, 0, none⟩ = some (.bool t416) ∧ w'.cell? ⟨gb413, 1, none⟩ = some (.string t417) ∧ w'.cell? ⟨gb413, 2, none⟩ = some (.int .i64 t418)) (ds := []) #[false, false, false, false, false, false, false] (by kernel_rfl) rfl rfl ⟨bc_ BK414 0, bc_ BK414 1, bc_ BK414 2, bc_ BK413 0, bc_ BK413 1, bc_ BK413 2⟩ (fun hHeld => ?_)
             generalize wc.drew = w172 at BK413 BK414 BK415 BK423 HB hHeld ⊢
             refine tk0_ 0 36 #[true, false, false, false, false, false, false] hHeld rfl (by rintro w' ⟨s0, s1, s2, s3, s4, s5⟩; go_simp; with_reducible rfl) ?_
             refine tk0_ 2 38 #[true, false, true, false, false, false, false] hHeld rfl (by rintro w' ⟨s0, s1, s2, s3, s4, s5⟩; go_simp; with_reducible rfl) ?_
             refine one_ (i := 1) (N := some 37) #[true, true, true, false, false, false, false] rfl rfl (by kernel_rfl) (by decide) (fun K hK => ?_)
             refine gs_ Tryz.func34 #[.agg #[.bool a1_0, .string a1_1, .int .i64 a1_2]] ?_
             with_reducible refine (dec_Dec_Abs.calls kj33 a1_0 a1_1 a1_2 t430 t431 t432 _ A67.out).mono ?_
             rintro e w173 ⟨rfl, hb⟩
             refine ⟨_, rfl, ?_⟩
             replace BK413 := bb_ BK413 hb
             replace BK414 := bb_ BK414 hb
             replace BK415 := bb_ BK415 hb
             replace BK423 := bb_ BK423 hb
             replace HB := Aside0.mk (below_step (bl_ HB).out hb)
             (try clear hb)
             (try clear hb2)
             (try clear hk)
             (try clear hi)
             refine hK.out _ _ ⟨bc_ BK414 0, bc_ BK414 1, bc_ BK414 2, bc_ BK413 0, bc_ BK413 1, bc_ BK413 2⟩ (fun hHeld => ?_)
             clear hK K
             refine nm_ 37 ?_
             refine one_ (i := 3) (N := some 39) #[true, true, true, true, false, false, false] rfl rfl (by kernel_rfl) (by decide) (fun K hK => ?_)
             refine gs_ Tryz.func34 #[.agg #[.bool t416, .string t417, .int .i64 t418]] ?_
             with_reducible refine (dec_Dec_Abs.calls kj33 t416 t417 t418 t433 t434 t435 _ A68.out).mono ?_
             rintro e w174 ⟨rfl, hb⟩
             refine ⟨_, rfl, ?_⟩
             replace BK413 := bb_ BK413 hb
             replace BK414 := bb_ BK414 hb
             replace BK415 := bb_ BK415 hb
             replace BK423 := bb_ BK423 hb
             replace HB := Aside0.mk (below_step (bl_ HB).out hb)
             (try clear hb)
             (try clear hb2)
             (try clear hk)
             (try clear hi)
             refine hK.out _ _ ⟨bc_ BK414 0, bc_ BK414 1, bc_ BK414 2, bc_ BK413 0, bc_ BK413 1, bc_ BK413 2⟩ (fun hHeld => ?_)
             clear hK K
             refine nm_ 39 ?_
             refine one_ (i := 4) (N := some 40) #[true, true, true, true, true, false, false] rfl rfl (by kernel_rfl) (by decide) (fun K hK => ?_)
             refine gs_ Tryz.func33 #[.agg #[.bool t430, .string t431, .int .i64 t432], .agg #[.bool t433, .string t434, .int .i64 t435]] ?_
             with_reducible refine (dec_Cmp.calls kj33 t430 t431 t432 t433 t434 t435 t436 _ A69.out).mono ?_
             rintro e w175 ⟨rfl, hb⟩
             refine ⟨_, rfl, ?_⟩
             replace BK413 := bb_ BK413 hb
             replace BK414 := bb_ BK414 hb
             replace BK415 := bb_ BK415 hb
             replace BK423 := bb_ BK423 hb
             replace HB := Aside0.mk (below_step (bl_ HB).out hb)
             (try clear hb)
             (try clear hb2)
             (try clear hk)
             (try clear hi)
             refine hK.out _ _ ⟨bc_ BK414 0, bc_ BK414 1, bc_ BK414 2, bc_ BK413 0, bc_ BK413 1, bc_ BK413 2⟩ (fun hHeld => ?_)
             clear hK K
             refine nm_ 40 ?_
             refine pu0_ 5 41 #[true, true, true, true, true, true, false] ?_
             refine pu0_ 6 10 #[true, true, true, true, true, true, true] ?_
             refine done_ (by kernel_rfl) ?_
             try go_wp2
             replace BK413 := Aside0.mk (blk_drew BK413.out)
             replace BK414 := Aside0.mk (blk_drew BK414.out)
             replace BK415 := Aside0.mk (blk_drew BK415.out)
             replace BK423 := Aside0.mk (blk_drew BK423.out)
             replace HB := Aside0.mk (below_drew1 HB.out)
             refine start_ (n := 6) (S := fun w' => w'.cell? ⟨gb423, 0, none⟩ = some (.bool t420) ∧ w'.cell? ⟨gb423, 1, none⟩ = some (.string t421) ∧ w'.cell? ⟨gb423, 2, none⟩ = some (.int .i64 t422) ∧ w'.cell? ⟨gb415, 0, none⟩ = some (.bool a2_0) ∧ w'.cell? ⟨gb415, 1, none⟩ = some (.string a2_1) ∧ w'.cell? ⟨gb415, 2, none⟩ = some (.int .i64 a2_2)) (ds := []) #[false, false, false, false, false, false] (by kernel_rfl) rfl rfl ⟨bc_ BK423 0, bc_ BK423 1, bc_ BK423 2, bc_ BK415 0, bc_ BK415 1, bc_ BK415 2⟩ (fun hHeld => ?_)
             generalize w175.drew = w176 at BK413 BK414 BK415 BK423 HB hHeld ⊢
             refine tk0_ 0 42 #[true, false, false, false, false, false] hHeld rfl (by rintro w' ⟨s0, s1, s2, s3, s4, s5⟩; go_simp; with_reducible rfl) ?_
             refine tk0_ 3 45 #[true, false, false, true, false, false] hHeld rfl (by rintro w' ⟨s0, s1, s2, s3, s4, s5⟩; go_simp; with_reducible rfl) ?_
             refine one_ (i := 1) (N := some 43) #[true, true, false, true, false, false] rfl rfl (by kernel_rfl) (by decide) (fun K hK => ?_)
             refine gs_ Tryz.func34 #[.agg #[.bool t420, .string t421, .int .i64 t422]] ?_
             with_reducible refine (dec_Dec_Abs.calls kj33 t420 t421 t422 t437 t438 t439 _ A70.out).mono ?_
             rintro e w177 ⟨rfl, hb⟩
             refine ⟨_, rfl, ?_⟩
             replace BK413 := bb_ BK413 hb
             replace BK414 := bb_ BK414 hb
             replace BK415 := bb_ BK415 hb
             replace BK423 := bb_ BK423 hb
             replace HB := Aside0.mk (below_step (bl_ HB).out hb)
             (try clear hb)
             (try clear hb2)
             (try clear hk)
             (try clear hi)
             refine hK.out _ _ ⟨bc_ BK423 0, bc_ BK423 1, bc_ BK423 2, bc_ BK415 0, bc_ BK415 1, bc_ BK415 2⟩ (fun hHeld => ?_)
             clear hK K
             refine nm_ 43 ?_
             refine one_ (i := 2) (N := some 44) #[true, true, true, true, false, false] rfl rfl (by kernel_rfl) (by decide) (fun K hK => ?_)
             refine gs_ Tryz.func35 #[.agg #[.bool t437, .string t438, .int .i64 t439]] ?_
             with_reducible refine (florinlaw03_twice.calls kj33 t437 t438 t439 t440 t441 t442 _ A71.out).mono ?_
             rintro e w178 ⟨rfl, hb⟩
             refine ⟨_, rfl, ?_⟩
             replace BK413 := bb_ BK413 hb
             replace BK414 := bb_ BK414 hb
             replace BK415 := bb_ BK415 hb
             replace BK423 := bb_ BK423 hb
             replace HB := Aside0.mk (below_step (bl_ HB).out hb)
             (try clear hb)
             (try clear hb2)
             (try clear hk)
             (try clear hi)
             refine hK.out _ _ ⟨bc_ BK423 0, bc_ BK423 1, bc_ BK423 2, bc_ BK415 0, bc_ BK415 1, bc_ BK415 2⟩ (fun hHeld => ?_)
             clear hK K
             refine nm_ 44 ?_
             refine one_ (i := 4) (N := some 46) #[true, true, true, true, true, false] rfl rfl (by kernel_rfl) (by decide) (fun K hK => ?_)
             refine gs_ Tryz.func33 #[.agg #[.bool t440, .string t441, .int .i64 t442], .agg #[.bool a2_0, .string a2_1, .int .i64 a2_2]] ?_
             with_reducible refine (dec_Cmp.calls kj33 t440 t441 t442 a2_0 a2_1 a2_2 t443 _ A72.out).mono ?_
             rintro e w179 ⟨rfl, hb⟩
             refine ⟨_, rfl, ?_⟩
             replace BK413 := bb_ BK413 hb
             replace BK414 := bb_ BK414 hb
             replace BK415 := bb_ BK415 hb
             replace BK423 := bb_ BK423 hb
             replace HB := Aside0.mk (below_step (bl_ HB).out hb)
             (try clear hb)
             (try clear hb2)
             (try clear hk)
             (try clear hi)
             refine hK.out _ _ ⟨bc_ BK423 0, bc_ BK423 1, bc_ BK423 2, bc_ BK415 0, bc_ BK415 1, bc_ BK415 2⟩ (fun hHeld => ?_)
             clear hK K
             refine nm_ 46 ?_
             refine pu0_ 5 11 #[true, true, true, true, true, true] ?_
             refine done_ (by kernel_rfl) ?_
             try go_wp2
             go_ret
             exact ⟨ew_, (bl_ HB).out⟩
            ·rw [if_neg c171] at H
             have c171b0 : decide (t443 < 0) = false := decide_eq_false c171
             clear c171
             by_cases c180 : t443 = 0
             ·rw [if_pos c180] at H
              have c180b0 : (t443 == 0) = true := beq_iff_eq.mpr c180
              have c180b1 : (t443 != 0) = false := bne_eq_false_iff_eq.mpr c180
              clear c180
              replace H := Option.bind_eq_some_iff.mp H
              obtain ⟨t444, A1810, H⟩ := H
              replace H : (some t444) = some r := H
              have A181 := Aside0.mk A1810
              clear A1810
              obtain rfl := Option.some.inj H
              try go_wp2
              replace BK413 := Aside0.mk (blk_drew BK413.out)
              replace BK414 := Aside0.mk (blk_drew BK414.out)
              replace BK415 := Aside0.mk (blk_drew BK415.out)
              replace BK423 := Aside0.mk (blk_drew BK423.out)
              replace HB := Aside0.mk (below_drew1 HB.out)
              refine start_ (n := 7) (S := fun w' => w'.cell? ⟨gb414, 0, none⟩ = some (.bool a1_0) ∧ w'.cell? ⟨gb414, 1, none⟩ = some (.string a1_1) ∧ w'.cell? ⟨gb414, 2, none⟩ = some (.int .i64 a1_2) ∧ w'.cell? ⟨gb413, 0, none⟩ = some (.bool t416) ∧ w'.cell? ⟨gb413, 1, none⟩ = some (.string t417) ∧ w'.cell? ⟨gb413, 2, none⟩ = some (.int .i64 t418)) (ds := []) #[false, false, false, false, false, false, false] (by kernel_rfl) rfl rfl ⟨bc_ BK414 0, bc_ BK414 1, bc_ BK414 2, bc_ BK413 0, bc_ BK413 1, bc_ BK413 2⟩ (fun hHeld => ?_)
              generalize wc.drew = w182 at BK413 BK414 BK415 BK423 HB hHeld ⊢
              refine tk0_ 0 36 #[true, false, false, false, false, false, false] hHeld rfl (by rintro w' ⟨s0, s1, s2, s3, s4, s5⟩; go_simp; with_reducible rfl) ?_
              refine tk0_ 2 38 #[true, false, true, false, false, false, false] hHeld rfl (by rintro w' ⟨s0, s1, s2, s3, s4, s5⟩; go_simp; with_reducible rfl) ?_
              refine one_ (i := 1) (N := some 37) #[true, true, true, false, false, false, false] rfl rfl (by kernel_rfl) (by decide) (fun K hK => ?_)
              refine gs_ Tryz.func34 #[.agg #[.bool a1_0, .string a1_1, .int .i64 a1_2]] ?_
              with_reducible refine (dec_Dec_Abs.calls kj33 a1_0 a1_1 a1_2 t430 t431 t432 _ A67.out).mono ?_
              rintro e w183 ⟨rfl, hb⟩
              refine ⟨_, rfl, ?_⟩
              replace BK413 := bb_ BK413 hb
              replace BK414 := bb_ BK414 hb
              replace BK415 := bb_ BK415 hb
              replace BK423 := bb_ BK423 hb
              replace HB := Aside0.mk (below_step (bl_ HB).out hb)
              (try clear hb)
              (try clear hb2)
              (try clear hk)
              (try clear hi)
              refine hK.out _ _ ⟨bc_ BK414 0, bc_ BK414 1, bc_ BK414 2, bc_ BK413 0, bc_ BK413 1, bc_ BK413 2⟩ (fun hHeld => ?_)
              clear hK K
              refine nm_ 37 ?_
              refine one_ (i := 3) (N := some 39) #[true, true, true, true, false, false, false] rfl rfl (by kernel_rfl) (by decide) (fun K hK => ?_)
              refine gs_ Tryz.func34 #[.agg #[.bool t416, .string t417, .int .i64 t418]] ?_
              with_reducible refine (dec_Dec_Abs.calls kj33 t416 t417 t418 t433 t434 t435 _ A68.out).mono ?_
              rintro e w184 ⟨rfl, hb⟩
              refine ⟨_, rfl, ?_⟩
              replace BK413 := bb_ BK413 hb
              replace BK414 := bb_ BK414 hb
              replace BK415 := bb_ BK415 hb
              replace BK423 := bb_ BK423 hb
              replace HB := Aside0.mk (below_step (bl_ HB).out hb)
              (try clear hb)
              (try clear hb2)
              (try clear hk)
              (try clear hi)
              refine hK.out _ _ ⟨bc_ BK414 0, bc_ BK414 1, bc_ BK414 2, bc_ BK413 0, bc_ BK413 1, bc_ BK413 2⟩ (fun hHeld => ?_)
              clear hK K
              refine nm_ 39 ?_
              refine one_ (i := 4) (N := some 40) #[true, true, true, true, true, false, false] rfl rfl (by kernel_rfl) (by decide) (fun K hK => ?_)
              refine gs_ Tryz.func33 #[.agg #[.bool t430, .string t431, .int .i64 t432], .agg #[.bool t433, .string t434, .int .i64 t435]] ?_
              with_reducible refine (dec_Cmp.calls kj33 t430 t431 t432 t433 t434 t435 t436 _ A69.out).mono ?_
              rintro e w185 ⟨rfl, hb⟩
              refine ⟨_, rfl, ?_⟩
              replace BK413 := bb_ BK413 hb
              replace BK414 := bb_ BK414 hb
              replace BK415 := bb_ BK415 hb
              replace BK423 := bb_ BK423 hb
              replace HB := Aside0.mk (below_step (bl_ HB).out hb)
              (try clear hb)
              (try clear hb2)
              (try clear hk)
              (try clear hi)
              refine hK.out _ _ ⟨bc_ BK414 0, bc_ BK414 1, bc_ BK414 2, bc_ BK413 0, bc_ BK413 1, bc_ BK413 2⟩ (fun hHeld => ?_)
              clear hK K
              refine nm_ 40 ?_
              refine pu0_ 5 41 #[true, true, true, true, true, true, false] ?_
              refine pu0_ 6 10 #[true, true, true, true, true, true, true] ?_
              refine done_ (by kernel_rfl) ?_
              try go_wp2
              replace BK413 := Aside0.mk (blk_drew BK413.out)
              replace BK414 := Aside0.mk (blk_drew BK414.out)
              replace BK415 := Aside0.mk (blk_drew BK415.out)
              replace BK423 := Aside0.mk (blk_drew BK423.out)
              replace HB := Aside0.mk (below_drew1 HB.out)
              refine start_ (n := 6) (S := fun w' => w'.cell? ⟨gb423, 0, none⟩ = some (.bool t420) ∧ w'.cell? ⟨gb423, 1, none⟩ = some (.string t421) ∧ w'.cell? ⟨gb423, 2, none⟩ = some (.int .i64 t422) ∧ w'.cell? ⟨gb415, 0, none⟩ = some (.bool a2_0) ∧ w'.cell? ⟨gb415, 1, none⟩ = some (.string a2_1) ∧ w'.cell? ⟨gb415, 2, none⟩ = some (.int .i64 a2_2)) (ds := []) #[false, false, false, false, false, false] (by kernel_rfl) rfl rfl ⟨bc_ BK423 0, bc_ BK423 1, bc_ BK423 2, bc_ BK415 0, bc_ BK415 1, bc_ BK415 2⟩ (fun hHeld => ?_)
              generalize w185.drew = w186 at BK413 BK414 BK415 BK423 HB hHeld ⊢
              refine tk0_ 0 42 #[true, false, false, false, false, false] hHeld rfl (by rintro w' ⟨s0, s1, s2, s3, s4, s5⟩; go_simp; with_reducible rfl) ?_
              refine tk0_ 3 45 #[true, false, false, true, false, false] hHeld rfl (by rintro w' ⟨s0, s1, s2, s3, s4, s5⟩; go_simp; with_reducible rfl) ?_
              refine one_ (i := 1) (N := some 43) #[true, true, false, true, false, false] rfl rfl (by kernel_rfl) (by decide) (fun K hK => ?_)
              refine gs_ Tryz.func34 #[.agg #[.bool t420, .string t421, .int .i64 t422]] ?_
              with_reducible refine (dec_Dec_Abs.calls kj33 t420 t421 t422 t437 t438 t439 _ A70.out).mono ?_
              rintro e w187 ⟨rfl, hb⟩
              refine ⟨_, rfl, ?_⟩
              replace BK413 := bb_ BK413 hb
              replace BK414 := bb_ BK414 hb
              replace BK415 := bb_ BK415 hb
              replace BK423 := bb_ BK423 hb
              replace HB := Aside0.mk (below_step (bl_ HB).out hb)
              (try clear hb)
              (try clear hb2)
              (try clear hk)
              (try clear hi)
              refine hK.out _ _ ⟨bc_ BK423 0, bc_ BK423 1, bc_ BK423 2, bc_ BK415 0, bc_ BK415 1, bc_ BK415 2⟩ (fun hHeld => ?_)
              clear hK K
              refine nm_ 43 ?_
              refine one_ (i := 2) (N := some 44) #[true, true, true, true, false, false] rfl rfl (by kernel_rfl) (by decide) (fun K hK => ?_)
              refine gs_ Tryz.func35 #[.agg #[.bool t437, .string t438, .int .i64 t439]] ?_
              with_reducible refine (florinlaw03_twice.calls kj33 t437 t438 t439 t440 t441 t442 _ A71.out).mono ?_
              rintro e w188 ⟨rfl, hb⟩
              refine ⟨_, rfl, ?_⟩
              replace BK413 := bb_ BK413 hb
              replace BK414 := bb_ BK414 hb
              replace BK415 := bb_ BK415 hb
              replace BK423 := bb_ BK423 hb
              replace HB := Aside0.mk (below_step (bl_ HB).out hb)
              (try clear hb)
              (try clear hb2)
              (try clear hk)
              (try clear hi)
              refine hK.out _ _ ⟨bc_ BK423 0, bc_ BK423 1, bc_ BK423 2, bc_ BK415 0, bc_ BK415 1, bc_ BK415 2⟩ (fun hHeld => ?_)
              clear hK K
              refine nm_ 44 ?_
              refine one_ (i := 4) (N := some 46) #[true, true, true, true, true, false] rfl rfl (by kernel_rfl) (by decide) (fun K hK => ?_)
              refine gs_ Tryz.func33 #[.agg #[.bool t440, .string t441, .int .i64 t442], .agg #[.bool a2_0, .string a2_1, .int .i64 a2_2]] ?_
              with_reducible refine (dec_Cmp.calls kj33 t440 t441 t442 a2_0 a2_1 a2_2 t443 _ A72.out).mono ?_
              rintro e w189 ⟨rfl, hb⟩
              refine ⟨_, rfl, ?_⟩
              replace BK413 := bb_ BK413 hb
              replace BK414 := bb_ BK414 hb
              replace BK415 := bb_ BK415 hb
              replace BK423 := bb_ BK423 hb
              replace HB := Aside0.mk (below_step (bl_ HB).out hb)
              (try clear hb)
              (try clear hb2)
              (try clear hk)
              (try clear hi)
              refine hK.out _ _ ⟨bc_ BK423 0, bc_ BK423 1, bc_ BK423 2, bc_ BK415 0, bc_ BK415 1, bc_ BK415 2⟩ (fun hHeld => ?_)
              clear hK K
              refine nm_ 46 ?_
              refine pu0_ 5 11 #[true, true, true, true, true, true] ?_
              refine done_ (by kernel_rfl) ?_
              have hnb190 := NB414_413.out
              have hnc190 := NB413_414.out
              have hnb191 := NB414_415.out
              have hnc191 := NB415_414.out
              have hnb192 := NB414_423.out
              have hnc192 := NB423_414.out
              obtain ⟨hcz193_0, hcz193_1, hcz193_2, hfz193_0, hfz193_1, hfz193_2⟩ := bo3_ BK414
              have hnb194 := NB415_413.out
              have hnc194 := NB413_415.out
              have hnb195 := NB415_423.out
              have hnc195 := NB423_415.out
              obtain ⟨hcz196_0, hcz196_1, hcz196_2, hfz196_0, hfz196_1, hfz196_2⟩ := bo3_ BK415
              try go_wp2_with (first | (go_at_call 36; (with_reducible refine (florinlaw03_even.calls kj33 a1_0 a1_1 a1_2 a2_0 a2_1 a2_2 t444 _ A181.out).mono ?_); rintro e w197 ⟨rfl, hb⟩; replace BK413 := bb_ BK413 hb; replace BK414 := bb_ BK414 hb; replace BK415 := bb_ BK415 hb; replace BK423 := bb_ BK423 hb; replace HB := Aside0.mk (below_step (bl_ HB).out hb); (try clear hb); (try clear hb2); (try clear hk); (try clear hi)))
              go_ret
              exact ⟨ew_, (bl_ HB).out⟩
             ·rw [if_neg c180] at H
              have c180b0 : (t443 == 0) = false := beq_eq_false_iff_ne.mpr c180
              have c180b1 : (t443 != 0) = true := bne_iff_ne.mpr c180
              obtain rfl := Option.some.inj H
              try go_wp2
              replace BK413 := Aside0.mk (blk_drew BK413.out)
              replace BK414 := Aside0.mk (blk_drew BK414.out)
              replace BK415 := Aside0.mk (blk_drew BK415.out)
              replace BK423 := Aside0.mk (blk_drew BK423.out)
              replace HB := Aside0.mk (below_drew1 HB.out)
              refine start_ (n := 7) (S := fun w' => w'.cell? ⟨gb414, 0, none⟩ = some (.bool a1_0) ∧ w'.cell? ⟨gb414, 1, none⟩ = some (.string a1_1) ∧ w'.cell? ⟨gb414, 2, none⟩ = some (.int .i64 a1_2) ∧ w'.cell? ⟨gb413, 0, none⟩ = some (.bool t416) ∧ w'.cell? ⟨gb413, 1, none⟩ = some (.string t417) ∧ w'.cell? ⟨gb413, 2, none⟩ = some (.int .i64 t418)) (ds := []) #[false, false, false, false, false, false, false] (by kernel_rfl) rfl rfl ⟨bc_ BK414 0, bc_ BK414 1, bc_ BK414 2, bc_ BK413 0, bc_ BK413 1, bc_ BK413 2⟩ (fun hHeld => ?_)
              generalize wc.drew = w198 at BK413 BK414 BK415 BK423 HB hHeld ⊢
              refine tk0_ 0 36 #[true, false, false, false, false, false, false] hHeld rfl (by rintro w' ⟨s0, s1, s2, s3, s4, s5⟩; go_simp; with_reducible rfl) ?_
              refine tk0_ 2 38 #[true, false, true, false, false, false, false] hHeld rfl (by rintro w' ⟨s0, s1, s2, s3, s4, s5⟩; go_simp; with_reducible rfl) ?_
              refine one_ (i := 1) (N := some 37) #[true, true, true, false, false, false, false] rfl rfl (by kernel_rfl) (by decide) (fun K hK => ?_)
              refine gs_ Tryz.func34 #[.agg #[.bool a1_0, .string a1_1, .int .i64 a1_2]] ?_
              with_reducible refine (dec_Dec_Abs.calls kj33 a1_0 a1_1 a1_2 t430 t431 t432 _ A67.out).mono ?_
              rintro e w199 ⟨rfl, hb⟩
              refine ⟨_, rfl, ?_⟩
              replace BK413 := bb_ BK413 hb
              replace BK414 := bb_ BK414 hb
              replace BK415 := bb_ BK415 hb
              replace BK423 := bb_ BK423 hb
              replace HB := Aside0.mk (below_step (bl_ HB).out hb)
              (try clear hb)
              (try clear hb2)
              (try clear hk)
              (try clear hi)
              refine hK.out _ _ ⟨bc_ BK414 0, bc_ BK414 1, bc_ BK414 2, bc_ BK413 0, bc_ BK413 1, bc_ BK413 2⟩ (fun hHeld => ?_)
              clear hK K
              refine nm_ 37 ?_
              refine one_ (i := 3) (N := some 39) #[true, true, true, true, false, false, false] rfl rfl (by kernel_rfl) (by decide) (fun K hK => ?_)
              refine gs_ Tryz.func34 #[.agg #[.bool t416, .string t417, .int .i64 t418]] ?_
              with_reducible refine (dec_Dec_Abs.calls kj33 t416 t417 t418 t433 t434 t435 _ A68.out).mono ?_
              rintro e w200 ⟨rfl, hb⟩
              refine ⟨_, rfl, ?_⟩
              replace BK413 := bb_ BK413 hb
              replace BK414 := bb_ BK414 hb
              replace BK415 := bb_ BK415 hb
              replace BK423 := bb_ BK423 hb
              replace HB := Aside0.mk (below_step (bl_ HB).out hb)
              (try clear hb)
              (try clear hb2)
              (try clear hk)
              (try clear hi)
              refine hK.out _ _ ⟨bc_ BK414 0, bc_ BK414 1, bc_ BK414 2, bc_ BK413 0, bc_ BK413 1, bc_ BK413 2⟩ (fun hHeld => ?_)
              clear hK K
              refine nm_ 39 ?_
              refine one_ (i := 4) (N := some 40) #[true, true, true, true, true, false, false] rfl rfl (by kernel_rfl) (by decide) (fun K hK => ?_)
              refine gs_ Tryz.func33 #[.agg #[.bool t430, .string t431, .int .i64 t432], .agg #[.bool t433, .string t434, .int .i64 t435]] ?_
              with_reducible refine (dec_Cmp.calls kj33 t430 t431 t432 t433 t434 t435 t436 _ A69.out).mono ?_
              rintro e w201 ⟨rfl, hb⟩
              refine ⟨_, rfl, ?_⟩
              replace BK413 := bb_ BK413 hb
              replace BK414 := bb_ BK414 hb
              replace BK415 := bb_ BK415 hb
              replace BK423 := bb_ BK423 hb
              replace HB := Aside0.mk (below_step (bl_ HB).out hb)
              (try clear hb)
              (try clear hb2)
              (try clear hk)
              (try clear hi)
              refine hK.out _ _ ⟨bc_ BK414 0, bc_ BK414 1, bc_ BK414 2, bc_ BK413 0, bc_ BK413 1, bc_ BK413 2⟩ (fun hHeld => ?_)
              clear hK K
              refine nm_ 40 ?_
              refine pu0_ 5 41 #[true, true, true, true, true, true, false] ?_
              refine pu0_ 6 10 #[true, true, true, true, true, true, true] ?_
              refine done_ (by kernel_rfl) ?_
              try go_wp2
              replace BK413 := Aside0.mk (blk_drew BK413.out)
              replace BK414 := Aside0.mk (blk_drew BK414.out)
              replace BK415 := Aside0.mk (blk_drew BK415.out)
              replace BK423 := Aside0.mk (blk_drew BK423.out)
              replace HB := Aside0.mk (below_drew1 HB.out)
              refine start_ (n := 6) (S := fun w' => w'.cell? ⟨gb423, 0, none⟩ = some (.bool t420) ∧ w'.cell? ⟨gb423, 1, none⟩ = some (.string t421) ∧ w'.cell? ⟨gb423, 2, none⟩ = some (.int .i64 t422) ∧ w'.cell? ⟨gb415, 0, none⟩ = some (.bool a2_0) ∧ w'.cell? ⟨gb415, 1, none⟩ = some (.string a2_1) ∧ w'.cell? ⟨gb415, 2, none⟩ = some (.int .i64 a2_2)) (ds := []) #[false, false, false, false, false, false] (by kernel_rfl) rfl rfl ⟨bc_ BK423 0, bc_ BK423 1, bc_ BK423 2, bc_ BK415 0, bc_ BK415 1, bc_ BK415 2⟩ (fun hHeld => ?_)
              generalize w201.drew = w202 at BK413 BK414 BK415 BK423 HB hHeld ⊢
              refine tk0_ 0 42 #[true, false, false, false, false, false] hHeld rfl (by rintro w' ⟨s0, s1, s2, s3, s4, s5⟩; go_simp; with_reducible rfl) ?_
              refine tk0_ 3 45 #[true, false, false, true, false, false] hHeld rfl (by rintro w' ⟨s0, s1, s2, s3, s4, s5⟩; go_simp; with_reducible rfl) ?_
              refine one_ (i := 1) (N := some 43) #[true, true, false, true, false, false] rfl rfl (by kernel_rfl) (by decide) (fun K hK => ?_)
              refine gs_ Tryz.func34 #[.agg #[.bool t420, .string t421, .int .i64 t422]] ?_
              with_reducible refine (dec_Dec_Abs.calls kj33 t420 t421 t422 t437 t438 t439 _ A70.out).mono ?_
              rintro e w203 ⟨rfl, hb⟩
              refine ⟨_, rfl, ?_⟩
              replace BK413 := bb_ BK413 hb
              replace BK414 := bb_ BK414 hb
              replace BK415 := bb_ BK415 hb
              replace BK423 := bb_ BK423 hb
              replace HB := Aside0.mk (below_step (bl_ HB).out hb)
              (try clear hb)
              (try clear hb2)
              (try clear hk)
              (try clear hi)
              refine hK.out _ _ ⟨bc_ BK423 0, bc_ BK423 1, bc_ BK423 2, bc_ BK415 0, bc_ BK415 1, bc_ BK415 2⟩ (fun hHeld => ?_)
              clear hK K
              refine nm_ 43 ?_
              refine one_ (i := 2) (N := some 44) #[true, true, true, true, false, false] rfl rfl (by kernel_rfl) (by decide) (fun K hK => ?_)
              refine gs_ Tryz.func35 #[.agg #[.bool t437, .string t438, .int .i64 t439]] ?_
              with_reducible refine (florinlaw03_twice.calls kj33 t437 t438 t439 t440 t441 t442 _ A71.out).mono ?_
              rintro e w204 ⟨rfl, hb⟩
              refine ⟨_, rfl, ?_⟩
              replace BK413 := bb_ BK413 hb
              replace BK414 := bb_ BK414 hb
              replace BK415 := bb_ BK415 hb
              replace BK423 := bb_ BK423 hb
              replace HB := Aside0.mk (below_step (bl_ HB).out hb)
              (try clear hb)
              (try clear hb2)
              (try clear hk)
              (try clear hi)
              refine hK.out _ _ ⟨bc_ BK423 0, bc_ BK423 1, bc_ BK423 2, bc_ BK415 0, bc_ BK415 1, bc_ BK415 2⟩ (fun hHeld => ?_)
              clear hK K
              refine nm_ 44 ?_
              refine one_ (i := 4) (N := some 46) #[true, true, true, true, true, false] rfl rfl (by kernel_rfl) (by decide) (fun K hK => ?_)
              refine gs_ Tryz.func33 #[.agg #[.bool t440, .string t441, .int .i64 t442], .agg #[.bool a2_0, .string a2_1, .int .i64 a2_2]] ?_
              with_reducible refine (dec_Cmp.calls kj33 t440 t441 t442 a2_0 a2_1 a2_2 t443 _ A72.out).mono ?_
              rintro e w205 ⟨rfl, hb⟩
              refine ⟨_, rfl, ?_⟩
              replace BK413 := bb_ BK413 hb
              replace BK414 := bb_ BK414 hb
              replace BK415 := bb_ BK415 hb
              replace BK423 := bb_ BK423 hb
              replace HB := Aside0.mk (below_step (bl_ HB).out hb)
              (try clear hb)
              (try clear hb2)
              (try clear hk)
              (try clear hi)
              refine hK.out _ _ ⟨bc_ BK423 0, bc_ BK423 1, bc_ BK423 2, bc_ BK415 0, bc_ BK415 1, bc_ BK415 2⟩ (fun hHeld => ?_)
              clear hK K
              refine nm_ 46 ?_
              refine pu0_ 5 11 #[true, true, true, true, true, true] ?_
              refine done_ (by kernel_rfl) ?_
              try go_wp2
              go_ret
              exact ⟨ew_, (bl_ HB).out⟩
 ·replace c7 := Bool.eq_false_iff.mpr c7
  subst c7
  have H1 : (some false) = some r := by rw [if_neg (show ¬ (false = true) by decide)] at H; exact H
  clear H
  have H := H1
  clear H1
  obtain rfl := Option.some.inj H
  go_enter Tryz.func14, Tryz.ntmps14
  go_wp2_with (first | ((with_reducible refine gate_dst (N := 4) rfl ?_); refine be_ 4 #[.bool a0_0, .string a0_1, .int .i64 a0_2] 31 ?_; intro gb413 hg w206 hbox hb; have BK413 := Aside0.mk (hbox); have GW413 := sz_ HB hg; have GE413 := sz_ HB hg; replace HB := Aside0.mk (below_step (bl_ HB).out hb); clear hb hbox hg) | ((with_reducible refine gate_dst (N := 5) rfl ?_); refine be_ 5 #[.bool a1_0, .string a1_1, .int .i64 a1_2] 31 ?_; intro gb414 hg w207 hbox hb; have BK414 := Aside0.mk (hbox); have GW414 := sz_ HB hg; have GE414 := sz_ HB hg; have NB413_414 := na_ BK413 hg; have NB414_413 := nb_ BK413 hg; replace BK413 := bb_ BK413 hb; replace HB := Aside0.mk (below_step (bl_ HB).out hb); clear hb hbox hg) | ((with_reducible refine gate_dst (N := 6) rfl ?_); refine be_ 6 #[.bool a2_0, .string a2_1, .int .i64 a2_2] 31 ?_; intro gb415 hg w208 hbox hb; have BK415 := Aside0.mk (hbox); have GW415 := sz_ HB hg; have GE415 := sz_ HB hg; have NB413_415 := na_ BK413 hg; have NB415_413 := nb_ BK413 hg; have NB414_415 := na_ BK414 hg; have NB415_414 := nb_ BK414 hg; replace BK413 := bb_ BK413 hb; replace BK414 := bb_ BK414 hb; replace HB := Aside0.mk (below_step (bl_ HB).out hb); clear hb hbox hg; have hnb209 := NB413_414.out; have hnc209 := NB414_413.out; have hnb210 := NB413_415.out; have hnc210 := NB415_413.out; obtain ⟨hcz211_0, hcz211_1, hcz211_2, hfz211_0, hfz211_1, hfz211_2⟩ := bo3_ BK413) | ((with_reducible refine gate_callee (f := 8) rfl ?_); refine gl_ (some 13) Tryz.func8 #[.agg #[.bool a0_0, .string a0_1, .int .i64 a0_2]] ?_; (with_reducible refine (dec_Dec_Norm.calls k a0_0 a0_1 a0_2 t416 t417 t418 _ A5.out).mono ?_); rintro e w212 ⟨rfl, hb⟩; refine ⟨_, rfl, ?_⟩; replace BK413 := bb_ BK413 hb; replace BK414 := bb_ BK414 hb; replace BK415 := bb_ BK415 hb; replace HB := Aside0.mk (below_step (bl_ HB).out hb); (try clear hb); (try clear hb2); (try clear hk); (try clear hi); obtain ⟨hcz213_0, hcz213_1, hcz213_2, hfz213_0, hfz213_1, hfz213_2⟩ := bo3_ BK413; have hnb214 := NB414_415.out; have hnc214 := NB415_414.out; obtain ⟨hcz215_0, hcz215_1, hcz215_2, hfz215_0, hfz215_1, hfz215_2⟩ := bo3_ BK414; obtain ⟨hcz216_0, hcz216_1, hcz216_2, hfz216_0, hfz216_1, hfz216_2⟩ := bo3_ BK415) | ((with_reducible refine gate_callee (f := 31) rfl ?_); refine gl_ (some 16) Tryz.func31 #[.agg #[.bool a1_0, .string a1_1, .int .i64 a1_2], .agg #[.bool a2_0, .string a2_1, .int .i64 a2_2]] ?_; (with_reducible refine (florinlaw03_multiple.calls k a1_0 a1_1 a1_2 a2_0 a2_1 a2_2 false _ A6.out).mono ?_); rintro e w217 ⟨rfl, hb⟩; refine ⟨_, rfl, ?_⟩; have n0_ := Aside0.mk (blk_below (g := gb413) (o := .cells #[.bool t416, .string t417, .int .i64 t418] 31 (0, 0)) (by (with_reducible repeat (first | refine blk_drewN ?_ _ | refine blk_drew ?_ | refine blk_alloc ?_ _)); refine blk_put (cs := #[.bool t416, .string t417, .int .i64 a0_2]) ?_ 2 _ rfl; (with_reducible repeat (first | refine blk_drewN ?_ _ | refine blk_drew ?_ | refine blk_alloc ?_ _)); refine blk_put (cs := #[.bool t416, .string a0_1, .int .i64 a0_2]) ?_ 1 _ rfl; (with_reducible repeat (first | refine blk_drewN ?_ _ | refine blk_drew ?_ | refine blk_alloc ?_ _)); refine blk_put (cs := #[.bool a0_0, .string a0_1, .int .i64 a0_2]) ?_ 0 _ rfl; (with_reducible repeat (first | refine blk_drewN ?_ _ | refine blk_drew ?_ | refine blk_alloc ?_ _)); exact BK413.out) hb); have n1_ := Aside0.mk (blk_below (g := gb414) (o := .cells #[.bool a1_0, .string a1_1, .int .i64 a1_2] 31 (0, 0)) (by (with_reducible repeat (first | refine blk_drewN ?_ _ | refine blk_drew ?_ | refine blk_alloc ?_ _)); refine blk_far ?_ NB414_413.out _; (with_reducible repeat (first | refine blk_drewN ?_ _ | refine blk_drew ?_ | refine blk_alloc ?_ _)); refine blk_far ?_ NB414_413.out _; (with_reducible repeat (first | refine blk_drewN ?_ _ | refine blk_drew ?_ | refine blk_alloc ?_ _)); refine blk_far ?_ NB414_413.out _; (with_reducible repeat (first | refine blk_drewN ?_ _ | refine blk_drew ?_ | refine blk_alloc ?_ _)); exact BK414.out) hb); have n2_ := Aside0.mk (blk_below (g := gb415) (o := .cells #[.bool a2_0, .string a2_1, .int .i64 a2_2] 31 (0, 0)) (by (with_reducible repeat (first | refine blk_drewN ?_ _ | refine blk_drew ?_ | refine blk_alloc ?_ _)); refine blk_far ?_ NB415_413.out _; (with_reducible repeat (first | refine blk_drewN ?_ _ | refine blk_drew ?_ | refine blk_alloc ?_ _)); refine blk_far ?_ NB415_413.out _; (with_reducible repeat (first | refine blk_drewN ?_ _ | refine blk_drew ?_ | refine blk_alloc ?_ _)); refine blk_far ?_ NB415_413.out _; (with_reducible repeat (first | refine blk_drewN ?_ _ | refine blk_drew ?_ | refine blk_alloc ?_ _)); exact BK415.out) hb); have n3_ := Aside0.mk (below_step (bl_ HB).out hb); clear BK413; clear BK414; clear BK415; clear HB; have BK413 := n0_; have BK414 := n1_; have BK415 := n2_; have HB := n3_; clear n0_ n1_ n2_ n3_; (try clear hb); (try clear hb2); (try clear hk); (try clear hi)))
  go_ret
  exact ⟨ew_, (bl_ HB).out⟩

end Go.Proofs.YthkpmiajcmihjaaGreatDoor.P
