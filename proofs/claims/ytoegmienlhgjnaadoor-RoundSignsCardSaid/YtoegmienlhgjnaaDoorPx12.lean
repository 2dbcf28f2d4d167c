-- written by a program of this session (wip/p2)
import Derived.Test.YtoegmienlhgjnaaDoorPx0
import Derived.Test.YtoegmienlhgjnaaDoorPx1
import Derived.Test.YtoegmienlhgjnaaDoorPx4
import Derived.Test.YtoegmienlhgjnaaDoorPx5
import Derived.Test.YtoegmienlhgjnaaDoorPx7
import Derived.Test.YtoegmienlhgjnaaDoorPx9
import Derived.Test.YtoegmienlhgjnaaDoorPx11
namespace Go.Proofs.YtoegmienlhgjnaaDoor.P
open Go.RowKit Go.Proofs.YtoegmienlhgjnaaDoorW.PrintWords Go.Proofs.YtoegmienlhgjnaaDoorW.PrintLast Go.Proofs.YtoegmienlhgjnaaDoorW.PrintMore
attribute [local go_sem] max2_int min2_int max_two min_two max_three min_three max_four min_four   -- for this text's walks alone
set_option linter.unusedVariables false
set_option linter.unusedSimpArgs false

attribute [local go_sem high] eqA30
/-! ### florinlaw03_RoundSigns: function 4 -/
def florinlaw03_RoundSigns.j0 : Nat → Int → Int → Bool → Bool → ByteArray → Int → Bool → ByteArray → Int → Option (Bool)
 | 0, _, _, _, _, _, _, _, _, _ => none
 | k + 1, x1, x7, x52, x312000, x312001, x312002, x316000, x316001, x316002 => if x52 = true then (some false) else ((round_At.f k x312000 x312001 x312002 x1 6).bind fun bt338 => ((round_At.f k x312000 x312001 x312002 x1 5).bind fun bt342 => ((dec_Dec_Minus.f k x312000 x312001 x312002).bind fun bt346 => ((florinlaw03_turned.f x7).bind fun t349 => ((round_At.f k bt346.1 bt346.2.1 bt346.2.2 x1 t349).bind fun bt350 => ((dec_Dec_Minus.f k x316000 x316001 x316002).bind fun bt353 => (if (bt350.1 == bt353.1 && (bt350.2.1.toList == bt353.2.1.toList && (bt350.2.2 == bt353.2.2))) = true then (if (x316000 == bt338.1 && (x316001.toList == bt338.2.1.toList && (x316002 == bt338.2.2))) = true then ((dec_Cmp.f k bt338.1 bt338.2.1 bt338.2.2 x312000 x312001 x312002).bind fun t356 => (if t356 ≤ 0 then ((dec_Cmp.f k x312000 x312001 x312002 bt342.1 bt342.2.1 bt342.2.2).bind fun t357 => (some (decide (t357 ≤ 0)))) else (some false))) else (if (x316000 == bt342.1 && (x316001.toList == bt342.2.1.toList && (x316002 == bt342.2.2))) = true then ((dec_Cmp.f k bt338.1 bt338.2.1 bt338.2.2 x312000 x312001 x312002).bind fun t358 => (if t358 ≤ 0 then ((dec_Cmp.f k x312000 x312001 x312002 bt342.1 bt342.2.1 bt342.2.2).bind fun t359 => (some (decide (t359 ≤ 0)))) else (some false))) else (some false))) else (some false))))))))
def florinlaw03_RoundSigns.f (k : Nat) (a0_0 : Bool) (l0_1 : List Int) (a0_2 : Int) (a1 : Int) (a2 : Int) : Option (Bool) := (florinlaw03_head.f k).bind fun t305 => (if t305 = true then ((florinlaw02_Raw_Few.f a0_0 l0_1 a0_2 40).bind fun t306 => (if t306 = true then ((florinlaw03_Mode.f a2).bind fun t307 => ((florinlaw02_Raw_Make.f k a0_0 l0_1 a0_2).bind fun bt308 => ((round_At.f k bt308.1 bt308.2.1 bt308.2.2 (wrap64 ((Int.tmod a1 60) - (wrap64 (Int.tdiv (Int.tmod a1 60) 2)))) t307).bind fun bt312 => ((dec_Sub.f k bt308.1 bt308.2.1 bt308.2.2 bt312.1 bt312.2.1 bt312.2.2).bind fun bt316 => ((dec_Dec_Abs.f k bt316.1 bt316.2.1 bt316.2.2).bind fun bt319 => (if t307 ≤ 2 then ((florinlaw03_twice.f k bt319.1 bt319.2.1 bt319.2.2).bind fun bt323 => ((florinlaw03_unit.f k (wrap64 ((Int.tmod a1 60) - (wrap64 (Int.tdiv (Int.tmod a1 60) 2))))).bind fun bt326 => ((dec_Cmp.f k bt323.1 bt323.2.1 bt323.2.2 bt326.1 bt326.2.1 bt326.2.2).bind fun t329 => (if t329 > 0 then (florinlaw03_RoundSigns.j0 k (wrap64 ((Int.tmod a1 60) - (wrap64 (Int.tdiv (Int.tmod a1 60) 2)))) t307 true bt308.1 bt308.2.1 bt308.2.2 bt312.1 bt312.2.1 bt312.2.2) else ((florinlaw03_unit.f k (wrap64 ((Int.tmod a1 60) - (wrap64 (Int.tdiv (Int.tmod a1 60) 2))))).bind fun bt330 => ((dec_Cmp.f k bt319.1 bt319.2.1 bt319.2.2 bt330.1 bt330.2.1 bt330.2.2).bind fun t333 => (florinlaw03_RoundSigns.j0 k (wrap64 ((Int.tmod a1 60) - (wrap64 (Int.tdiv (Int.tmod a1 60) 2)))) t307 (decide (t333 ≥ 0)) bt308.1 bt308.2.1 bt308.2.2 bt312.1 bt312.2.1 bt312.2.2))))))) else ((florinlaw03_unit.f k (wrap64 ((Int.tmod a1 60) - (wrap64 (Int.tdiv (Int.tmod a1 60) 2))))).bind fun bt334 => ((dec_Cmp.f k bt319.1 bt319.2.1 bt319.2.2 bt334.1 bt334.2.1 bt334.2.2).bind fun t337 => (florinlaw03_RoundSigns.j0 k (wrap64 ((Int.tmod a1 60) - (wrap64 (Int.tdiv (Int.tmod a1 60) 2)))) t307 (decide (t337 ≥ 0)) bt308.1 bt308.2.1 bt308.2.2 bt312.1 bt312.2.1 bt312.2.2))))))))) else (some true))) else (some false))
theorem florinlaw03_RoundSigns.mono_l : ∀ k, (∀ y0 y1 y2 y3 y4 y5 y6 y7 y8, LeO (florinlaw03_RoundSigns.j0 k y0 y1 y2 y3 y4 y5 y6 y7 y8) (florinlaw03_RoundSigns.j0 (k + 1) y0 y1 y2 y3 y4 y5 y6 y7 y8))
 | 0 => fun _ _ _ _ _ _ _ _ _ r h => by simp [florinlaw03_RoundSigns.j0] at h
 | k + 1 => by
  have ih0 := florinlaw03_RoundSigns.mono_l k
  ·intro y0 y1 y2 y3 y4 y5 y6 y7 y8
   unfold florinlaw03_RoundSigns.j0
   repeat' first
   | (with_reducible exact ih0 _ _ _ _ _ _ _ _ _)
   | (with_reducible exact dec_Cmp.mono _ _ _ _ _ _ _)
   | (with_reducible exact dec_Dec_Abs.mono _ _ _ _)
   | (with_reducible exact dec_Dec_Minus.mono _ _ _ _)
   | (with_reducible exact dec_Sub.mono _ _ _ _ _ _ _)
   | (with_reducible exact florinlaw02_Raw_Make.mono _ _ _ _)
   | (with_reducible exact florinlaw03_head.mono _)
   | (with_reducible exact florinlaw03_twice.mono _ _ _ _)
   | (with_reducible exact florinlaw03_unit.mono _ _)
   | (with_reducible exact round_At.mono _ _ _ _ _ _)
   | (with_reducible exact LeO.refl _)
   | (with_reducible exact LeO.none _)
   | (with_reducible refine LeO.ite ?_ ?_)
   | (with_reducible refine LeO.bind ?_ (fun _ => ?_))
   | exact ih0 _ _ _ _ _ _ _ _ _
   | exact dec_Cmp.mono _ _ _ _ _ _ _
   | exact dec_Dec_Abs.mono _ _ _ _
   | exact dec_Dec_Minus.mono _ _ _ _
   | exact dec_Sub.mono _ _ _ _ _ _ _
   | exact florinlaw02_Raw_Make.mono _ _ _ _
   | exact florinlaw03_head.mono _
   | exact florinlaw03_twice.mono _ _ _ _
   | exact florinlaw03_unit.mono _ _
   | exact round_At.mono _ _ _ _ _ _
   | exact LeO.none _
   | refine LeO.ite ?_ ?_
   | refine LeO.bind ?_ (fun _ => ?_)
theorem florinlaw03_RoundSigns.mono : ∀ a0 a1 a2 a3 a4 k, LeO (florinlaw03_RoundSigns.f k a0 a1 a2 a3 a4) (florinlaw03_RoundSigns.f (k + 1) a0 a1 a2 a3 a4) := by
 intro a0 a1 a2 a3 a4 k
 have ih0 := florinlaw03_RoundSigns.mono_l k
 unfold florinlaw03_RoundSigns.f
 repeat' first
   | (with_reducible exact ih0 _ _ _ _ _ _ _ _ _)
   | (with_reducible exact dec_Cmp.mono _ _ _ _ _ _ _)
   | (with_reducible exact dec_Dec_Abs.mono _ _ _ _)
   | (with_reducible exact dec_Dec_Minus.mono _ _ _ _)
   | (with_reducible exact dec_Sub.mono _ _ _ _ _ _ _)
   | (with_reducible exact florinlaw02_Raw_Make.mono _ _ _ _)
   | (with_reducible exact florinlaw03_head.mono _)
   | (with_reducible exact florinlaw03_twice.mono _ _ _ _)
   | (with_reducible exact florinlaw03_unit.mono _ _)
   | (with_reducible exact round_At.mono _ _ _ _ _ _)
   | (with_reducible exact LeO.refl _)
   | (with_reducible exact LeO.none _)
   | (with_reducible refine LeO.ite ?_ ?_)
   | (with_reducible refine LeO.bind ?_ (fun _ => ?_))
   | exact ih0 _ _ _ _ _ _ _ _ _
   | exact dec_Cmp.mono _ _ _ _ _ _ _
   | exact dec_Dec_Abs.mono _ _ _ _
   | exact dec_Dec_Minus.mono _ _ _ _
   | exact dec_Sub.mono _ _ _ _ _ _ _
   | exact florinlaw02_Raw_Make.mono _ _ _ _
   | exact florinlaw03_head.mono _
   | exact florinlaw03_twice.mono _ _ _ _
   | exact florinlaw03_unit.mono _ _
   | exact round_At.mono _ _ _ _ _ _
   | exact LeO.none _
   | refine LeO.ite ?_ ?_
   | refine LeO.bind ?_ (fun _ => ?_)
def florinlaw03_RoundSigns.T10 : Bool × List (List Nat × List Nat) := (true, [([], []), ([0], [0]), ([1], [1]), ([2], [2]), ([3, 2, 2], [2, 3]), ([2], [2]), ([5, 4, 2], [2, 5]), ([4, 6, 6, 2], [2, 4, 6]), ([7, 2], [2, 7]), ([2, 8], [2, 8]), ([9, 7], [9]), ([10], [10]), ([10], [10]), ([12, 10, 10], [10, 12]), ([11, 13, 13, 10], [10, 11, 13]), ([14, 10], [10, 14]), ([10, 15], [10, 15])])
def florinlaw03_RoundSigns.B10 : List Nat := [0, 1, 3, 7, 15, 7, 63, 127, 255, 511, 1023, 2047, 2047, 6143, 16383, 32767, 65535]
theorem florinlaw03_RoundSigns.tab10 : rtab .any (opsOf Tryd.f4 10) = florinlaw03_RoundSigns.T10 := by kernel_rfl
theorem florinlaw03_RoundSigns.bits10 : waitsOk florinlaw03_RoundSigns.T10.2 florinlaw03_RoundSigns.B10 = true := by kernel_rfl
def florinlaw03_RoundSigns.T14 : Bool × List (List Nat × List Nat) := (true, [([], []), ([0], [0]), ([], []), ([], []), ([3, 1], [3]), ([1, 2, 4, 4], [1, 2, 4]), ([], []), ([6, 5], [6]), ([5, 7], [5, 7]), ([8, 7], [8]), ([9], [9]), ([9], [9]), ([10, 11, 9], [9, 10, 11]), ([12, 9, 9], [9, 12]), ([13], [13]), ([13], [13]), ([14, 15, 13], [13, 14, 15]), ([13, 16, 9], [9, 13, 16]), ([9, 17], [9, 17]), ([18, 13], [18]), ([19], [19]), ([19], [19]), ([20, 21, 19, 19], [19, 20, 21]), ([22, 19], [19, 22]), ([19, 23], [19, 23]), ([24, 22], [24]), ([25], [25]), ([25], [25]), ([26, 27, 25, 25], [25, 26, 27]), ([28, 25], [25, 28]), ([25, 29], [25, 29]), ([30, 28, 0, 1, 2, 3, 4, 5, 6, 7, 8, 9, 10, 11, 12, 13, 14, 15, 16, 17, 18, 19, 20, 21, 22, 23, 24, 25, 26, 27, 28, 29, 30], [30])])
def florinlaw03_RoundSigns.B14 : List Nat := [0, 1, 0, 0, 11, 31, 0, 127, 255, 511, 1023, 1023, 4095, 8191, 16383, 16383, 65535, 131071, 262143, 524287, 1048575, 1048575, 4194303, 8388607, 16777215, 33554431, 67108863, 67108863, 268435455, 536870911, 1073741823, 2147483647]
theorem florinlaw03_RoundSigns.tab14 : rtab .any (opsOf Tryd.f4 14) = florinlaw03_RoundSigns.T14 := by kernel_rfl
theorem florinlaw03_RoundSigns.bits14 : waitsOk florinlaw03_RoundSigns.T14.2 florinlaw03_RoundSigns.B14 = true := by kernel_rfl
set_option maxHeartbeats 8000000 in
set_option maxRecDepth 100000 in
theorem florinlaw03_RoundSigns.calls (k : Nat) (a0_0 : Bool) (A0_1 : Option Addr) (c0_1 : Nat) (l0_1 : List Int) (a0_2 : Int) (a1 : Int) (a2 : Int) (r : Bool) (w : World) (hr0_1 : Kd.C (Kd.int .u8) w A0_1 l0_1.length l0_1) (hc0_1 : l0_1.length ≤ c0_1) (h : florinlaw03_RoundSigns.f k a0_0 l0_1 a0_2 a1 a2 = some r) :
  Calls Tryd.prog 4 #[.agg #[.bool a0_0, .slice A0_1 l0_1.length c0_1, .int .i64 a0_2], .int .i64 a1, .int .i64 a2] w fun e w' => e = .returned (.bool r) ∧ Below w.heap.size w w' := by
 have hu24 := Tryd.underlying24
 have hu30 := Tryd.underlying30
 have HR0_1 := Aside0.mk hr0_1
 have HC0_1 := Aside0.mk hc0_1
 clear hr0_1 hc0_1
 have HB := Aside0.mk (Below.refl w.heap.size w)
 have H : ((florinlaw03_head.f k).bind fun t305 => (if t305 = true then ((florinlaw02_Raw_Few.f a0_0 l0_1 a0_2 40).bind fun t306 => (if t306 = true then ((florinlaw03_Mode.f a2).bind fun t307 => ((florinlaw02_Raw_Make.f k a0_0 l0_1 a0_2).bind fun bt308 => ((round_At.f k bt308.1 bt308.2.1 bt308.2.2 (wrap64 ((Int.tmod a1 60) - (wrap64 (Int.tdiv (Int.tmod a1 60) 2)))) t307).bind fun bt312 => ((dec_Sub.f k bt308.1 bt308.2.1 bt308.2.2 bt312.1 bt312.2.1 bt312.2.2).bind fun bt316 => ((dec_Dec_Abs.f k bt316.1 bt316.2.1 bt316.2.2).bind fun bt319 => (if t307 ≤ 2 then ((florinlaw03_twice.f k bt319.1 bt319.2.1 bt319.2.2).bind fun bt323 => ((florinlaw03_unit.f k (wrap64 ((Int.tmod a1 60) - (wrap64 (Int.tdiv (Int.tmod a1 60) 2))))).bind fun bt326 => ((dec_Cmp.f k bt323.1 bt323.2.1 bt323.2.2 bt326.1 bt326.2.1 bt326.2.2).bind fun t329 => (if t329 > 0 then (florinlaw03_RoundSigns.j0 k (wrap64 ((Int.tmod a1 60) - (wrap64 (Int.tdiv (Int.tmod a1 60) 2)))) t307 true bt308.1 bt308.2.1 bt308.2.2 bt312.1 bt312.2.1 bt312.2.2) else ((florinlaw03_unit.f k (wrap64 ((Int.tmod a1 60) - (wrap64 (Int.tdiv (Int.tmod a1 60) 2))))).bind fun bt330 => ((dec_Cmp.f k bt319.1 bt319.2.1 bt319.2.2 bt330.1 bt330.2.1 bt330.2.2).bind fun t333 => (florinlaw03_RoundSigns.j0 k (wrap64 ((Int.tmod a1 60) - (wrap64 (Int.tdiv (Int.tmod a1 60) 2)))) t307 (decide (t333 ≥ 0)) bt308.1 bt308.2.1 bt308.2.2 bt312.1 bt312.2.1 bt312.2.2))))))) else ((florinlaw03_unit.f k (wrap64 ((Int.tmod a1 60) - (wrap64 (Int.tdiv (Int.tmod a1 60) 2))))).bind fun bt334 => ((dec_Cmp.f k bt319.1 bt319.2.1 bt319.2.2 bt334.1 bt334.2.1 bt334.2.2).bind fun t337 => (florinlaw03_RoundSigns.j0 k (wrap64 ((Int.tmod a1 60) - (wrap64 (Int.tdiv (Int.tmod a1 60) 2)))) t307 (decide (t337 ≥ 0)) bt308.1 bt308.2.1 bt308.2.2 bt312.1 bt312.2.1 bt312.2.2))))))))) else (some true))) else (some false))) = some r := h
 clear h
 replace H := Option.bind_eq_some_iff.mp H
 obtain ⟨t305, A40, H⟩ := H
 replace H : (if t305 = true then ((florinlaw02_Raw_Few.f a0_0 l0_1 a0_2 40).bind fun t306 => (if t306 = true then ((florinlaw03_Mode.f a2).bind fun t307 => ((florinlaw02_Raw_Make.f k a0_0 l0_1 a0_2).bind fun bt308 => ((round_At.f k bt308.1 bt308.2.1 bt308.2.2 (wrap64 ((Int.tmod a1 60) - (wrap64 (Int.tdiv (Int.tmod a1 60) 2)))) t307).bind fun bt312 => ((dec_Sub.f k bt308.1 bt308.2.1 bt308.2.2 bt312.1 bt312.2.1 bt312.2.2).bind fun bt316 => ((dec_Dec_Abs.f k bt316.1 bt316.2.1 bt316.2.2).bind fun bt319 => (if t307 ≤ 2 then ((florinlaw03_twice.f k bt319.1 bt319.2.1 bt319.2.2).bind fun bt323 => ((florinlaw03_unit.f k (wrap64 ((Int.tmod a1 60) - (wrap64 (Int.tdiv (Int.tmod a1 60) 2))))).bind fun bt326 => ((dec_Cmp.f k bt323.1 bt323.2.1 bt323.2.2 bt326.1 bt326.2.1 bt326.2.2).bind fun t329 => (if t329 > 0 then (florinlaw03_RoundSigns.j0 k (wrap64 ((Int.tmod a1 60) - (wrap64 (Int.tdiv (Int.tmod a1 60) 2)))) t307 true bt308.1 bt308.2.1 bt308.2.2 bt312.1 bt312.2.1 bt312.2.2) else ((florinlaw03_unit.f k (wrap64 ((Int.tmod a1 60) - (wrap64 (Int.tdiv (Int.tmod a1 60) 2))))).bind fun bt330 => ((dec_Cmp.f k bt319.1 bt319.2.1 bt319.2.2 bt330.1 bt330.2.1 bt330.2.2).bind fun t333 => (florinlaw03_RoundSigns.j0 k (wrap64 ((Int.tmod a1 60) - (wrap64 (Int.tdiv (Int.tmod a1 60) 2)))) t307 (decide (t333 ≥ 0)) bt308.1 bt308.2.1 bt308.2.2 bt312.1 bt312.2.1 bt312.2.2))))))) else ((florinlaw03_unit.f k (wrap64 ((Int.tmod a1 60) - (wrap64 (Int.tdiv (Int.tmod a1 60) 2))))).bind fun bt334 => ((dec_Cmp.f k bt319.1 bt319.2.1 bt319.2.2 bt334.1 bt334.2.1 bt334.2.2).bind fun t337 => (florinlaw03_RoundSigns.j0 k (wrap64 ((Int.tmod a1 60) - (wrap64 (Int.tdiv (Int.tmod a1 60) 2)))) t307 (decide (t337 ≥ 0)) bt308.1 bt308.2.1 bt308.2.2 bt312.1 bt312.2.1 bt312.2.2))))))))) else (some true))) else (some false)) = some r := H
 have A4 := Aside0.mk A40
 clear A40
 by_cases c5 : t305 = true
 ·subst c5
  have H1 : ((florinlaw02_Raw_Few.f a0_0 l0_1 a0_2 40).bind fun t306 => (if t306 = true then ((florinlaw03_Mode.f a2).bind fun t307 => ((florinlaw02_Raw_Make.f k a0_0 l0_1 a0_2).bind fun bt308 => ((round_At.f k bt308.1 bt308.2.1 bt308.2.2 (wrap64 ((Int.tmod a1 60) - (wrap64 (Int.tdiv (Int.tmod a1 60) 2)))) t307).bind fun bt312 => ((dec_Sub.f k bt308.1 bt308.2.1 bt308.2.2 bt312.1 bt312.2.1 bt312.2.2).bind fun bt316 => ((dec_Dec_Abs.f k bt316.1 bt316.2.1 bt316.2.2).bind fun bt319 => (if t307 ≤ 2 then ((florinlaw03_twice.f k bt319.1 bt319.2.1 bt319.2.2).bind fun bt323 => ((florinlaw03_unit.f k (wrap64 ((Int.tmod a1 60) - (wrap64 (Int.tdiv (Int.tmod a1 60) 2))))).bind fun bt326 => ((dec_Cmp.f k bt323.1 bt323.2.1 bt323.2.2 bt326.1 bt326.2.1 bt326.2.2).bind fun t329 => (if t329 > 0 then (florinlaw03_RoundSigns.j0 k (wrap64 ((Int.tmod a1 60) - (wrap64 (Int.tdiv (Int.tmod a1 60) 2)))) t307 true bt308.1 bt308.2.1 bt308.2.2 bt312.1 bt312.2.1 bt312.2.2) else ((florinlaw03_unit.f k (wrap64 ((Int.tmod a1 60) - (wrap64 (Int.tdiv (Int.tmod a1 60) 2))))).bind fun bt330 => ((dec_Cmp.f k bt319.1 bt319.2.1 bt319.2.2 bt330.1 bt330.2.1 bt330.2.2).bind fun t333 => (florinlaw03_RoundSigns.j0 k (wrap64 ((Int.tmod a1 60) - (wrap64 (Int.tdiv (Int.tmod a1 60) 2)))) t307 (decide (t333 ≥ 0)) bt308.1 bt308.2.1 bt308.2.2 bt312.1 bt312.2.1 bt312.2.2))))))) else ((florinlaw03_unit.f k (wrap64 ((Int.tmod a1 60) - (wrap64 (Int.tdiv (Int.tmod a1 60) 2))))).bind fun bt334 => ((dec_Cmp.f k bt319.1 bt319.2.1 bt319.2.2 bt334.1 bt334.2.1 bt334.2.2).bind fun t337 => (florinlaw03_RoundSigns.j0 k (wrap64 ((Int.tmod a1 60) - (wrap64 (Int.tdiv (Int.tmod a1 60) 2)))) t307 (decide (t337 ≥ 0)) bt308.1 bt308.2.1 bt308.2.2 bt312.1 bt312.2.1 bt312.2.2))))))))) else (some true))) = some r := by rw [if_pos rfl] at H; exact H
  clear H
  have H := H1
  clear H1
  replace H := Option.bind_eq_some_iff.mp H
  obtain ⟨t306, A60, H⟩ := H
  replace H : (if t306 = true then ((florinlaw03_Mode.f a2).bind fun t307 => ((florinlaw02_Raw_Make.f k a0_0 l0_1 a0_2).bind fun bt308 => ((round_At.f k bt308.1 bt308.2.1 bt308.2.2 (wrap64 ((Int.tmod a1 60) - (wrap64 (Int.tdiv (Int.tmod a1 60) 2)))) t307).bind fun bt312 => ((dec_Sub.f k bt308.1 bt308.2.1 bt308.2.2 bt312.1 bt312.2.1 bt312.2.2).bind fun bt316 => ((dec_Dec_Abs.f k bt316.1 bt316.2.1 bt316.2.2).bind fun bt319 => (if t307 ≤ 2 then ((florinlaw03_twice.f k bt319.1 bt319.2.1 bt319.2.2).bind fun bt323 => ((florinlaw03_unit.f k (wrap64 ((Int.tmod a1 60) - (wrap64 (Int.tdiv (Int.tmod a1 60) 2))))).bind fun bt326 => ((dec_Cmp.f k bt323.1 bt323.2.1 bt323.2.2 bt326.1 bt326.2.1 bt326.2.2).bind fun t329 => (if t329 > 0 then (florinlaw03_RoundSigns.j0 k (wrap64 ((Int.tmod a1 60) - (wrap64 (Int.tdiv (Int.tmod a1 60) 2)))) t307 true bt308.1 bt308.2.1 bt308.2.2 bt312.1 bt312.2.1 bt312.2.2) else ((florinlaw03_unit.f k (wrap64 ((Int.tmod a1 60) - (wrap64 (Int.tdiv (Int.tmod a1 60) 2))))).bind fun bt330 => ((dec_Cmp.f k bt319.1 bt319.2.1 bt319.2.2 bt330.1 bt330.2.1 bt330.2.2).bind fun t333 => (florinlaw03_RoundSigns.j0 k (wrap64 ((Int.tmod a1 60) - (wrap64 (Int.tdiv (Int.tmod a1 60) 2)))) t307 (decide (t333 ≥ 0)) bt308.1 bt308.2.1 bt308.2.2 bt312.1 bt312.2.1 bt312.2.2))))))) else ((florinlaw03_unit.f k (wrap64 ((Int.tmod a1 60) - (wrap64 (Int.tdiv (Int.tmod a1 60) 2))))).bind fun bt334 => ((dec_Cmp.f k bt319.1 bt319.2.1 bt319.2.2 bt334.1 bt334.2.1 bt334.2.2).bind fun t337 => (florinlaw03_RoundSigns.j0 k (wrap64 ((Int.tmod a1 60) - (wrap64 (Int.tdiv (Int.tmod a1 60) 2)))) t307 (decide (t337 ≥ 0)) bt308.1 bt308.2.1 bt308.2.2 bt312.1 bt312.2.1 bt312.2.2))))))))) else (some true)) = some r := H
  have A6 := Aside0.mk A60
  clear A60
  by_cases c7 : t306 = true
  ·subst c7
   have H1 : ((florinlaw03_Mode.f a2).bind fun t307 => ((florinlaw02_Raw_Make.f k a0_0 l0_1 a0_2).bind fun bt308 => ((round_At.f k bt308.1 bt308.2.1 bt308.2.2 (wrap64 ((Int.tmod a1 60) - (wrap64 (Int.tdiv (Int.tmod a1 60) 2)))) t307).bind fun bt312 => ((dec_Sub.f k bt308.1 bt308.2.1 bt308.2.2 bt312.1 bt312.2.1 bt312.2.2).bind fun bt316 => ((dec_Dec_Abs.f k bt316.1 bt316.2.1 bt316.2.2).bind fun bt319 => (if t307 ≤ 2 then ((florinlaw03_twice.f k bt319.1 bt319.2.1 bt319.2.2).bind fun bt323 => ((florinlaw03_unit.f k (wrap64 ((Int.tmod a1 60) - (wrap64 (Int.tdiv (Int.tmod a1 60) 2))))).bind fun bt326 => ((dec_Cmp.f k bt323.1 bt323.2.1 bt323.2.2 bt326.1 bt326.2.1 bt326.2.2).bind fun t329 => (if t329 > 0 then (florinlaw03_RoundSigns.j0 k (wrap64 ((Int.tmod a1 60) - (wrap64 (Int.tdiv (Int.tmod a1 60) 2)))) t307 true bt308.1 bt308.2.1 bt308.2.2 bt312.1 bt312.2.1 bt312.2.2) else ((florinlaw03_unit.f k (wrap64 ((Int.tmod a1 60) - (wrap64 (Int.tdiv (Int.tmod a1 60) 2))))).bind fun bt330 => ((dec_Cmp.f k bt319.1 bt319.2.1 bt319.2.2 bt330.1 bt330.2.1 bt330.2.2).bind fun t333 => (florinlaw03_RoundSigns.j0 k (wrap64 ((Int.tmod a1 60) - (wrap64 (Int.tdiv (Int.tmod a1 60) 2)))) t307 (decide (t333 ≥ 0)) bt308.1 bt308.2.1 bt308.2.2 bt312.1 bt312.2.1 bt312.2.2))))))) else ((florinlaw03_unit.f k (wrap64 ((Int.tmod a1 60) - (wrap64 (Int.tdiv (Int.tmod a1 60) 2))))).bind fun bt334 => ((dec_Cmp.f k bt319.1 bt319.2.1 bt319.2.2 bt334.1 bt334.2.1 bt334.2.2).bind fun t337 => (florinlaw03_RoundSigns.j0 k (wrap64 ((Int.tmod a1 60) - (wrap64 (Int.tdiv (Int.tmod a1 60) 2)))) t307 (decide (t337 ≥ 0)) bt308.1 bt308.2.1 bt308.2.2 bt312.1 bt312.2.1 bt312.2.2))))))))) = some r := by rw [if_pos rfl] at H; exact H
   clear H
   have H := H1
   clear H1
   replace H := Option.bind_eq_some_iff.mp H
   obtain ⟨t307, A80, H⟩ := H
   replace H : ((florinlaw02_Raw_Make.f k a0_0 l0_1 a0_2).bind fun bt308 => ((round_At.f k bt308.1 bt308.2.1 bt308.2.2 (wrap64 ((Int.tmod a1 60) - (wrap64 (Int.tdiv (Int.tmod a1 60) 2)))) t307).bind fun bt312 => ((dec_Sub.f k bt308.1 bt308.2.1 bt308.2.2 bt312.1 bt312.2.1 bt312.2.2).bind fun bt316 => ((dec_Dec_Abs.f k bt316.1 bt316.2.1 bt316.2.2).bind fun bt319 => (if t307 ≤ 2 then ((florinlaw03_twice.f k bt319.1 bt319.2.1 bt319.2.2).bind fun bt323 => ((florinlaw03_unit.f k (wrap64 ((Int.tmod a1 60) - (wrap64 (Int.tdiv (Int.tmod a1 60) 2))))).bind fun bt326 => ((dec_Cmp.f k bt323.1 bt323.2.1 bt323.2.2 bt326.1 bt326.2.1 bt326.2.2).bind fun t329 => (if t329 > 0 then (florinlaw03_RoundSigns.j0 k (wrap64 ((Int.tmod a1 60) - (wrap64 (Int.tdiv (Int.tmod a1 60) 2)))) t307 true bt308.1 bt308.2.1 bt308.2.2 bt312.1 bt312.2.1 bt312.2.2) else ((florinlaw03_unit.f k (wrap64 ((Int.tmod a1 60) - (wrap64 (Int.tdiv (Int.tmod a1 60) 2))))).bind fun bt330 => ((dec_Cmp.f k bt319.1 bt319.2.1 bt319.2.2 bt330.1 bt330.2.1 bt330.2.2).bind fun t333 => (florinlaw03_RoundSigns.j0 k (wrap64 ((Int.tmod a1 60) - (wrap64 (Int.tdiv (Int.tmod a1 60) 2)))) t307 (decide (t333 ≥ 0)) bt308.1 bt308.2.1 bt308.2.2 bt312.1 bt312.2.1 bt312.2.2))))))) else ((florinlaw03_unit.f k (wrap64 ((Int.tmod a1 60) - (wrap64 (Int.tdiv (Int.tmod a1 60) 2))))).bind fun bt334 => ((dec_Cmp.f k bt319.1 bt319.2.1 bt319.2.2 bt334.1 bt334.2.1 bt334.2.2).bind fun t337 => (florinlaw03_RoundSigns.j0 k (wrap64 ((Int.tmod a1 60) - (wrap64 (Int.tdiv (Int.tmod a1 60) 2)))) t307 (decide (t337 ≥ 0)) bt308.1 bt308.2.1 bt308.2.2 bt312.1 bt312.2.1 bt312.2.2)))))))) = some r := H
   have A8 := Aside0.mk A80
   clear A80
   replace H := Option.bind_eq_some_iff.mp H
   obtain ⟨⟨t308, t309, t310⟩, A90, H⟩ := H
   replace H : ((round_At.f k t308 t309 t310 (wrap64 ((Int.tmod a1 60) - (wrap64 (Int.tdiv (Int.tmod a1 60) 2)))) t307).bind fun bt312 => ((dec_Sub.f k t308 t309 t310 bt312.1 bt312.2.1 bt312.2.2).bind fun bt316 => ((dec_Dec_Abs.f k bt316.1 bt316.2.1 bt316.2.2).bind fun bt319 => (if t307 ≤ 2 then ((florinlaw03_twice.f k bt319.1 bt319.2.1 bt319.2.2).bind fun bt323 => ((florinlaw03_unit.f k (wrap64 ((Int.tmod a1 60) - (wrap64 (Int.tdiv (Int.tmod a1 60) 2))))).bind fun bt326 => ((dec_Cmp.f k bt323.1 bt323.2.1 bt323.2.2 bt326.1 bt326.2.1 bt326.2.2).bind fun t329 => (if t329 > 0 then (florinlaw03_RoundSigns.j0 k (wrap64 ((Int.tmod a1 60) - (wrap64 (Int.tdiv (Int.tmod a1 60) 2)))) t307 true t308 t309 t310 bt312.1 bt312.2.1 bt312.2.2) else ((florinlaw03_unit.f k (wrap64 ((Int.tmod a1 60) - (wrap64 (Int.tdiv (Int.tmod a1 60) 2))))).bind fun bt330 => ((dec_Cmp.f k bt319.1 bt319.2.1 bt319.2.2 bt330.1 bt330.2.1 bt330.2.2).bind fun t333 => (florinlaw03_RoundSigns.j0 k (wrap64 ((Int.tmod a1 60) - (wrap64 (Int.tdiv (Int.tmod a1 60) 2)))) t307 (decide (t333 ≥ 0)) t308 t309 t310 bt312.1 bt312.2.1 bt312.2.2))))))) else ((florinlaw03_unit.f k (wrap64 ((Int.tmod a1 60) - (wrap64 (Int.tdiv (Int.tmod a1 60) 2))))).bind fun bt334 => ((dec_Cmp.f k bt319.1 bt319.2.1 bt319.2.2 bt334.1 bt334.2.1 bt334.2.2).bind fun t337 => (florinlaw03_RoundSigns.j0 k (wrap64 ((Int.tmod a1 60) - (wrap64 (Int.tdiv (Int.tmod a1 60) 2)))) t307 (decide (t337 ≥ 0)) t308 t309 t310 bt312.1 bt312.2.1 bt312.2.2))))))) = some r := H
   have A9 := Aside0.mk A90
   clear A90
   replace H := Option.bind_eq_some_iff.mp H
   obtain ⟨⟨t312, t313, t314⟩, A100, H⟩ := H
   replace H : ((dec_Sub.f k t308 t309 t310 t312 t313 t314).bind fun bt316 => ((dec_Dec_Abs.f k bt316.1 bt316.2.1 bt316.2.2).bind fun bt319 => (if t307 ≤ 2 then ((florinlaw03_twice.f k bt319.1 bt319.2.1 bt319.2.2).bind fun bt323 => ((florinlaw03_unit.f k (wrap64 ((Int.tmod a1 60) - (wrap64 (Int.tdiv (Int.tmod a1 60) 2))))).bind fun bt326 => ((dec_Cmp.f k bt323.1 bt323.2.1 bt323.2.2 bt326.1 bt326.2.1 bt326.2.2).bind fun t329 => (if t329 > 0 then (florinlaw03_RoundSigns.j0 k (wrap64 ((Int.tmod a1 60) - (wrap64 (Int.tdiv (Int.tmod a1 60) 2)))) t307 true t308 t309 t310 t312 t313 t314) else ((florinlaw03_unit.f k (wrap64 ((Int.tmod a1 60) - (wrap64 (Int.tdiv (Int.tmod a1 60) 2))))).bind fun bt330 => ((dec_Cmp.f k bt319.1 bt319.2.1 bt319.2.2 bt330.1 bt330.2.1 bt330.2.2).bind fun t333 => (florinlaw03_RoundSigns.j0 k (wrap64 ((Int.tmod a1 60) - (wrap64 (Int.tdiv (Int.tmod a1 60) 2)))) t307 (decide (t333 ≥ 0)) t308 t309 t310 t312 t313 t314))))))) else ((florinlaw03_unit.f k (wrap64 ((Int.tmod a1 60) - (wrap64 (Int.tdiv (Int.tmod a1 60) 2))))).bind fun bt334 => ((dec_Cmp.f k bt319.1 bt319.2.1 bt319.2.2 bt334.1 bt334.2.1 bt334.2.2).bind fun t337 => (florinlaw03_RoundSigns.j0 k (wrap64 ((Int.tmod a1 60) - (wrap64 (Int.tdiv (Int.tmod a1 60) 2)))) t307 (decide (t337 ≥ 0)) t308 t309 t310 t312 t313 t314)))))) = some r := H
   have A10 := Aside0.mk A100
   clear A100
   replace H := Option.bind_eq_some_iff.mp H
   obtain ⟨⟨t316, t317, t318⟩, A110, H⟩ := H
   replace H : ((dec_Dec_Abs.f k t316 t317 t318).bind fun bt319 => (if t307 ≤ 2 then ((florinlaw03_twice.f k bt319.1 bt319.2.1 bt319.2.2).bind fun bt323 => ((florinlaw03_unit.f k (wrap64 ((Int.tmod a1 60) - (wrap64 (Int.tdiv (Int.tmod a1 60) 2))))).bind fun bt326 => ((dec_Cmp.f k bt323.1 bt323.2.1 bt323.2.2 bt326.1 bt326.2.1 bt326.2.2).bind fun t329 => (if t329 > 0 then (florinlaw03_RoundSigns.j0 k (wrap64 ((Int.tmod a1 60) - (wrap64 (Int.tdiv (Int.tmod a1 60) 2)))) t307 true t308 t309 t310 t312 t313 t314) else ((florinlaw03_unit.f k (wrap64 ((Int.tmod a1 60) - (wrap64 (Int.tdiv (Int.tmod a1 60) 2))))).bind fun bt330 => ((dec_Cmp.f k bt319.1 bt319.2.1 bt319.2.2 bt330.1 bt330.2.1 bt330.2.2).bind fun t333 => (florinlaw03_RoundSigns.j0 k (wrap64 ((Int.tmod a1 60) - (wrap64 (Int.tdiv (Int.tmod a1 60) 2)))) t307 (decide (t333 ≥ 0)) t308 t309 t310 t312 t313 t314))))))) else ((florinlaw03_unit.f k (wrap64 ((Int.tmod a1 60) - (wrap64 (Int.tdiv (Int.tmod a1 60) 2))))).bind fun bt334 => ((dec_Cmp.f k bt319.1 bt319.2.1 bt319.2.2 bt334.1 bt334.2.1 bt334.2.2).bind fun t337 => (florinlaw03_RoundSigns.j0 k (wrap64 ((Int.tmod a1 60) - (wrap64 (Int.tdiv (Int.tmod a1 60) 2)))) t307 (decide (t337 ≥ 0)) t308 t309 t310 t312 t313 t314))))) = some r := H
   have A11 := Aside0.mk A110
   clear A110
   replace H := Option.bind_eq_some_iff.mp H
   obtain ⟨⟨t319, t320, t321⟩, A120, H⟩ := H
   replace H : (if t307 ≤ 2 then ((florinlaw03_twice.f k t319 t320 t321).bind fun bt323 => ((florinlaw03_unit.f k (wrap64 ((Int.tmod a1 60) - (wrap64 (Int.tdiv (Int.tmod a1 60) 2))))).bind fun bt326 => ((dec_Cmp.f k bt323.1 bt323.2.1 bt323.2.2 bt326.1 bt326.2.1 bt326.2.2).bind fun t329 => (if t329 > 0 then (florinlaw03_RoundSigns.j0 k (wrap64 ((Int.tmod a1 60) - (wrap64 (Int.tdiv (Int.tmod a1 60) 2)))) t307 true t308 t309 t310 t312 t313 t314) else ((florinlaw03_unit.f k (wrap64 ((Int.tmod a1 60) - (wrap64 (Int.tdiv (Int.tmod a1 60) 2))))).bind fun bt330 => ((dec_Cmp.f k t319 t320 t321 bt330.1 bt330.2.1 bt330.2.2).bind fun t333 => (florinlaw03_RoundSigns.j0 k (wrap64 ((Int.tmod a1 60) - (wrap64 (Int.tdiv (Int.tmod a1 60) 2)))) t307 (decide (t333 ≥ 0)) t308 t309 t310 t312 t313 t314))))))) else ((florinlaw03_unit.f k (wrap64 ((Int.tmod a1 60) - (wrap64 (Int.tdiv (Int.tmod a1 60) 2))))).bind fun bt334 => ((dec_Cmp.f k t319 t320 t321 bt334.1 bt334.2.1 bt334.2.2).bind fun t337 => (florinlaw03_RoundSigns.j0 k (wrap64 ((Int.tmod a1 60) - (wrap64 (Int.tdiv (Int.tmod a1 60) 2)))) t307 (decide (t337 ≥ 0)) t308 t309 t310 t312 t313 t314)))) = some r := H
   have A12 := Aside0.mk A120
   clear A120
   have HC13 := Aside0.mk H
   clear H
   go_enter Tryd.func4, Tryd.ntmps4
   go_upto_region 10 with (first | ((with_reducible refine gate_dst (N := 3) rfl ?_); refine box_event ?hg (N := 3) ?hd (cs := #[.bool a0_0, .slice A0_1 l0_1.length c0_1, .int .i64 a0_2]) (t := 24) ?hr ?_; (case hd => rfl); (case hg => rfl); (case hr => first | (go_simp; done) | (go_simp; rfl)); intro gb304 hg w14 hbox hb; have n0_ := Aside0.mk (below_step (bl_ HB).out hb); have n1_ := Aside0.mk (hbox); have n2_ := Aside0.mk ((by rw [hg]; exact (below_size (bl_ HB).out) : w.heap.size ≤ gb304)); have n3_ := Aside0.mk ((by rw [hg]; exact (below_size (bl_ HB).out) : w.heap.size ≤ gb304)); clear HB; have HB := n0_; have BK304 := n1_; have GW304 := n2_; have GE304 := n3_; clear n0_ n1_ n2_ n3_; clear hb hbox hg) | ((with_reducible refine gate_callee (f := 10) rfl ?_); refine goesL_ (some 13) rfl rfl Tryd.func10 (by kernel_rfl) rfl #[] rfl (by (try simp only [List.map_toArray, List.map_cons, List.map_nil]); first | done | rfl | (simp only [List.length_drop, List.length_take]; rfl) | (have z_ : ∀ s_ : ByteArray, s_.size ≤ 9223372036854775807 → -(s_.size : Int) = wrap64 (-(s_.size : Int)) := (fun s_ h_ => by unfold wrap64; omega); rw [← z_ _ (by omega)]; rfl) | (simp only [ByteArray.size_append]; rfl)) ?_; (with_reducible refine (florinlaw03_head.calls k  true _ A4.out).mono ?_); rintro e w15 ⟨rfl, hb⟩; refine ⟨_, rfl, ?_⟩; have n0_ := bb_ BK304 hb; have n1_ := Aside0.mk (below_step (bl_ HB).out hb); clear BK304; clear HB; have BK304 := n0_; have HB := n1_; clear n0_ n1_; (try clear hb); (try clear hb2); (try clear hk); (try clear hi); have hcz16_0 : w15.cell? ⟨gb304, 0, none⟩ = some (.bool a0_0) := bc_ BK304 0; have hcz16_1 : w15.cell? ⟨gb304, 1, none⟩ = some (.slice A0_1 l0_1.length c0_1) := bc_ BK304 1; have hcz16_2 : w15.cell? ⟨gb304, 2, none⟩ = some (.int .i64 a0_2) := bc_ BK304 2; have hfz16_0 := blk_frozen BK304.out 0; have hfz16_1 := blk_frozen BK304.out 1; have hfz16_2 := blk_frozen BK304.out 2) | ((with_reducible refine gate_callee (f := 11) rfl ?_); refine goesL_ (some 16) rfl rfl Tryd.func11 (by kernel_rfl) rfl #[.agg #[.bool a0_0, .slice A0_1 l0_1.length c0_1, .int .i64 a0_2], .int .i64 40] rfl (by (try simp only [List.map_toArray, List.map_cons, List.map_nil]); first | done | rfl | (simp only [List.length_drop, List.length_take]; rfl) | (have z_ : ∀ s_ : ByteArray, s_.size ≤ 9223372036854775807 → -(s_.size : Int) = wrap64 (-(s_.size : Int)) := (fun s_ h_ => by unfold wrap64; omega); rw [← z_ _ (by omega)]; rfl) | (simp only [ByteArray.size_append]; rfl)) ?_; (with_reducible refine (florinlaw02_Raw_Few.calls a0_0 _ _ l0_1 a0_2 40 true _ ?side1 ?side2 A6.out).mono ?_); (case side1 => repeat (first | exact (Kd.C_below HR0_1.out HB.out) | (with_reducible refine Kd.C_alloc ?_ _) | (with_reducible refine Kd.C_drewN ?_ _) | (with_reducible refine Kd.C_drew ?_))); (case side2 => exact HC0_1.out); rintro e w17 ⟨rfl, hb⟩; refine ⟨_, rfl, ?_⟩; have n0_ := bb_ BK304 hb; have n1_ := Aside0.mk (below_step (bl_ HB).out hb); clear BK304; clear HB; have BK304 := n0_; have HB := n1_; clear n0_ n1_; (try clear hb); (try clear hb2); (try clear hk); (try clear hi)) | ((with_reducible refine gate_callee (f := 14) rfl ?_); refine goesL_ (some 25) rfl rfl Tryd.func14 (by kernel_rfl) rfl #[.int .i64 a2] rfl (by (try simp only [List.map_toArray, List.map_cons, List.map_nil]); first | done | rfl | (simp only [List.length_drop, List.length_take]; rfl) | (have z_ : ∀ s_ : ByteArray, s_.size ≤ 9223372036854775807 → -(s_.size : Int) = wrap64 (-(s_.size : Int)) := (fun s_ h_ => by unfold wrap64; omega); rw [← z_ _ (by omega)]; rfl) | (simp only [ByteArray.size_append]; rfl)) ?_; (with_reducible refine (florinlaw03_Mode.calls a2 t307 _ A8.out).mono ?_); rintro e w' ⟨rfl, ⟨nd, rfl⟩⟩; refine ⟨_, rfl, ?_⟩; (try (rw [drewN_self w17]; generalize hq_ : World.drewN w17 _ = w17; have n0_ : Aside0 (w17.heap[gb304]? = some (.cells #[.bool a0_0, .slice A0_1 l0_1.length c0_1, .int .i64 a0_2] 24 (0, 0))) := ⟨by rw [← hq_]; exact (by (with_reducible repeat (first | refine blk_drewN ?_ _ | refine blk_drew ?_ | refine blk_alloc ?_ _)); exact BK304.out)⟩; have n1_ : Aside0 (Below w.heap.size w w17) := ⟨by rw [← hq_]; exact (bl_ HB).out⟩; clear BK304 HB hq_; have BK304 := n0_; have HB := n1_; clear n0_ n1_)); have hcz18_0 : w17.cell? ⟨gb304, 0, none⟩ = some (.bool a0_0) := bc_ BK304 0; have hcz18_1 : w17.cell? ⟨gb304, 1, none⟩ = some (.slice A0_1 l0_1.length c0_1) := bc_ BK304 1; have hcz18_2 : w17.cell? ⟨gb304, 2, none⟩ = some (.int .i64 a0_2) := bc_ BK304 2; have hfz18_0 := blk_frozen BK304.out 0; have hfz18_1 := blk_frozen BK304.out 1; have hfz18_2 := blk_frozen BK304.out 2) | ((with_reducible refine gate_callee (f := 12) rfl ?_); refine goesL_ (some 27) rfl rfl Tryd.func12 (by kernel_rfl) rfl #[.agg #[.bool a0_0, .slice A0_1 l0_1.length c0_1, .int .i64 a0_2]] rfl (by (try simp only [List.map_toArray, List.map_cons, List.map_nil]); first | done | rfl | (simp only [List.length_drop, List.length_take]; rfl) | (have z_ : ∀ s_ : ByteArray, s_.size ≤ 9223372036854775807 → -(s_.size : Int) = wrap64 (-(s_.size : Int)) := (fun s_ h_ => by unfold wrap64; omega); rw [← z_ _ (by omega)]; rfl) | (simp only [ByteArray.size_append]; rfl)) ?_; (with_reducible refine (florinlaw02_Raw_Make.calls k a0_0 _ _ l0_1 a0_2 t308 t309 t310 _ ?side1 ?side2 A9.out).mono ?_); (case side1 => repeat (first | exact (Kd.C_below HR0_1.out HB.out) | (with_reducible refine Kd.C_alloc ?_ _) | (with_reducible refine Kd.C_drewN ?_ _) | (with_reducible refine Kd.C_drew ?_))); (case side2 => exact HC0_1.out); rintro e w19 ⟨rfl, hb⟩; refine ⟨_, rfl, ?_⟩; have n0_ := bb_ BK304 hb; have n1_ := Aside0.mk (below_step (bl_ HB).out hb); clear BK304; clear HB; have BK304 := n0_; have HB := n1_; clear n0_ n1_; (try clear hb); (try clear hb2); (try clear hk); (try clear hi)) | ((with_reducible refine gate_dst (N := 8) rfl ?_); refine box_event ?hg (N := 8) ?hd (cs := #[.bool false, .string (⟨#[]⟩ : ByteArray), .int .i64 0]) (t := 30) ?hr ?_; (case hd => rfl); (case hg => rfl); (case hr => first | (go_simp; done) | (go_simp; rfl)); intro gb311 hg w20 hbox hb; have n0_ := bb_ BK304 hb; have n1_ := Aside0.mk (below_step (bl_ HB).out hb); have n2_ := Aside0.mk (hbox); have n3_ := Aside0.mk ((by rw [hg]; exact (below_size (bl_ HB).out) : w.heap.size ≤ gb311)); have n4_ := Aside0.mk ((by rw [hg]; exact (below_size (bl_ HB).out) : w.heap.size ≤ gb311)); have n5_ := Aside0.mk ((by rw [hg]; exact Nat.ne_of_lt (blk_lt (g := gb304) (o := .cells #[.bool a0_0, .slice A0_1 l0_1.length c0_1, .int .i64 a0_2] 24 (0, 0)) (by (with_reducible repeat (first | refine blk_drewN ?_ _ | refine blk_drew ?_ | refine blk_alloc ?_ _)); exact BK304.out)) : gb304 ≠ gb311)); have n6_ := Aside0.mk ((by rw [hg]; exact Nat.ne_of_gt (blk_lt (g := gb304) (o := .cells #[.bool a0_0, .slice A0_1 l0_1.length c0_1, .int .i64 a0_2] 24 (0, 0)) (by (with_reducible repeat (first | refine blk_drewN ?_ _ | refine blk_drew ?_ | refine blk_alloc ?_ _)); exact BK304.out)) : gb311 ≠ gb304)); clear BK304; clear HB; have BK304 := n0_; have HB := n1_; have BK311 := n2_; have GW311 := n3_; have GE311 := n4_; have NB304_311 := n5_; have NB311_304 := n6_; clear n0_ n1_ n2_ n3_ n4_ n5_ n6_; clear hb hbox hg; have hnb21 := NB311_304.out; have hnc21 := NB304_311.out; have hcz22_0 : w20.cell? ⟨gb311, 0, none⟩ = some (.bool false) := bc_ BK311 0; have hcz22_1 : w20.cell? ⟨gb311, 1, none⟩ = some (.string (⟨#[]⟩ : ByteArray)) := bc_ BK311 1; have hcz22_2 : w20.cell? ⟨gb311, 2, none⟩ = some (.int .i64 0) := bc_ BK311 2; have hfz22_0 := blk_frozen BK311.out 0; have hfz22_1 := blk_frozen BK311.out 1; have hfz22_2 := blk_frozen BK311.out 2) | ((with_reducible refine gate_callee (f := 13) rfl ?_); refine goesL_ (some 31) rfl rfl Tryd.func13 (by kernel_rfl) rfl #[.agg #[.bool t308, .string t309, .int .i64 t310], .int .i64 (wrap64 ((Int.tmod a1 60) - (wrap64 (Int.tdiv (Int.tmod a1 60) 2)))), .int .i64 t307] rfl (by (try simp only [List.map_toArray, List.map_cons, List.map_nil]); first | done | rfl | (simp only [List.length_drop, List.length_take]; rfl) | (have z_ : ∀ s_ : ByteArray, s_.size ≤ 9223372036854775807 → -(s_.size : Int) = wrap64 (-(s_.size : Int)) := (fun s_ h_ => by unfold wrap64; omega); rw [← z_ _ (by omega)]; rfl) | (simp only [ByteArray.size_append]; rfl)) ?_; (with_reducible refine (round_At.calls k t308 t309 t310 (wrap64 ((Int.tmod a1 60) - (wrap64 (Int.tdiv (Int.tmod a1 60) 2)))) t307 t312 t313 t314 _ A10.out).mono ?_); rintro e w23 ⟨rfl, hb⟩; refine ⟨_, rfl, ?_⟩; have n0_ := Aside0.mk (blk_below (g := gb304) (o := .cells #[.bool a0_0, .slice A0_1 l0_1.length c0_1, .int .i64 a0_2] 24 (0, 0)) (by (with_reducible repeat (first | refine blk_drewN ?_ _ | refine blk_drew ?_ | refine blk_alloc ?_ _)); refine blk_far ?_ NB304_311.out _; (with_reducible repeat (first | refine blk_drewN ?_ _ | refine blk_drew ?_ | refine blk_alloc ?_ _)); refine blk_far ?_ NB304_311.out _; (with_reducible repeat (first | refine blk_drewN ?_ _ | refine blk_drew ?_ | refine blk_alloc ?_ _)); refine blk_far ?_ NB304_311.out _; (with_reducible repeat (first | refine blk_drewN ?_ _ | refine blk_drew ?_ | refine blk_alloc ?_ _)); exact BK304.out) hb); have n1_ := Aside0.mk (blk_below (g := gb311) (o := .cells #[.bool t308, .string t309, .int .i64 t310] 30 (0, 0)) (by (with_reducible repeat (first | refine blk_drewN ?_ _ | refine blk_drew ?_ | refine blk_alloc ?_ _)); refine blk_put (cs := #[.bool t308, .string t309, .int .i64 0]) ?_ 2 _ rfl; (with_reducible repeat (first | refine blk_drewN ?_ _ | refine blk_drew ?_ | refine blk_alloc ?_ _)); refine blk_put (cs := #[.bool t308, .string (⟨#[]⟩ : ByteArray), .int .i64 0]) ?_ 1 _ rfl; (with_reducible repeat (first | refine blk_drewN ?_ _ | refine blk_drew ?_ | refine blk_alloc ?_ _)); refine blk_put (cs := #[.bool false, .string (⟨#[]⟩ : ByteArray), .int .i64 0]) ?_ 0 _ rfl; (with_reducible repeat (first | refine blk_drewN ?_ _ | refine blk_drew ?_ | refine blk_alloc ?_ _)); exact BK311.out) hb); have n2_ := Aside0.mk (below_step (bl_ HB).out hb); clear BK304; clear BK311; clear HB; have BK304 := n0_; have BK311 := n1_; have HB := n2_; clear n0_ n1_ n2_; (try clear hb); (try clear hb2); (try clear hk); (try clear hi)) | ((with_reducible refine gate_dst (N := 9) rfl ?_); refine box_event ?hg (N := 9) ?hd (cs := #[.bool false, .string (⟨#[]⟩ : ByteArray), .int .i64 0]) (t := 30) ?hr ?_; (case hd => rfl); (case hg => rfl); (case hr => first | (go_simp; done) | (go_simp; rfl)); intro gb315 hg w24 hbox hb; have n0_ := bb_ BK304 hb; have n1_ := bb_ BK311 hb; have n2_ := Aside0.mk (below_step (bl_ HB).out hb); have n3_ := Aside0.mk (hbox); have n4_ := Aside0.mk ((by rw [hg]; exact (below_size (bl_ HB).out) : w.heap.size ≤ gb315)); have n5_ := Aside0.mk ((by rw [hg]; exact (below_size (bl_ HB).out) : w.heap.size ≤ gb315)); have n6_ := Aside0.mk ((by rw [hg]; exact Nat.ne_of_lt (blk_lt (g := gb304) (o := .cells #[.bool a0_0, .slice A0_1 l0_1.length c0_1, .int .i64 a0_2] 24 (0, 0)) (by (with_reducible repeat (first | refine blk_drewN ?_ _ | refine blk_drew ?_ | refine blk_alloc ?_ _)); exact BK304.out)) : gb304 ≠ gb315)); have n7_ := Aside0.mk ((by rw [hg]; exact Nat.ne_of_gt (blk_lt (g := gb304) (o := .cells #[.bool a0_0, .slice A0_1 l0_1.length c0_1, .int .i64 a0_2] 24 (0, 0)) (by (with_reducible repeat (first | refine blk_drewN ?_ _ | refine blk_drew ?_ | refine blk_alloc ?_ _)); exact BK304.out)) : gb315 ≠ gb304)); have n8_ := Aside0.mk ((by rw [hg]; exact Nat.ne_of_lt (blk_lt (g := gb311) (o := .cells #[.bool t308, .string t309, .int .i64 t310] 30 (0, 0)) (by (with_reducible repeat (first | refine blk_drewN ?_ _ | refine blk_drew ?_ | refine blk_alloc ?_ _)); exact BK311.out)) : gb311 ≠ gb315)); have n9_ := Aside0.mk ((by rw [hg]; exact Nat.ne_of_gt (blk_lt (g := gb311) (o := .cells #[.bool t308, .string t309, .int .i64 t310] 30 (0, 0)) (by (with_reducible repeat (first | refine blk_drewN ?_ _ | refine blk_drew ?_ | refine blk_alloc ?_ _)); exact BK311.out)) : gb315 ≠ gb311)); clear BK304; clear BK311; clear HB; have BK304 := n0_; have BK311 := n1_; have HB := n2_; have BK315 := n3_; have GW315 := n4_; have GE315 := n5_; have NB304_315 := n6_; have NB315_304 := n7_; have NB311_315 := n8_; have NB315_311 := n9_; clear n0_ n1_ n2_ n3_ n4_ n5_ n6_ n7_ n8_ n9_; clear hb hbox hg; have hnb25 := NB315_304.out; have hnc25 := NB304_315.out; have hnb26 := NB315_311.out; have hnc26 := NB311_315.out; have hcz27_0 : w24.cell? ⟨gb315, 0, none⟩ = some (.bool false) := bc_ BK315 0; have hcz27_1 : w24.cell? ⟨gb315, 1, none⟩ = some (.string (⟨#[]⟩ : ByteArray)) := bc_ BK315 1; have hcz27_2 : w24.cell? ⟨gb315, 2, none⟩ = some (.int .i64 0) := bc_ BK315 2; have hfz27_0 := blk_frozen BK315.out 0; have hfz27_1 := blk_frozen BK315.out 1; have hfz27_2 := blk_frozen BK315.out 2; have hcz28_0 : w24.cell? ⟨gb311, 0, none⟩ = some (.bool t308) := bc_ BK311 0; have hcz28_1 : w24.cell? ⟨gb311, 1, none⟩ = some (.string t309) := bc_ BK311 1; have hcz28_2 : w24.cell? ⟨gb311, 2, none⟩ = some (.int .i64 t310) := bc_ BK311 2; have hfz28_0 := blk_frozen BK311.out 0; have hfz28_1 := blk_frozen BK311.out 1; have hfz28_2 := blk_frozen BK311.out 2) | ((with_reducible refine gate_callee (f := 15) rfl ?_); refine goesL_ (some 34) rfl rfl Tryd.func15 (by kernel_rfl) rfl #[.agg #[.bool t308, .string t309, .int .i64 t310], .agg #[.bool t312, .string t313, .int .i64 t314]] rfl (by (try simp only [List.map_toArray, List.map_cons, List.map_nil]); first | done | rfl | (simp only [List.length_drop, List.length_take]; rfl) | (have z_ : ∀ s_ : ByteArray, s_.size ≤ 9223372036854775807 → -(s_.size : Int) = wrap64 (-(s_.size : Int)) := (fun s_ h_ => by unfold wrap64; omega); rw [← z_ _ (by omega)]; rfl) | (simp only [ByteArray.size_append]; rfl)) ?_; (with_reducible refine (dec_Sub.calls k t308 t309 t310 t312 t313 t314 t316 t317 t318 _ A11.out).mono ?_); rintro e w29 ⟨rfl, hb⟩; refine ⟨_, rfl, ?_⟩; have n0_ := Aside0.mk (blk_below (g := gb304) (o := .cells #[.bool a0_0, .slice A0_1 l0_1.length c0_1, .int .i64 a0_2] 24 (0, 0)) (by (with_reducible repeat (first | refine blk_drewN ?_ _ | refine blk_drew ?_ | refine blk_alloc ?_ _)); refine blk_far ?_ NB304_315.out _; (with_reducible repeat (first | refine blk_drewN ?_ _ | refine blk_drew ?_ | refine blk_alloc ?_ _)); refine blk_far ?_ NB304_315.out _; (with_reducible repeat (first | refine blk_drewN ?_ _ | refine blk_drew ?_ | refine blk_alloc ?_ _)); refine blk_far ?_ NB304_315.out _; (with_reducible repeat (first | refine blk_drewN ?_ _ | refine blk_drew ?_ | refine blk_alloc ?_ _)); exact BK304.out) hb); have n1_ := Aside0.mk (blk_below (g := gb311) (o := .cells #[.bool t308, .string t309, .int .i64 t310] 30 (0, 0)) (by (with_reducible repeat (first | refine blk_drewN ?_ _ | refine blk_drew ?_ | refine blk_alloc ?_ _)); refine blk_far ?_ NB311_315.out _; (with_reducible repeat (first | refine blk_drewN ?_ _ | refine blk_drew ?_ | refine blk_alloc ?_ _)); refine blk_far ?_ NB311_315.out _; (with_reducible repeat (first | refine blk_drewN ?_ _ | refine blk_drew ?_ | refine blk_alloc ?_ _)); refine blk_far ?_ NB311_315.out _; (with_reducible repeat (first | refine blk_drewN ?_ _ | refine blk_drew ?_ | refine blk_alloc ?_ _)); exact BK311.out) hb); have n2_ := Aside0.mk (blk_below (g := gb315) (o := .cells #[.bool t312, .string t313, .int .i64 t314] 30 (0, 0)) (by (with_reducible repeat (first | refine blk_drewN ?_ _ | refine blk_drew ?_ | refine blk_alloc ?_ _)); refine blk_put (cs := #[.bool t312, .string t313, .int .i64 0]) ?_ 2 _ rfl; (with_reducible repeat (first | refine blk_drewN ?_ _ | refine blk_drew ?_ | refine blk_alloc ?_ _)); refine blk_put (cs := #[.bool t312, .string (⟨#[]⟩ : ByteArray), .int .i64 0]) ?_ 1 _ rfl; (with_reducible repeat (first | refine blk_drewN ?_ _ | refine blk_drew ?_ | refine blk_alloc ?_ _)); refine blk_put (cs := #[.bool false, .string (⟨#[]⟩ : ByteArray), .int .i64 0]) ?_ 0 _ rfl; (with_reducible repeat (first | refine blk_drewN ?_ _ | refine blk_drew ?_ | refine blk_alloc ?_ _)); exact BK315.out) hb); have n3_ := Aside0.mk (below_step (bl_ HB).out hb); clear BK304; clear BK311; clear BK315; clear HB; have BK304 := n0_; have BK311 := n1_; have BK315 := n2_; have HB := n3_; clear n0_ n1_ n2_ n3_; (try clear hb); (try clear hb2); (try clear hk); (try clear hi)) | ((with_reducible refine gate_callee (f := 16) rfl ?_); refine goesL_ (some 35) rfl rfl Tryd.func16 (by kernel_rfl) rfl #[.agg #[.bool t316, .string t317, .int .i64 t318]] rfl (by (try simp only [List.map_toArray, List.map_cons, List.map_nil]); first | done | rfl | (simp only [List.length_drop, List.length_take]; rfl) | (have z_ : ∀ s_ : ByteArray, s_.size ≤ 9223372036854775807 → -(s_.size : Int) = wrap64 (-(s_.size : Int)) := (fun s_ h_ => by unfold wrap64; omega); rw [← z_ _ (by omega)]; rfl) | (simp only [ByteArray.size_append]; rfl)) ?_; (with_reducible refine (dec_Dec_Abs.calls k t316 t317 t318 t319 t320 t321 _ A12.out).mono ?_); rintro e w30 ⟨rfl, hb⟩; refine ⟨_, rfl, ?_⟩; have n0_ := bb_ BK304 hb; have n1_ := bb_ BK311 hb; have n2_ := bb_ BK315 hb; have n3_ := Aside0.mk (below_step (bl_ HB).out hb); clear BK304; clear BK311; clear BK315; clear HB; have BK304 := n0_; have BK311 := n1_; have BK315 := n2_; have HB := n3_; clear n0_ n1_ n2_ n3_; (try clear hb); (try clear hb2); (try clear hk); (try clear hi)) | ((with_reducible refine gate_dst (N := 10) rfl ?_); refine box_event ?hg (N := 10) ?hd (cs := #[.bool false, .string (⟨#[]⟩ : ByteArray), .int .i64 0]) (t := 30) ?hr ?_; (case hd => rfl); (case hg => rfl); (case hr => first | (go_simp; done) | (go_simp; rfl)); intro gb322 hg w31 hbox hb; have n0_ := bb_ BK304 hb; have n1_ := bb_ BK311 hb; have n2_ := bb_ BK315 hb; have n3_ := Aside0.mk (below_step (bl_ HB).out hb); have n4_ := Aside0.mk (hbox); have n5_ := Aside0.mk ((by rw [hg]; exact (below_size (bl_ HB).out) : w.heap.size ≤ gb322)); have n6_ := Aside0.mk ((by rw [hg]; exact (below_size (bl_ HB).out) : w.heap.size ≤ gb322)); have n7_ := Aside0.mk ((by rw [hg]; exact Nat.ne_of_lt (blk_lt (g := gb304) (o := .cells #[.bool a0_0, .slice A0_1 l0_1.length c0_1, .int .i64 a0_2] 24 (0, 0)) (by (with_reducible repeat (first | refine blk_drewN ?_ _ | refine blk_drew ?_ | refine blk_alloc ?_ _)); exact BK304.out)) : gb304 ≠ gb322)); have n8_ := Aside0.mk ((by rw [hg]; exact Nat.ne_of_gt (blk_lt (g := gb304) (o := .cells #[.bool a0_0, .slice A0_1 l0_1.length c0_1, .int .i64 a0_2] 24 (0, 0)) (by (with_reducible repeat (first | refine blk_drewN ?_ _ | refine blk_drew ?_ | refine blk_alloc ?_ _)); exact BK304.out)) : gb322 ≠ gb304)); have n9_ := Aside0.mk ((by rw [hg]; exact Nat.ne_of_lt (blk_lt (g := gb311) (o := .cells #[.bool t308, .string t309, .int .i64 t310] 30 (0, 0)) (by (with_reducible repeat (first | refine blk_drewN ?_ _ | refine blk_drew ?_ | refine blk_alloc ?_ _)); exact BK311.out)) : gb311 ≠ gb322)); have n10_ := Aside0.mk ((by rw [hg]; exact Nat.ne_of_gt (blk_lt (g := gb311) (o := .cells #[.bool t308, .string t309, .int .i64 t310] 30 (0, 0)) (by (with_reducible repeat (first | refine blk_drewN ?_ _ | refine blk_drew ?_ | refine blk_alloc ?_ _)); exact BK311.out)) : gb322 ≠ gb311)); have n11_ := Aside0.mk ((by rw [hg]; exact Nat.ne_of_lt (blk_lt (g := gb315) (o := .cells #[.bool t312, .string t313, .int .i64 t314] 30 (0, 0)) (by (with_reducible repeat (first | refine blk_drewN ?_ _ | refine blk_drew ?_ | refine blk_alloc ?_ _)); exact BK315.out)) : gb315 ≠ gb322)); have n12_ := Aside0.mk ((by rw [hg]; exact Nat.ne_of_gt (blk_lt (g := gb315) (o := .cells #[.bool t312, .string t313, .int .i64 t314] 30 (0, 0)) (by (with_reducible repeat (first | refine blk_drewN ?_ _ | refine blk_drew ?_ | refine blk_alloc ?_ _)); exact BK315.out)) : gb322 ≠ gb315)); clear BK304; clear BK311; clear BK315; clear HB; have BK304 := n0_; have BK311 := n1_; have BK315 := n2_; have HB := n3_; have BK322 := n4_; have GW322 := n5_; have GE322 := n6_; have NB304_322 := n7_; have NB322_304 := n8_; have NB311_322 := n9_; have NB322_311 := n10_; have NB315_322 := n11_; have NB322_315 := n12_; clear n0_ n1_ n2_ n3_ n4_ n5_ n6_ n7_ n8_ n9_ n10_ n11_ n12_; clear hb hbox hg; have hnb32 := NB322_304.out; have hnc32 := NB304_322.out; have hnb33 := NB322_311.out; have hnc33 := NB311_322.out; have hnb34 := NB322_315.out; have hnc34 := NB315_322.out; have hcz35_0 : w31.cell? ⟨gb322, 0, none⟩ = some (.bool false) := bc_ BK322 0; have hcz35_1 : w31.cell? ⟨gb322, 1, none⟩ = some (.string (⟨#[]⟩ : ByteArray)) := bc_ BK322 1; have hcz35_2 : w31.cell? ⟨gb322, 2, none⟩ = some (.int .i64 0) := bc_ BK322 2; have hfz35_0 := blk_frozen BK322.out 0; have hfz35_1 := blk_frozen BK322.out 1; have hfz35_2 := blk_frozen BK322.out 2))
   (try simp only [Act.put, List.setIfInBounds_toArray, List.set_cons_zero, List.set_cons_succ])
   go_cut [52] (fun v52 wc => ∃ (kq : Nat) (x52_12 : Bool), v52 = .bool x52_12 ∧ Aside0 (florinlaw03_RoundSigns.j0 kq (wrap64 ((Int.tmod a1 60) - (wrap64 (Int.tdiv (Int.tmod a1 60) 2)))) t307 x52_12 t308 t309 t310 t312 t313 t314 = some r) ∧ Aside0 (kq ≤ k) ∧ Aside0 (wc.heap[gb304]? = some (.cells #[.bool a0_0, (.slice A0_1 l0_1.length c0_1), .int .i64 a0_2] 24 (0, 0))) ∧ Aside0 (wc.heap[gb311]? = some (.cells #[.bool t308, .string t309, .int .i64 t310] 30 (0, 0))) ∧ Aside0 (wc.heap[gb315]? = some (.cells #[.bool t312, .string t313, .int .i64 t314] 30 (0, 0))) ∧ Aside0 (wc.heap[gb322]? = some (.cells #[.bool t319, .string t320, .int .i64 t321] 30 (0, 0))) ∧ Aside0 (Below w.heap.size w wc))
   case first =>
    have H := HC13.out
    clear HC13
    by_cases c36 : t307 ≤ 2
    ·rw [if_pos c36] at H
     have c36b0 : decide (t307 ≤ 2) = true := decide_eq_true c36
     clear c36
     (first | rw [c36b0] | (simp only [i64_w, i32_w]; rw [c36b0]) | skip)
     replace H := Option.bind_eq_some_iff.mp H
     obtain ⟨⟨t323, t324, t325⟩, A370, H⟩ := H
     replace H : ((florinlaw03_unit.f k (wrap64 ((Int.tmod a1 60) - (wrap64 (Int.tdiv (Int.tmod a1 60) 2))))).bind fun bt326 => ((dec_Cmp.f k t323 t324 t325 bt326.1 bt326.2.1 bt326.2.2).bind fun t329 => (if t329 > 0 then (florinlaw03_RoundSigns.j0 k (wrap64 ((Int.tmod a1 60) - (wrap64 (Int.tdiv (Int.tmod a1 60) 2)))) t307 true t308 t309 t310 t312 t313 t314) else ((florinlaw03_unit.f k (wrap64 ((Int.tmod a1 60) - (wrap64 (Int.tdiv (Int.tmod a1 60) 2))))).bind fun bt330 => ((dec_Cmp.f k t319 t320 t321 bt330.1 bt330.2.1 bt330.2.2).bind fun t333 => (florinlaw03_RoundSigns.j0 k (wrap64 ((Int.tmod a1 60) - (wrap64 (Int.tdiv (Int.tmod a1 60) 2)))) t307 (decide (t333 ≥ 0)) t308 t309 t310 t312 t313 t314)))))) = some r := H
     have A37 := Aside0.mk A370
     clear A370
     replace H := Option.bind_eq_some_iff.mp H
     obtain ⟨⟨t326, t327, t328⟩, A380, H⟩ := H
     replace H : ((dec_Cmp.f k t323 t324 t325 t326 t327 t328).bind fun t329 => (if t329 > 0 then (florinlaw03_RoundSigns.j0 k (wrap64 ((Int.tmod a1 60) - (wrap64 (Int.tdiv (Int.tmod a1 60) 2)))) t307 true t308 t309 t310 t312 t313 t314) else ((florinlaw03_unit.f k (wrap64 ((Int.tmod a1 60) - (wrap64 (Int.tdiv (Int.tmod a1 60) 2))))).bind fun bt330 => ((dec_Cmp.f k t319 t320 t321 bt330.1 bt330.2.1 bt330.2.2).bind fun t333 => (florinlaw03_RoundSigns.j0 k (wrap64 ((Int.tmod a1 60) - (wrap64 (Int.tdiv (Int.tmod a1 60) 2)))) t307 (decide (t333 ≥ 0)) t308 t309 t310 t312 t313 t314))))) = some r := H
     have A38 := Aside0.mk A380
     clear A380
     replace H := Option.bind_eq_some_iff.mp H
     obtain ⟨t329, A390, H⟩ := H
     replace H : (if t329 > 0 then (florinlaw03_RoundSigns.j0 k (wrap64 ((Int.tmod a1 60) - (wrap64 (Int.tdiv (Int.tmod a1 60) 2)))) t307 true t308 t309 t310 t312 t313 t314) else ((florinlaw03_unit.f k (wrap64 ((Int.tmod a1 60) - (wrap64 (Int.tdiv (Int.tmod a1 60) 2))))).bind fun bt330 => ((dec_Cmp.f k t319 t320 t321 bt330.1 bt330.2.1 bt330.2.2).bind fun t333 => (florinlaw03_RoundSigns.j0 k (wrap64 ((Int.tmod a1 60) - (wrap64 (Int.tdiv (Int.tmod a1 60) 2)))) t307 (decide (t333 ≥ 0)) t308 t309 t310 t312 t313 t314)))) = some r := H
     have A39 := Aside0.mk A390
     clear A390
     by_cases c40 : t329 > 0
     ·rw [if_pos c40] at H
      have c40b0 : decide (0 < t329) = true := decide_eq_true c40
      clear c40
      have H' := Aside0.mk H
      clear H
      try go_wp2
      have n0_ : Aside0 ((((w31.setCell ⟨gb322, 0, none⟩ (.bool t319)).setCell ⟨gb322, 1, none⟩ (.string t320)).setCell ⟨gb322, 2, none⟩ (.int .i64 t321)).heap[gb304]? = _) := bf_ BK304
      have n1_ : Aside0 ((((w31.setCell ⟨gb322, 0, none⟩ (.bool t319)).setCell ⟨gb322, 1, none⟩ (.string t320)).setCell ⟨gb322, 2, none⟩ (.int .i64 t321)).heap[gb311]? = _) := bf_ BK311
      have n2_ : Aside0 ((((w31.setCell ⟨gb322, 0, none⟩ (.bool t319)).setCell ⟨gb322, 1, none⟩ (.string t320)).setCell ⟨gb322, 2, none⟩ (.int .i64 t321)).heap[gb315]? = _) := bf_ BK315
      have n3_ : Aside0 ((((w31.setCell ⟨gb322, 0, none⟩ (.bool t319)).setCell ⟨gb322, 1, none⟩ (.string t320)).setCell ⟨gb322, 2, none⟩ (.int .i64 t321)).heap[gb322]? = some (.cells #[.bool t319, .string t320, .int .i64 t321] 30 (0, 0))) := ⟨by (with_reducible repeat (first | refine blk_drewN ?_ _ | refine blk_drew ?_ | refine blk_alloc ?_ _)); refine blk_put (cs := #[.bool t319, .string t320, .int .i64 0]) ?_ 2 _ rfl; (with_reducible repeat (first | refine blk_drewN ?_ _ | refine blk_drew ?_ | refine blk_alloc ?_ _)); refine blk_put (cs := #[.bool t319, .string (⟨#[]⟩ : ByteArray), .int .i64 0]) ?_ 1 _ rfl; (with_reducible repeat (first | refine blk_drewN ?_ _ | refine blk_drew ?_ | refine blk_alloc ?_ _)); refine blk_put (cs := #[.bool false, .string (⟨#[]⟩ : ByteArray), .int .i64 0]) ?_ 0 _ rfl; (with_reducible repeat (first | refine blk_drewN ?_ _ | refine blk_drew ?_ | refine blk_alloc ?_ _)); exact BK322.out⟩
      have n4_ : Aside0 (Below w.heap.size w (((w31.setCell ⟨gb322, 0, none⟩ (.bool t319)).setCell ⟨gb322, 1, none⟩ (.string t320)).setCell ⟨gb322, 2, none⟩ (.int .i64 t321))) := (bl_ HB)
      (try clear BK304)
      (try clear BK311)
      (try clear BK315)
      (try clear BK322)
      (try clear HB)
      generalize (((w31.setCell ⟨gb322, 0, none⟩ (.bool t319)).setCell ⟨gb322, 1, none⟩ (.string t320)).setCell ⟨gb322, 2, none⟩ (.int .i64 t321)) = w41 at n0_ n1_ n2_ n3_ n4_ ⊢
      have BK304 := n0_
      have BK311 := n1_
      have BK315 := n2_
      have BK322 := n3_
      have HB := n4_
      clear n0_ n1_ n2_ n3_ n4_
      replace BK304 := Aside0.mk (blk_drew BK304.out)
      replace BK311 := Aside0.mk (blk_drew BK311.out)
      replace BK315 := Aside0.mk (blk_drew BK315.out)
      replace BK322 := Aside0.mk (blk_drew BK322.out)
      replace HB := Aside0.mk (below_drew1 HB.out)
      refine start_ (n := 17) (S := fun w' => w'.cell? ⟨gb322, 0, none⟩ = some (.bool t319) ∧ w'.cell? ⟨gb322, 1, none⟩ = some (.string t320) ∧ w'.cell? ⟨gb322, 2, none⟩ = some (.int .i64 t321)) (ds := []) #[false, false, false, false, false, false, false, false, false, false, false, false, false, false, false, false, false] (by kernel_rfl) rfl rfl ⟨bc_ BK322 0, bc_ BK322 1, bc_ BK322 2⟩ (fun hHeld => ?_); refine with_tabW florinlaw03_RoundSigns.tab10 florinlaw03_RoundSigns.bits10 (fun HT_ HW_ => ?_)
      generalize w41.drew = w42 at BK304 BK311 BK315 BK322 HB hHeld ⊢
      refine pu_ 0 36 (bm_ 17 1) HT_ ?_
      refine pu_ 1 37 (bm_ 17 3) HT_ ?_
      refine pu_ 2 38 (bm_ 17 7) HT_ ?_
      refine pu_ 5 41 (bm_ 17 39) HT_ ?_
      refine tk_ 3 39 (bm_ 17 47) HT_ HW_ hHeld rfl (by rintro w' ⟨s0, s1, s2⟩; go_simp; with_reducible rfl) ?_
      refine one_ (i := 4) (N := some 40) (bm_ 17 63) rfl rfl (one_of HT_.out (by kernel_rfl)) (by decide) (fun K hK => ?_)
      refine gs_ Tryd.func18 #[.agg #[.bool t319, .string t320, .int .i64 t321]] ?_
      with_reducible refine (florinlaw03_twice.calls k t319 t320 t321 t323 t324 t325 _ A37.out).mono ?_
      rintro e w43 ⟨rfl, hb⟩
      refine ⟨_, rfl, ?_⟩
      replace BK304 := bb_ BK304 hb
      replace BK311 := bb_ BK311 hb
      replace BK315 := bb_ BK315 hb
      replace BK322 := bb_ BK322 hb
      replace HB := Aside0.mk (below_step (bl_ HB).out hb)
      (try clear hb)
      (try clear hb2)
      (try clear hk)
      (try clear hi)
      refine hK.out _ _ ⟨bc_ BK322 0, bc_ BK322 1, bc_ BK322 2⟩ (fun hHeld => ?_)
      clear hK K
      refine nm_ 40 ?_
      refine one_ (i := 6) (N := some 42) (bm_ 17 127) rfl rfl (one_of HT_.out (by kernel_rfl)) (by decide) (fun K hK => ?_)
      refine gs_ Tryd.func19 #[.int .i64 (wrap64 ((Int.tmod a1 60) - (wrap64 (Int.tdiv (Int.tmod a1 60) 2))))] ?_
      with_reducible refine (florinlaw03_unit.calls k (wrap64 ((Int.tmod a1 60) - (wrap64 (Int.tdiv (Int.tmod a1 60) 2)))) t326 t327 t328 _ A38.out).mono ?_
      rintro e w44 ⟨rfl, hb⟩
      refine ⟨_, rfl, ?_⟩
      replace BK304 := bb_ BK304 hb
      replace BK311 := bb_ BK311 hb
      replace BK315 := bb_ BK315 hb
      replace BK322 := bb_ BK322 hb
      replace HB := Aside0.mk (below_step (bl_ HB).out hb)
      (try clear hb)
      (try clear hb2)
      (try clear hk)
      (try clear hi)
      refine hK.out _ _ ⟨bc_ BK322 0, bc_ BK322 1, bc_ BK322 2⟩ (fun hHeld => ?_)
      clear hK K
      refine nm_ 42 ?_
      refine one_ (i := 7) (N := some 43) (bm_ 17 255) rfl rfl (one_of HT_.out (by kernel_rfl)) (by decide) (fun K hK => ?_)
      refine gs_ Tryd.func17 #[.agg #[.bool t323, .string t324, .int .i64 t325], .agg #[.bool t326, .string t327, .int .i64 t328]] ?_
      with_reducible refine (dec_Cmp.calls k t323 t324 t325 t326 t327 t328 t329 _ A39.out).mono ?_
      rintro e w45 ⟨rfl, hb⟩
      refine ⟨_, rfl, ?_⟩
      replace BK304 := bb_ BK304 hb
      replace BK311 := bb_ BK311 hb
      replace BK315 := bb_ BK315 hb
      replace BK322 := bb_ BK322 hb
      replace HB := Aside0.mk (below_step (bl_ HB).out hb)
      (try clear hb)
      (try clear hb2)
      (try clear hk)
      (try clear hi)
      refine hK.out _ _ ⟨bc_ BK322 0, bc_ BK322 1, bc_ BK322 2⟩ (fun hHeld => ?_)
      clear hK K
      refine nm_ 43 ?_
      refine pu_ 8 44 (bm_ 17 511) HT_ ?_
      refine pu_ 9 45 (bm_ 17 1023) HT_ ?_
      refine pu_ 10 46 (bm_ 17 2047) HT_ ?_
      refine pn_ 11 47 (bm_ 17 4095) HT_ ?_
      refine pn_ 12 48 (bm_ 17 8191) HT_ ?_
      refine pn_ 13 49 (bm_ 17 16383) HT_ ?_
      refine pn_ 14 50 (bm_ 17 32767) HT_ ?_
      refine pn_ 15 51 (bm_ 17 65535) HT_ ?_
      refine pu_ 16 52 (bm_ 17 131071) HT_ ?_
      refine done_ (done_of HT_.out (by kernel_rfl)) ?_
      try go_wp2
      go_meet
      case rel => exact ⟨_, (true), eq_, H', ⟨by first | omega | exact Nat.le_refl _⟩, (bk_ BK304), (bk_ BK311), (bk_ BK315), (bk_ BK322), (bl_ HB)⟩
     ·rw [if_neg c40] at H
      have c40b0 : decide (0 < t329) = false := decide_eq_false c40
      clear c40
      replace H := Option.bind_eq_some_iff.mp H
      obtain ⟨⟨t330, t331, t332⟩, A460, H⟩ := H
      replace H : ((dec_Cmp.f k t319 t320 t321 t330 t331 t332).bind fun t333 => (florinlaw03_RoundSigns.j0 k (wrap64 ((Int.tmod a1 60) - (wrap64 (Int.tdiv (Int.tmod a1 60) 2)))) t307 (decide (t333 ≥ 0)) t308 t309 t310 t312 t313 t314)) = some r := H
      have A46 := Aside0.mk A460
      clear A460
      replace H := Option.bind_eq_some_iff.mp H
      obtain ⟨t333, A470, H⟩ := H
      replace H : (florinlaw03_RoundSigns.j0 k (wrap64 ((Int.tmod a1 60) - (wrap64 (Int.tdiv (Int.tmod a1 60) 2)))) t307 (decide (t333 ≥ 0)) t308 t309 t310 t312 t313 t314) = some r := H
      have A47 := Aside0.mk A470
      clear A470
      have H' := Aside0.mk H
      clear H
      try go_wp2
      have n0_ : Aside0 ((((w31.setCell ⟨gb322, 0, none⟩ (.bool t319)).setCell ⟨gb322, 1, none⟩ (.string t320)).setCell ⟨gb322, 2, none⟩ (.int .i64 t321)).heap[gb304]? = _) := bf_ BK304
      have n1_ : Aside0 ((((w31.setCell ⟨gb322, 0, none⟩ (.bool t319)).setCell ⟨gb322, 1, none⟩ (.string t320)).setCell ⟨gb322, 2, none⟩ (.int .i64 t321)).heap[gb311]? = _) := bf_ BK311
      have n2_ : Aside0 ((((w31.setCell ⟨gb322, 0, none⟩ (.bool t319)).setCell ⟨gb322, 1, none⟩ (.string t320)).setCell ⟨gb322, 2, none⟩ (.int .i64 t321)).heap[gb315]? = _) := bf_ BK315
      have n3_ : Aside0 ((((w31.setCell ⟨gb322, 0, none⟩ (.bool t319)).setCell ⟨gb322, 1, none⟩ (.string t320)).setCell ⟨gb322, 2, none⟩ (.int .i64 t321)).heap[gb322]? = some (.cells #[.bool t319, .string t320, .int .i64 t321] 30 (0, 0))) := ⟨by (with_reducible repeat (first | refine blk_drewN ?_ _ | refine blk_drew ?_ | refine blk_alloc ?_ _)); refine blk_put (cs := #[.bool t319, .string t320, .int .i64 0]) ?_ 2 _ rfl; (with_reducible repeat (first | refine blk_drewN ?_ _ | refine blk_drew ?_ | refine blk_alloc ?_ _)); refine blk_put (cs := #[.bool t319, .string (⟨#[]⟩ : ByteArray), .int .i64 0]) ?_ 1 _ rfl; (with_reducible repeat (first | refine blk_drewN ?_ _ | refine blk_drew ?_ | refine blk_alloc ?_ _)); refine blk_put (cs := #[.bool false, .string (⟨#[]⟩ : ByteArray), .int .i64 0]) ?_ 0 _ rfl; (with_reducible repeat (first | refine blk_drewN ?_ _ | refine blk_drew ?_ | refine blk_alloc ?_ _)); exact BK322.out⟩
      have n4_ : Aside0 (Below w.heap.size w (((w31.setCell ⟨gb322, 0, none⟩ (.bool t319)).setCell ⟨gb322, 1, none⟩ (.string t320)).setCell ⟨gb322, 2, none⟩ (.int .i64 t321))) := (bl_ HB)
      (try clear BK304)
      (try clear BK311)
      (try clear BK315)
      (try clear BK322)
      (try clear HB)
      generalize (((w31.setCell ⟨gb322, 0, none⟩ (.bool t319)).setCell ⟨gb322, 1, none⟩ (.string t320)).setCell ⟨gb322, 2, none⟩ (.int .i64 t321)) = w48 at n0_ n1_ n2_ n3_ n4_ ⊢
      have BK304 := n0_
      have BK311 := n1_
      have BK315 := n2_
      have BK322 := n3_
      have HB := n4_
      clear n0_ n1_ n2_ n3_ n4_
      replace BK304 := Aside0.mk (blk_drew BK304.out)
      replace BK311 := Aside0.mk (blk_drew BK311.out)
      replace BK315 := Aside0.mk (blk_drew BK315.out)
      replace BK322 := Aside0.mk (blk_drew BK322.out)
      replace HB := Aside0.mk (below_drew1 HB.out)
      refine start_ (n := 17) (S := fun w' => w'.cell? ⟨gb322, 0, none⟩ = some (.bool t319) ∧ w'.cell? ⟨gb322, 1, none⟩ = some (.string t320) ∧ w'.cell? ⟨gb322, 2, none⟩ = some (.int .i64 t321)) (ds := []) #[false, false, false, false, false, false, false, false, false, false, false, false, false, false, false, false, false] (by kernel_rfl) rfl rfl ⟨bc_ BK322 0, bc_ BK322 1, bc_ BK322 2⟩ (fun hHeld => ?_); refine with_tabW florinlaw03_RoundSigns.tab10 florinlaw03_RoundSigns.bits10 (fun HT_ HW_ => ?_)
      generalize w48.drew = w49 at BK304 BK311 BK315 BK322 HB hHeld ⊢
      refine pu_ 0 36 (bm_ 17 1) HT_ ?_
      refine pu_ 1 37 (bm_ 17 3) HT_ ?_
      refine pu_ 2 38 (bm_ 17 7) HT_ ?_
      refine pu_ 5 41 (bm_ 17 39) HT_ ?_
      refine tk_ 3 39 (bm_ 17 47) HT_ HW_ hHeld rfl (by rintro w' ⟨s0, s1, s2⟩; go_simp; with_reducible rfl) ?_
      refine one_ (i := 4) (N := some 40) (bm_ 17 63) rfl rfl (one_of HT_.out (by kernel_rfl)) (by decide) (fun K hK => ?_)
      refine gs_ Tryd.func18 #[.agg #[.bool t319, .string t320, .int .i64 t321]] ?_
      with_reducible refine (florinlaw03_twice.calls k t319 t320 t321 t323 t324 t325 _ A37.out).mono ?_
      rintro e w50 ⟨rfl, hb⟩
      refine ⟨_, rfl, ?_⟩
      replace BK304 := bb_ BK304 hb
      replace BK311 := bb_ BK311 hb
      replace BK315 := bb_ BK315 hb
      replace BK322 := bb_ BK322 hb
      replace HB := Aside0.mk (below_step (bl_ HB).out hb)
      (try clear hb)
      (try clear hb2)
      (try clear hk)
      (try clear hi)
      refine hK.out _ _ ⟨bc_ BK322 0, bc_ BK322 1, bc_ BK322 2⟩ (fun hHeld => ?_)
      clear hK K
      refine nm_ 40 ?_
      refine one_ (i := 6) (N := some 42) (bm_ 17 127) rfl rfl (one_of HT_.out (by kernel_rfl)) (by decide) (fun K hK => ?_)
      refine gs_ Tryd.func19 #[.int .i64 (wrap64 ((Int.tmod a1 60) - (wrap64 (Int.tdiv (Int.tmod a1 60) 2))))] ?_
      with_reducible refine (florinlaw03_unit.calls k (wrap64 ((Int.tmod a1 60) - (wrap64 (Int.tdiv (Int.tmod a1 60) 2)))) t326 t327 t328 _ A38.out).mono ?_
      rintro e w51 ⟨rfl, hb⟩
      refine ⟨_, rfl, ?_⟩
      replace BK304 := bb_ BK304 hb
      replace BK311 := bb_ BK311 hb
      replace BK315 := bb_ BK315 hb
      replace BK322 := bb_ BK322 hb
      replace HB := Aside0.mk (below_step (bl_ HB).out hb)
      (try clear hb)
      (try clear hb2)
      (try clear hk)
      (try clear hi)
      refine hK.out _ _ ⟨bc_ BK322 0, bc_ BK322 1, bc_ BK322 2⟩ (fun hHeld => ?_)
      clear hK K
      refine nm_ 42 ?_
      refine one_ (i := 7) (N := some 43) (bm_ 17 255) rfl rfl (one_of HT_.out (by kernel_rfl)) (by decide) (fun K hK => ?_)
      refine gs_ Tryd.func17 #[.agg #[.bool t323, .string t324, .int .i64 t325], .agg #[.bool t326, .string t327, .int .i64 t328]] ?_
      with_reducible refine (dec_Cmp.calls k t323 t324 t325 t326 t327 t328 t329 _ A39.out).mono ?_
      rintro e w52 ⟨rfl, hb⟩
      refine ⟨_, rfl, ?_⟩
      replace BK304 := bb_ BK304 hb
      replace BK311 := bb_ BK311 hb
      replace BK315 := bb_ BK315 hb
      replace BK322 := bb_ BK322 hb
      replace HB := Aside0.mk (below_step (bl_ HB).out hb)
      (try clear hb)
      (try clear hb2)
      (try clear hk)
      (try clear hi)
      refine hK.out _ _ ⟨bc_ BK322 0, bc_ BK322 1, bc_ BK322 2⟩ (fun hHeld => ?_)
      clear hK K
      refine nm_ 43 ?_
      refine pu_ 8 44 (bm_ 17 511) HT_ ?_
      refine pu_ 9 45 (bm_ 17 1023) HT_ ?_
      refine pu_ 10 46 (bm_ 17 2047) HT_ ?_
      refine pu_ 12 48 (bm_ 17 6143) HT_ ?_
      refine tk_ 11 47 (bm_ 17 8191) HT_ HW_ hHeld rfl (by rintro w' ⟨s0, s1, s2⟩; go_simp; with_reducible rfl) ?_
      refine one_ (i := 13) (N := some 49) (bm_ 17 16383) rfl rfl (one_of HT_.out (by kernel_rfl)) (by decide) (fun K hK => ?_)
      refine gs_ Tryd.func19 #[.int .i64 (wrap64 ((Int.tmod a1 60) - (wrap64 (Int.tdiv (Int.tmod a1 60) 2))))] ?_
      with_reducible refine (florinlaw03_unit.calls k (wrap64 ((Int.tmod a1 60) - (wrap64 (Int.tdiv (Int.tmod a1 60) 2)))) t330 t331 t332 _ A46.out).mono ?_
      rintro e w53 ⟨rfl, hb⟩
      refine ⟨_, rfl, ?_⟩
      replace BK304 := bb_ BK304 hb
      replace BK311 := bb_ BK311 hb
      replace BK315 := bb_ BK315 hb
      replace BK322 := bb_ BK322 hb
      replace HB := Aside0.mk (below_step (bl_ HB).out hb)
      (try clear hb)
      (try clear hb2)
      (try clear hk)
      (try clear hi)
      refine hK.out _ _ ⟨bc_ BK322 0, bc_ BK322 1, bc_ BK322 2⟩ (fun hHeld => ?_)
      clear hK K
      refine nm_ 49 ?_
      refine one_ (i := 14) (N := some 50) (bm_ 17 32767) rfl rfl (one_of HT_.out (by kernel_rfl)) (by decide) (fun K hK => ?_)
      refine gs_ Tryd.func17 #[.agg #[.bool t319, .string t320, .int .i64 t321], .agg #[.bool t330, .string t331, .int .i64 t332]] ?_
      with_reducible refine (dec_Cmp.calls k t319 t320 t321 t330 t331 t332 t333 _ A47.out).mono ?_
      rintro e w54 ⟨rfl, hb⟩
      refine ⟨_, rfl, ?_⟩
      replace BK304 := bb_ BK304 hb
      replace BK311 := bb_ BK311 hb
      replace BK315 := bb_ BK315 hb
      replace BK322 := bb_ BK322 hb
      replace HB := Aside0.mk (below_step (bl_ HB).out hb)
      (try clear hb)
      (try clear hb2)
      (try clear hk)
      (try clear hi)
      refine hK.out _ _ ⟨bc_ BK322 0, bc_ BK322 1, bc_ BK322 2⟩ (fun hHeld => ?_)
      clear hK K
      refine nm_ 50 ?_
      refine pu_ 15 51 (bm_ 17 65535) HT_ ?_
      refine pu_ 16 52 (bm_ 17 131071) HT_ ?_
      refine done_ (done_of HT_.out (by kernel_rfl)) ?_
      try go_wp2
      go_meet
      case rel => exact ⟨_, (decide (t333 ≥ 0)), eq_, H', ⟨by first | omega | exact Nat.le_refl _⟩, (bk_ BK304), (bk_ BK311), (bk_ BK315), (bk_ BK322), (bl_ HB)⟩
    ·rw [if_neg c36] at H
     have c36b0 : decide (t307 ≤ 2) = false := decide_eq_false c36
     clear c36
     (first | rw [c36b0] | (simp only [i64_w, i32_w]; rw [c36b0]) | skip)
     replace H := Option.bind_eq_some_iff.mp H
     obtain ⟨⟨t334, t335, t336⟩, A550, H⟩ := H
     replace H : ((dec_Cmp.f k t319 t320 t321 t334 t335 t336).bind fun t337 => (florinlaw03_RoundSigns.j0 k (wrap64 ((Int.tmod a1 60) - (wrap64 (Int.tdiv (Int.tmod a1 60) 2)))) t307 (decide (t337 ≥ 0)) t308 t309 t310 t312 t313 t314)) = some r := H
     have A55 := Aside0.mk A550
     clear A550
     replace H := Option.bind_eq_some_iff.mp H
     obtain ⟨t337, A560, H⟩ := H
     replace H : (florinlaw03_RoundSigns.j0 k (wrap64 ((Int.tmod a1 60) - (wrap64 (Int.tdiv (Int.tmod a1 60) 2)))) t307 (decide (t337 ≥ 0)) t308 t309 t310 t312 t313 t314) = some r := H
     have A56 := Aside0.mk A560
     clear A560
     have H' := Aside0.mk H
     clear H
     try go_wp2
     have n0_ : Aside0 ((((w31.setCell ⟨gb322, 0, none⟩ (.bool t319)).setCell ⟨gb322, 1, none⟩ (.string t320)).setCell ⟨gb322, 2, none⟩ (.int .i64 t321)).heap[gb304]? = _) := bf_ BK304
     have n1_ : Aside0 ((((w31.setCell ⟨gb322, 0, none⟩ (.bool t319)).setCell ⟨gb322, 1, none⟩ (.string t320)).setCell ⟨gb322, 2, none⟩ (.int .i64 t321)).heap[gb311]? = _) := bf_ BK311
     have n2_ : Aside0 ((((w31.setCell ⟨gb322, 0, none⟩ (.bool t319)).setCell ⟨gb322, 1, none⟩ (.string t320)).setCell ⟨gb322, 2, none⟩ (.int .i64 t321)).heap[gb315]? = _) := bf_ BK315
     have n3_ : Aside0 ((((w31.setCell ⟨gb322, 0, none⟩ (.bool t319)).setCell ⟨gb322, 1, none⟩ (.string t320)).setCell ⟨gb322, 2, none⟩ (.int .i64 t321)).heap[gb322]? = some (.cells #[.bool t319, .string t320, .int .i64 t321] 30 (0, 0))) := ⟨by (with_reducible repeat (first | refine blk_drewN ?_ _ | refine blk_drew ?_ | refine blk_alloc ?_ _)); refine blk_put (cs := #[.bool t319, .string t320, .int .i64 0]) ?_ 2 _ rfl; (with_reducible repeat (first | refine blk_drewN ?_ _ | refine blk_drew ?_ | refine blk_alloc ?_ _)); refine blk_put (cs := #[.bool t319, .string (⟨#[]⟩ : ByteArray), .int .i64 0]) ?_ 1 _ rfl; (with_reducible repeat (first | refine blk_drewN ?_ _ | refine blk_drew ?_ | refine blk_alloc ?_ _)); refine blk_put (cs := #[.bool false, .string (⟨#[]⟩ : ByteArray), .int .i64 0]) ?_ 0 _ rfl; (with_reducible repeat (first | refine blk_drewN ?_ _ | refine blk_drew ?_ | refine blk_alloc ?_ _)); exact BK322.out⟩
     have n4_ : Aside0 (Below w.heap.size w (((w31.setCell ⟨gb322, 0, none⟩ (.bool t319)).setCell ⟨gb322, 1, none⟩ (.string t320)).setCell ⟨gb322, 2, none⟩ (.int .i64 t321))) := (bl_ HB)
     (try clear BK304)
     (try clear BK311)
     (try clear BK315)
     (try clear BK322)
     (try clear HB)
     generalize (((w31.setCell ⟨gb322, 0, none⟩ (.bool t319)).setCell ⟨gb322, 1, none⟩ (.string t320)).setCell ⟨gb322, 2, none⟩ (.int .i64 t321)) = w57 at n0_ n1_ n2_ n3_ n4_ ⊢
     have BK304 := n0_
     have BK311 := n1_
     have BK315 := n2_
     have BK322 := n3_
     have HB := n4_
     clear n0_ n1_ n2_ n3_ n4_
     replace BK304 := Aside0.mk (blk_drew BK304.out)
     replace BK311 := Aside0.mk (blk_drew BK311.out)
     replace BK315 := Aside0.mk (blk_drew BK315.out)
     replace BK322 := Aside0.mk (blk_drew BK322.out)
     replace HB := Aside0.mk (below_drew1 HB.out)
     refine start_ (n := 17) (S := fun w' => w'.cell? ⟨gb322, 0, none⟩ = some (.bool t319) ∧ w'.cell? ⟨gb322, 1, none⟩ = some (.string t320) ∧ w'.cell? ⟨gb322, 2, none⟩ = some (.int .i64 t321)) (ds := []) #[false, false, false, false, false, false, false, false, false, false, false, false, false, false, false, false, false] (by kernel_rfl) rfl rfl ⟨bc_ BK322 0, bc_ BK322 1, bc_ BK322 2⟩ (fun hHeld => ?_); refine with_tabW florinlaw03_RoundSigns.tab10 florinlaw03_RoundSigns.bits10 (fun HT_ HW_ => ?_)
     generalize w57.drew = w58 at BK304 BK311 BK315 BK322 HB hHeld ⊢
     refine pu_ 0 36 (bm_ 17 1) HT_ ?_
     refine pu_ 1 37 (bm_ 17 3) HT_ ?_
     refine pu_ 2 38 (bm_ 17 7) HT_ ?_
     refine pn_ 3 39 (bm_ 17 15) HT_ ?_
     refine pn_ 4 40 (bm_ 17 31) HT_ ?_
     refine pn_ 5 41 (bm_ 17 63) HT_ ?_
     refine pn_ 6 42 (bm_ 17 127) HT_ ?_
     refine pn_ 7 43 (bm_ 17 255) HT_ ?_
     refine pn_ 8 44 (bm_ 17 511) HT_ ?_
     refine pu_ 9 45 (bm_ 17 1023) HT_ ?_
     refine pu_ 10 46 (bm_ 17 2047) HT_ ?_
     refine pu_ 12 48 (bm_ 17 6143) HT_ ?_
     refine tk_ 11 47 (bm_ 17 8191) HT_ HW_ hHeld rfl (by rintro w' ⟨s0, s1, s2⟩; go_simp; with_reducible rfl) ?_
     refine one_ (i := 13) (N := some 49) (bm_ 17 16383) rfl rfl (one_of HT_.out (by kernel_rfl)) (by decide) (fun K hK => ?_)
     refine gs_ Tryd.func19 #[.int .i64 (wrap64 ((Int.tmod a1 60) - (wrap64 (Int.tdiv (Int.tmod a1 60) 2))))] ?_
     with_reducible refine (florinlaw03_unit.calls k (wrap64 ((Int.tmod a1 60) - (wrap64 (Int.tdiv (Int.tmod a1 60) 2)))) t334 t335 t336 _ A55.out).mono ?_
     rintro e w59 ⟨rfl, hb⟩
     refine ⟨_, rfl, ?_⟩
     replace BK304 := bb_ BK304 hb
     replace BK311 := bb_ BK311 hb
     replace BK315 := bb_ BK315 hb
     replace BK322 := bb_ BK322 hb
     replace HB := Aside0.mk (below_step (bl_ HB).out hb)
     (try clear hb)
     (try clear hb2)
     (try clear hk)
     (try clear hi)
     refine hK.out _ _ ⟨bc_ BK322 0, bc_ BK322 1, bc_ BK322 2⟩ (fun hHeld => ?_)
     clear hK K
     refine nm_ 49 ?_
     refine one_ (i := 14) (N := some 50) (bm_ 17 32767) rfl rfl (one_of HT_.out (by kernel_rfl)) (by decide) (fun K hK => ?_)
     refine gs_ Tryd.func17 #[.agg #[.bool t319, .string t320, .int .i64 t321], .agg #[.bool t334, .string t335, .int .i64 t336]] ?_
     with_reducible refine (dec_Cmp.calls k t319 t320 t321 t334 t335 t336 t337 _ A56.out).mono ?_
     rintro e w60 ⟨rfl, hb⟩
     refine ⟨_, rfl, ?_⟩
     replace BK304 := bb_ BK304 hb
     replace BK311 := bb_ BK311 hb
     replace BK315 := bb_ BK315 hb
     replace BK322 := bb_ BK322 hb
     replace HB := Aside0.mk (below_step (bl_ HB).out hb)
     (try clear hb)
     (try clear hb2)
     (try clear hk)
     (try clear hi)
     refine hK.out _ _ ⟨bc_ BK322 0, bc_ BK322 1, bc_ BK322 2⟩ (fun hHeld => ?_)
     clear hK K
     refine nm_ 50 ?_
     refine pu_ 15 51 (bm_ 17 65535) HT_ ?_
     refine pu_ 16 52 (bm_ 17 131071) HT_ ?_
     refine done_ (done_of HT_.out (by kernel_rfl)) ?_
     try go_wp2
     go_meet
     case rel => exact ⟨_, (decide (t337 ≥ 0)), eq_, H', ⟨by first | omega | exact Nat.le_refl _⟩, (bk_ BK304), (bk_ BK311), (bk_ BK315), (bk_ BK322), (bl_ HB)⟩
   case rest =>
    clear HC13
    try clear c1
    try clear p2
    try clear c3
    try clear c4
    try clear p6
    try clear c17
    try clear c18
    try clear c19
    try clear c36
    try clear c36b0
    try clear c40
    try clear c40b0
    obtain ⟨kq, x52_12, rfl, HA, HJ12, BK304, BK311, BK315, BK322, HB⟩ := hcut
    cases kq with
    | zero => exact absurd HA.out (by simp [florinlaw03_RoundSigns.j0])
    | succ kj12 =>
     have H := HA.out
     clear HA
     simp only [florinlaw03_RoundSigns.j0] at H
     by_cases c61 : x52_12 = true
     ·subst c61
      have H1 : (some false) = some r := by rw [if_pos rfl] at H; exact H
      clear H
      have H := H1
      clear H1
      obtain rfl := Option.some.inj H
      go_wp2
      go_ret
      exact ⟨by first | rfl | (simp [errW_none, errW_some] <;> rfl) | (simp [*, errW_none, errW_some] <;> first | rfl | exact given_isEmpty _ | exact (given_isEmpty _).symm), by repeat (first | (with_reducible first | exact HB.out | apply below_alloc | apply pw_below_drewN | apply below_drew1 | refine below_set ?_ GE304.out | refine below_set ?_ GE311.out | refine below_set ?_ GE315.out | refine below_set ?_ GE322.out) | exact HB.out)⟩
     ·replace c61 := Bool.eq_false_iff.mpr c61
      subst c61
      have H1 : ((round_At.f kj12 t308 t309 t310 (wrap64 ((Int.tmod a1 60) - (wrap64 (Int.tdiv (Int.tmod a1 60) 2)))) 6).bind fun bt338 => ((round_At.f kj12 t308 t309 t310 (wrap64 ((Int.tmod a1 60) - (wrap64 (Int.tdiv (Int.tmod a1 60) 2)))) 5).bind fun bt342 => ((dec_Dec_Minus.f kj12 t308 t309 t310).bind fun bt346 => ((florinlaw03_turned.f t307).bind fun t349 => ((round_At.f kj12 bt346.1 bt346.2.1 bt346.2.2 (wrap64 ((Int.tmod a1 60) - (wrap64 (Int.tdiv (Int.tmod a1 60) 2)))) t349).bind fun bt350 => ((dec_Dec_Minus.f kj12 t312 t313 t314).bind fun bt353 => (if (bt350.1 == bt353.1 && (bt350.2.1.toList == bt353.2.1.toList && (bt350.2.2 == bt353.2.2))) = true then (if (t312 == bt338.1 && (t313.toList == bt338.2.1.toList && (t314 == bt338.2.2))) = true then ((dec_Cmp.f kj12 bt338.1 bt338.2.1 bt338.2.2 t308 t309 t310).bind fun t356 => (if t356 ≤ 0 then ((dec_Cmp.f kj12 t308 t309 t310 bt342.1 bt342.2.1 bt342.2.2).bind fun t357 => (some (decide (t357 ≤ 0)))) else (some false))) else (if (t312 == bt342.1 && (t313.toList == bt342.2.1.toList && (t314 == bt342.2.2))) = true then ((dec_Cmp.f kj12 bt338.1 bt338.2.1 bt338.2.2 t308 t309 t310).bind fun t358 => (if t358 ≤ 0 then ((dec_Cmp.f kj12 t308 t309 t310 bt342.1 bt342.2.1 bt342.2.2).bind fun t359 => (some (decide (t359 ≤ 0)))) else (some false))) else (some false))) else (some false)))))))) = some r := by rw [if_neg (show ¬ (false = true) by decide)] at H; exact H
      clear H
      have H := H1
      clear H1
      replace H := Option.bind_eq_some_iff.mp H
      obtain ⟨⟨t338, t339, t340⟩, A620, H⟩ := H
      replace H : ((round_At.f kj12 t308 t309 t310 (wrap64 ((Int.tmod a1 60) - (wrap64 (Int.tdiv (Int.tmod a1 60) 2)))) 5).bind fun bt342 => ((dec_Dec_Minus.f kj12 t308 t309 t310).bind fun bt346 => ((florinlaw03_turned.f t307).bind fun t349 => ((round_At.f kj12 bt346.1 bt346.2.1 bt346.2.2 (wrap64 ((Int.tmod a1 60) - (wrap64 (Int.tdiv (Int.tmod a1 60) 2)))) t349).bind fun bt350 => ((dec_Dec_Minus.f kj12 t312 t313 t314).bind fun bt353 => (if (bt350.1 == bt353.1 && (bt350.2.1.toList == bt353.2.1.toList && (bt350.2.2 == bt353.2.2))) = true then (if (t312 == t338 && (t313.toList == t339.toList && (t314 == t340))) = true then ((dec_Cmp.f kj12 t338 t339 t340 t308 t309 t310).bind fun t356 => (if t356 ≤ 0 then ((dec_Cmp.f kj12 t308 t309 t310 bt342.1 bt342.2.1 bt342.2.2).bind fun t357 => (some (decide (t357 ≤ 0)))) else (some false))) else (if (t312 == bt342.1 && (t313.toList == bt342.2.1.toList && (t314 == bt342.2.2))) = true then ((dec_Cmp.f kj12 t338 t339 t340 t308 t309 t310).bind fun t358 => (if t358 ≤ 0 then ((dec_Cmp.f kj12 t308 t309 t310 bt342.1 bt342.2.1 bt342.2.2).bind fun t359 => (some (decide (t359 ≤ 0)))) else (some false))) else (some false))) else (some false))))))) = some r := H
      have A62 := Aside0.mk A620
      clear A620
      replace H := Option.bind_eq_some_iff.mp H
      obtain ⟨⟨t342, t343, t344⟩, A630, H⟩ := H
      replace H : ((dec_Dec_Minus.f kj12 t308 t309 t310).bind fun bt346 => ((florinlaw03_turned.f t307).bind fun t349 => ((round_At.f kj12 bt346.1 bt346.2.1 bt346.2.2 (wrap64 ((Int.tmod a1 60) - (wrap64 (Int.tdiv (Int.tmod a1 60) 2)))) t349).bind fun bt350 => ((dec_Dec_Minus.f kj12 t312 t313 t314).bind fun bt353 => (if (bt350.1 == bt353.1 && (bt350.2.1.toList == bt353.2.1.toList && (bt350.2.2 == bt353.2.2))) = true then (if (t312 == t338 && (t313.toList == t339.toList && (t314 == t340))) = true then ((dec_Cmp.f kj12 t338 t339 t340 t308 t309 t310).bind fun t356 => (if t356 ≤ 0 then ((dec_Cmp.f kj12 t308 t309 t310 t342 t343 t344).bind fun t357 => (some (decide (t357 ≤ 0)))) else (some false))) else (if (t312 == t342 && (t313.toList == t343.toList && (t314 == t344))) = true then ((dec_Cmp.f kj12 t338 t339 t340 t308 t309 t310).bind fun t358 => (if t358 ≤ 0 then ((dec_Cmp.f kj12 t308 t309 t310 t342 t343 t344).bind fun t359 => (some (decide (t359 ≤ 0)))) else (some false))) else (some false))) else (some false)))))) = some r := H
      have A63 := Aside0.mk A630
      clear A630
      replace H := Option.bind_eq_some_iff.mp H
      obtain ⟨⟨t346, t347, t348⟩, A640, H⟩ := H
      replace H : ((florinlaw03_turned.f t307).bind fun t349 => ((round_At.f kj12 t346 t347 t348 (wrap64 ((Int.tmod a1 60) - (wrap64 (Int.tdiv (Int.tmod a1 60) 2)))) t349).bind fun bt350 => ((dec_Dec_Minus.f kj12 t312 t313 t314).bind fun bt353 => (if (bt350.1 == bt353.1 && (bt350.2.1.toList == bt353.2.1.toList && (bt350.2.2 == bt353.2.2))) = true then (if (t312 == t338 && (t313.toList == t339.toList && (t314 == t340))) = true then ((dec_Cmp.f kj12 t338 t339 t340 t308 t309 t310).bind fun t356 => (if t356 ≤ 0 then ((dec_Cmp.f kj12 t308 t309 t310 t342 t343 t344).bind fun t357 => (some (decide (t357 ≤ 0)))) else (some false))) else (if (t312 == t342 && (t313.toList == t343.toList && (t314 == t344))) = true then ((dec_Cmp.f kj12 t338 t339 t340 t308 t309 t310).bind fun t358 => (if t358 ≤ 0 then ((dec_Cmp.f kj12 t308 t309 t310 t342 t343 t344).bind fun t359 => (some (decide (t359 ≤ 0)))) else (some false))) else (some false))) else (some false))))) = some r := H
      have A64 := Aside0.mk A640
      clear A640
      replace H := Option.bind_eq_some_iff.mp H
      obtain ⟨t349, A650, H⟩ := H
      replace H : ((round_At.f kj12 t346 t347 t348 (wrap64 ((Int.tmod a1 60) - (wrap64 (Int.tdiv (Int.tmod a1 60) 2)))) t349).bind fun bt350 => ((dec_Dec_Minus.f kj12 t312 t313 t314).bind fun bt353 => (if (bt350.1 == bt353.1 && (bt350.2.1.toList == bt353.2.1.toList && (bt350.2.2 == bt353.2.2))) = true then (if (t312 == t338 && (t313.toList == t339.toList && (t314 == t340))) = true then ((dec_Cmp.f kj12 t338 t339 t340 t308 t309 t310).bind fun t356 => (if t356 ≤ 0 then ((dec_Cmp.f kj12 t308 t309 t310 t342 t343 t344).bind fun t357 => (some (decide (t357 ≤ 0)))) else (some false))) else (if (t312 == t342 && (t313.toList == t343.toList && (t314 == t344))) = true then ((dec_Cmp.f kj12 t338 t339 t340 t308 t309 t310).bind fun t358 => (if t358 ≤ 0 then ((dec_Cmp.f kj12 t308 t309 t310 t342 t343 t344).bind fun t359 => (some (decide (t359 ≤ 0)))) else (some false))) else (some false))) else (some false)))) = some r := H
      have A65 := Aside0.mk A650
      clear A650
      replace H := Option.bind_eq_some_iff.mp H
      obtain ⟨⟨t350, t351, t352⟩, A660, H⟩ := H
      replace H : ((dec_Dec_Minus.f kj12 t312 t313 t314).bind fun bt353 => (if (t350 == bt353.1 && (t351.toList == bt353.2.1.toList && (t352 == bt353.2.2))) = true then (if (t312 == t338 && (t313.toList == t339.toList && (t314 == t340))) = true then ((dec_Cmp.f kj12 t338 t339 t340 t308 t309 t310).bind fun t356 => (if t356 ≤ 0 then ((dec_Cmp.f kj12 t308 t309 t310 t342 t343 t344).bind fun t357 => (some (decide (t357 ≤ 0)))) else (some false))) else (if (t312 == t342 && (t313.toList == t343.toList && (t314 == t344))) = true then ((dec_Cmp.f kj12 t338 t339 t340 t308 t309 t310).bind fun t358 => (if t358 ≤ 0 then ((dec_Cmp.f kj12 t308 t309 t310 t342 t343 t344).bind fun t359 => (some (decide (t359 ≤ 0)))) else (some false))) else (some false))) else (some false))) = some r := H
      have A66 := Aside0.mk A660
      clear A660
      replace H := Option.bind_eq_some_iff.mp H
      obtain ⟨⟨t353, t354, t355⟩, A670, H⟩ := H
      replace H : (if (t350 == t353 && (t351.toList == t354.toList && (t352 == t355))) = true then (if (t312 == t338 && (t313.toList == t339.toList && (t314 == t340))) = true then ((dec_Cmp.f kj12 t338 t339 t340 t308 t309 t310).bind fun t356 => (if t356 ≤ 0 then ((dec_Cmp.f kj12 t308 t309 t310 t342 t343 t344).bind fun t357 => (some (decide (t357 ≤ 0)))) else (some false))) else (if (t312 == t342 && (t313.toList == t343.toList && (t314 == t344))) = true then ((dec_Cmp.f kj12 t338 t339 t340 t308 t309 t310).bind fun t358 => (if t358 ≤ 0 then ((dec_Cmp.f kj12 t308 t309 t310 t342 t343 t344).bind fun t359 => (some (decide (t359 ≤ 0)))) else (some false))) else (some false))) else (some false)) = some r := H
      have A67 := Aside0.mk A670
      clear A670
      by_cases c68 : (t350 == t353 && (t351.toList == t354.toList && (t352 == t355))) = true
      ·rw [if_pos c68] at H
       have c68b0 : (t350 == t353 && (t351.toList == t354.toList && (t352 == t355))) = true := c68
       (try (have c68b1 : decide (t350 = t353 && (t351.toList == t354.toList && (t352 == t355))) = true := by simpa using c68))
       (try (have c68b2 : (t350 == t353 && (t351.toList == t354.toList && (t352 == t355))) = true := by simpa using c68))
       clear c68
       by_cases c69 : (t312 == t338 && (t313.toList == t339.toList && (t314 == t340))) = true
       ·rw [if_pos c69] at H
        have c69b0 : (t312 == t338 && (t313.toList == t339.toList && (t314 == t340))) = true := c69
        (try (have c69b1 : decide (t312 = t338 && (t313.toList == t339.toList && (t314 == t340))) = true := by simpa using c69))
        (try (have c69b2 : (t312 == t338 && (t313.toList == t339.toList && (t314 == t340))) = true := by simpa using c69))
        clear c69
        replace H := Option.bind_eq_some_iff.mp H
        obtain ⟨t356, A700, H⟩ := H
        replace H : (if t356 ≤ 0 then ((dec_Cmp.f kj12 t308 t309 t310 t342 t343 t344).bind fun t357 => (some (decide (t357 ≤ 0)))) else (some false)) = some r := H
        have A70 := Aside0.mk A700
        clear A700
        by_cases c71 : t356 ≤ 0
        ·rw [if_pos c71] at H
         have c71b0 : decide (t356 ≤ 0) = true := decide_eq_true c71
         clear c71
         replace H := Option.bind_eq_some_iff.mp H
         obtain ⟨t357, A720, H⟩ := H
         replace H : (some (decide (t357 ≤ 0))) = some r := H
         have A72 := Aside0.mk A720
         clear A720
         obtain rfl := Option.some.inj H
         have hnb73 := NB311_304.out
         have hnc73 := NB304_311.out
         have hnb74 := NB311_315.out
         have hnc74 := NB315_311.out
         have hnb75 := NB311_322.out
         have hnc75 := NB322_311.out
         have hcz76_0 : wc.cell? ⟨gb311, 0, none⟩ = some (.bool t308) := bc_ BK311 0
         have hcz76_1 : wc.cell? ⟨gb311, 1, none⟩ = some (.string t309) := bc_ BK311 1
         have hcz76_2 : wc.cell? ⟨gb311, 2, none⟩ = some (.int .i64 t310) := bc_ BK311 2
         have hfz76_0 := blk_frozen BK311.out 0
         have hfz76_1 := blk_frozen BK311.out 1
         have hfz76_2 := blk_frozen BK311.out 2
         try go_wp2_with (first | ((with_reducible refine gate_callee (f := 13) rfl ?_); refine goesL_ (some 55) rfl rfl Tryd.func13 (by kernel_rfl) rfl #[.agg #[.bool t308, .string t309, .int .i64 t310], .int .i64 (wrap64 ((Int.tmod a1 60) - (wrap64 (Int.tdiv (Int.tmod a1 60) 2)))), .int .i64 6] rfl (by (try simp only [List.map_toArray, List.map_cons, List.map_nil]); first | done | rfl | (simp only [List.length_drop, List.length_take]; rfl) | (have z_ : ∀ s_ : ByteArray, s_.size ≤ 9223372036854775807 → -(s_.size : Int) = wrap64 (-(s_.size : Int)) := (fun s_ h_ => by unfold wrap64; omega); rw [← z_ _ (by omega)]; rfl) | (simp only [ByteArray.size_append]; rfl)) ?_; (with_reducible refine (round_At.calls kj12 t308 t309 t310 (wrap64 ((Int.tmod a1 60) - (wrap64 (Int.tdiv (Int.tmod a1 60) 2)))) 6 t338 t339 t340 _ A62.out).mono ?_); rintro e w77 ⟨rfl, hb⟩; refine ⟨_, rfl, ?_⟩; have n0_ := bb_ BK304 hb; have n1_ := bb_ BK311 hb; have n2_ := bb_ BK315 hb; have n3_ := bb_ BK322 hb; have n4_ := Aside0.mk (below_step (bl_ HB).out hb); clear BK304; clear BK311; clear BK315; clear BK322; clear HB; have BK304 := n0_; have BK311 := n1_; have BK315 := n2_; have BK322 := n3_; have HB := n4_; clear n0_ n1_ n2_ n3_ n4_; (try clear hb); (try clear hb2); (try clear hk); (try clear hi)) | ((with_reducible refine gate_dst (N := 11) rfl ?_); refine box_event ?hg (N := 11) ?hd (cs := #[.bool false, .string (⟨#[]⟩ : ByteArray), .int .i64 0]) (t := 30) ?hr ?_; (case hd => rfl); (case hg => rfl); (case hr => first | (go_simp; done) | (go_simp; rfl)); intro gb341 hg w78 hbox hb; have n0_ := bb_ BK304 hb; have n1_ := bb_ BK311 hb; have n2_ := bb_ BK315 hb; have n3_ := bb_ BK322 hb; have n4_ := Aside0.mk (below_step (bl_ HB).out hb); have n5_ := Aside0.mk (hbox); have n6_ := Aside0.mk ((by rw [hg]; exact (below_size (bl_ HB).out) : w.heap.size ≤ gb341)); have n7_ := Aside0.mk ((by rw [hg]; exact (below_size (bl_ HB).out) : w.heap.size ≤ gb341)); have n8_ := Aside0.mk ((by rw [hg]; exact Nat.ne_of_lt (blk_lt (g := gb304) (o := .cells #[.bool a0_0, .slice A0_1 l0_1.length c0_1, .int .i64 a0_2] 24 (0, 0)) (by (with_reducible repeat (first | refine blk_drewN ?_ _ | refine blk_drew ?_ | refine blk_alloc ?_ _)); exact BK304.out)) : gb304 ≠ gb341)); have n9_ := Aside0.mk ((by rw [hg]; exact Nat.ne_of_gt (blk_lt (g := gb304) (o := .cells #[.bool a0_0, .slice A0_1 l0_1.length c0_1, .int .i64 a0_2] 24 (0, 0)) (by (with_reducible repeat (first | refine blk_drewN ?_ _ | refine blk_drew ?_ | refine blk_alloc ?_ _)); exact BK304.out)) : gb341 ≠ gb304)); have n10_ := Aside0.mk ((by rw [hg]; exact Nat.ne_of_lt (blk_lt (g := gb311) (o := .cells #[.bool t308, .string t309, .int .i64 t310] 30 (0, 0)) (by (with_reducible repeat (first | refine blk_drewN ?_ _ | refine blk_drew ?_ | refine blk_alloc ?_ _)); exact BK311.out)) : gb311 ≠ gb341)); have n11_ := Aside0.mk ((by rw [hg]; exact Nat.ne_of_gt (blk_lt (g := gb311) (o := .cells #[.bool t308, .string t309, .int .i64 t310] 30 (0, 0)) (by (with_reducible repeat (first | refine blk_drewN ?_ _ | refine blk_drew ?_ | refine blk_alloc ?_ _)); exact BK311.out)) : gb341 ≠ gb311)); have n12_ := Aside0.mk ((by rw [hg]; exact Nat.ne_of_lt (blk_lt (g := gb315) (o := .cells #[.bool t312, .string t313, .int .i64 t314] 30 (0, 0)) (by (with_reducible repeat (first | refine blk_drewN ?_ _ | refine blk_drew ?_ | refine blk_alloc ?_ _)); exact BK315.out)) : gb315 ≠ gb341)); have n13_ := Aside0.mk ((by rw [hg]; exact Nat.ne_of_gt (blk_lt (g := gb315) (o := .cells #[.bool t312, .string t313, .int .i64 t314] 30 (0, 0)) (by (with_reducible repeat (first | refine blk_drewN ?_ _ | refine blk_drew ?_ | refine blk_alloc ?_ _)); exact BK315.out)) : gb341 ≠ gb315)); have n14_ := Aside0.mk ((by rw [hg]; exact Nat.ne_of_lt (blk_lt (g := gb322) (o := .cells #[.bool t319, .string t320, .int .i64 t321] 30 (0, 0)) (by (with_reducible repeat (first | refine blk_drewN ?_ _ | refine blk_drew ?_ | refine blk_alloc ?_ _)); exact BK322.out)) : gb322 ≠ gb341)); have n15_ := Aside0.mk ((by rw [hg]; exact Nat.ne_of_gt (blk_lt (g := gb322) (o := .cells #[.bool t319, .string t320, .int .i64 t321] 30 (0, 0)) (by (with_reducible repeat (first | refine blk_drewN ?_ _ | refine blk_drew ?_ | refine blk_alloc ?_ _)); exact BK322.out)) : gb341 ≠ gb322)); clear BK304; clear BK311; clear BK315; clear BK322; clear HB; have BK304 := n0_; have BK311 := n1_; have BK315 := n2_; have BK322 := n3_; have HB := n4_; have BK341 := n5_; have GW341 := n6_; have GE341 := n7_; have NB304_341 := n8_; have NB341_304 := n9_; have NB311_341 := n10_; have NB341_311 := n11_; have NB315_341 := n12_; have NB341_315 := n13_; have NB322_341 := n14_; have NB341_322 := n15_; clear n0_ n1_ n2_ n3_ n4_ n5_ n6_ n7_ n8_ n9_ n10_ n11_ n12_ n13_ n14_ n15_; clear hb hbox hg; have hnb79 := NB341_304.out; have hnc79 := NB304_341.out; have hnb80 := NB341_311.out; have hnc80 := NB311_341.out; have hnb81 := NB341_315.out; have hnc81 := NB315_341.out; have hnb82 := NB341_322.out; have hnc82 := NB322_341.out; have hcz83_0 : w78.cell? ⟨gb341, 0, none⟩ = some (.bool false) := bc_ BK341 0; have hcz83_1 : w78.cell? ⟨gb341, 1, none⟩ = some (.string (⟨#[]⟩ : ByteArray)) := bc_ BK341 1; have hcz83_2 : w78.cell? ⟨gb341, 2, none⟩ = some (.int .i64 0) := bc_ BK341 2; have hfz83_0 := blk_frozen BK341.out 0; have hfz83_1 := blk_frozen BK341.out 1; have hfz83_2 := blk_frozen BK341.out 2; have hcz84_0 : w78.cell? ⟨gb311, 0, none⟩ = some (.bool t308) := bc_ BK311 0; have hcz84_1 : w78.cell? ⟨gb311, 1, none⟩ = some (.string t309) := bc_ BK311 1; have hcz84_2 : w78.cell? ⟨gb311, 2, none⟩ = some (.int .i64 t310) := bc_ BK311 2; have hfz84_0 := blk_frozen BK311.out 0; have hfz84_1 := blk_frozen BK311.out 1; have hfz84_2 := blk_frozen BK311.out 2) | ((with_reducible refine gate_callee (f := 13) rfl ?_); refine goesL_ (some 58) rfl rfl Tryd.func13 (by kernel_rfl) rfl #[.agg #[.bool t308, .string t309, .int .i64 t310], .int .i64 (wrap64 ((Int.tmod a1 60) - (wrap64 (Int.tdiv (Int.tmod a1 60) 2)))), .int .i64 5] rfl (by (try simp only [List.map_toArray, List.map_cons, List.map_nil]); first | done | rfl | (simp only [List.length_drop, List.length_take]; rfl) | (have z_ : ∀ s_ : ByteArray, s_.size ≤ 9223372036854775807 → -(s_.size : Int) = wrap64 (-(s_.size : Int)) := (fun s_ h_ => by unfold wrap64; omega); rw [← z_ _ (by omega)]; rfl) | (simp only [ByteArray.size_append]; rfl)) ?_; (with_reducible refine (round_At.calls kj12 t308 t309 t310 (wrap64 ((Int.tmod a1 60) - (wrap64 (Int.tdiv (Int.tmod a1 60) 2)))) 5 t342 t343 t344 _ A63.out).mono ?_); rintro e w85 ⟨rfl, hb⟩; refine ⟨_, rfl, ?_⟩; have n0_ := Aside0.mk (blk_below (g := gb304) (o := .cells #[.bool a0_0, .slice A0_1 l0_1.length c0_1, .int .i64 a0_2] 24 (0, 0)) (by (with_reducible repeat (first | refine blk_drewN ?_ _ | refine blk_drew ?_ | refine blk_alloc ?_ _)); refine blk_far ?_ NB304_341.out _; (with_reducible repeat (first | refine blk_drewN ?_ _ | refine blk_drew ?_ | refine blk_alloc ?_ _)); refine blk_far ?_ NB304_341.out _; (with_reducible repeat (first | refine blk_drewN ?_ _ | refine blk_drew ?_ | refine blk_alloc ?_ _)); refine blk_far ?_ NB304_341.out _; (with_reducible repeat (first | refine blk_drewN ?_ _ | refine blk_drew ?_ | refine blk_alloc ?_ _)); exact BK304.out) hb); have n1_ := Aside0.mk (blk_below (g := gb311) (o := .cells #[.bool t308, .string t309, .int .i64 t310] 30 (0, 0)) (by (with_reducible repeat (first | refine blk_drewN ?_ _ | refine blk_drew ?_ | refine blk_alloc ?_ _)); refine blk_far ?_ NB311_341.out _; (with_reducible repeat (first | refine blk_drewN ?_ _ | refine blk_drew ?_ | refine blk_alloc ?_ _)); refine blk_far ?_ NB311_341.out _; (with_reducible repeat (first | refine blk_drewN ?_ _ | refine blk_drew ?_ | refine blk_alloc ?_ _)); refine blk_far ?_ NB311_341.out _; (with_reducible repeat (first | refine blk_drewN ?_ _ | refine blk_drew ?_ | refine blk_alloc ?_ _)); exact BK311.out) hb); have n2_ := Aside0.mk (blk_below (g := gb315) (o := .cells #[.bool t312, .string t313, .int .i64 t314] 30 (0, 0)) (by (with_reducible repeat (first | refine blk_drewN ?_ _ | refine blk_drew ?_ | refine blk_alloc ?_ _)); refine blk_far ?_ NB315_341.out _; (with_reducible repeat (first | refine blk_drewN ?_ _ | refine blk_drew ?_ | refine blk_alloc ?_ _)); refine blk_far ?_ NB315_341.out _; (with_reducible repeat (first | refine blk_drewN ?_ _ | refine blk_drew ?_ | refine blk_alloc ?_ _)); refine blk_far ?_ NB315_341.out _; (with_reducible repeat (first | refine blk_drewN ?_ _ | refine blk_drew ?_ | refine blk_alloc ?_ _)); exact BK315.out) hb); have n3_ := Aside0.mk (blk_below (g := gb322) (o := .cells #[.bool t319, .string t320, .int .i64 t321] 30 (0, 0)) (by (with_reducible repeat (first | refine blk_drewN ?_ _ | refine blk_drew ?_ | refine blk_alloc ?_ _)); refine blk_far ?_ NB322_341.out _; (with_reducible repeat (first | refine blk_drewN ?_ _ | refine blk_drew ?_ | refine blk_alloc ?_ _)); refine blk_far ?_ NB322_341.out _; (with_reducible repeat (first | refine blk_drewN ?_ _ | refine blk_drew ?_ | refine blk_alloc ?_ _)); refine blk_far ?_ NB322_341.out _; (with_reducible repeat (first | refine blk_drewN ?_ _ | refine blk_drew ?_ | refine blk_alloc ?_ _)); exact BK322.out) hb); have n4_ := Aside0.mk (blk_below (g := gb341) (o := .cells #[.bool t338, .string t339, .int .i64 t340] 30 (0, 0)) (by (with_reducible repeat (first | refine blk_drewN ?_ _ | refine blk_drew ?_ | refine blk_alloc ?_ _)); refine blk_put (cs := #[.bool t338, .string t339, .int .i64 0]) ?_ 2 _ rfl; (with_reducible repeat (first | refine blk_drewN ?_ _ | refine blk_drew ?_ | refine blk_alloc ?_ _)); refine blk_put (cs := #[.bool t338, .string (⟨#[]⟩ : ByteArray), .int .i64 0]) ?_ 1 _ rfl; (with_reducible repeat (first | refine blk_drewN ?_ _ | refine blk_drew ?_ | refine blk_alloc ?_ _)); refine blk_put (cs := #[.bool false, .string (⟨#[]⟩ : ByteArray), .int .i64 0]) ?_ 0 _ rfl; (with_reducible repeat (first | refine blk_drewN ?_ _ | refine blk_drew ?_ | refine blk_alloc ?_ _)); exact BK341.out) hb); have n5_ := Aside0.mk (below_step (bl_ HB).out hb); clear BK304; clear BK311; clear BK315; clear BK322; clear BK341; clear HB; have BK304 := n0_; have BK311 := n1_; have BK315 := n2_; have BK322 := n3_; have BK341 := n4_; have HB := n5_; clear n0_ n1_ n2_ n3_ n4_ n5_; (try clear hb); (try clear hb2); (try clear hk); (try clear hi)) | ((with_reducible refine gate_dst (N := 12) rfl ?_); refine box_event ?hg (N := 12) ?hd (cs := #[.bool false, .string (⟨#[]⟩ : ByteArray), .int .i64 0]) (t := 30) ?hr ?_; (case hd => rfl); (case hg => rfl); (case hr => first | (go_simp; done) | (go_simp; rfl)); intro gb345 hg w86 hbox hb; have n0_ := bb_ BK304 hb; have n1_ := bb_ BK311 hb; have n2_ := bb_ BK315 hb; have n3_ := bb_ BK322 hb; have n4_ := bb_ BK341 hb; have n5_ := Aside0.mk (below_step (bl_ HB).out hb); have n6_ := Aside0.mk (hbox); have n7_ := Aside0.mk ((by rw [hg]; exact (below_size (bl_ HB).out) : w.heap.size ≤ gb345)); have n8_ := Aside0.mk ((by rw [hg]; exact (below_size (bl_ HB).out) : w.heap.size ≤ gb345)); have n9_ := Aside0.mk ((by rw [hg]; exact Nat.ne_of_lt (blk_lt (g := gb304) (o := .cells #[.bool a0_0, .slice A0_1 l0_1.length c0_1, .int .i64 a0_2] 24 (0, 0)) (by (with_reducible repeat (first | refine blk_drewN ?_ _ | refine blk_drew ?_ | refine blk_alloc ?_ _)); exact BK304.out)) : gb304 ≠ gb345)); have n10_ := Aside0.mk ((by rw [hg]; exact Nat.ne_of_gt (blk_lt (g := gb304) (o := .cells #[.bool a0_0, .slice A0_1 l0_1.length c0_1, .int .i64 a0_2] 24 (0, 0)) (by (with_reducible repeat (first | refine blk_drewN ?_ _ | refine blk_drew ?_ | refine blk_alloc ?_ _)); exact BK304.out)) : gb345 ≠ gb304)); have n11_ := Aside0.mk ((by rw [hg]; exact Nat.ne_of_lt (blk_lt (g := gb311) (o := .cells #[.bool t308, .string t309, .int .i64 t310] 30 (0, 0)) (by (with_reducible repeat (first | refine blk_drewN ?_ _ | refine blk_drew ?_ | refine blk_alloc ?_ _)); exact BK311.out)) : gb311 ≠ gb345)); have n12_ := Aside0.mk ((by rw [hg]; exact Nat.ne_of_gt (blk_lt (g := gb311) (o := .cells #[.bool t308, .string t309, .int .i64 t310] 30 (0, 0)) (by (with_reducible repeat (first | refine blk_drewN ?_ _ | refine blk_drew ?_ | refine blk_alloc ?_ _)); exact BK311.out)) : gb345 ≠ gb311)); have n13_ := Aside0.mk ((by rw [hg]; exact Nat.ne_of_lt (blk_lt (g := gb315) (o := .cells #[.bool t312, .string t313, .int .i64 t314] 30 (0, 0)) (by (with_reducible repeat (first | refine blk_drewN ?_ _ | refine blk_drew ?_ | refine blk_alloc ?_ _)); exact BK315.out)) : gb315 ≠ gb345)); have n14_ := Aside0.mk ((by rw [hg]; exact Nat.ne_of_gt (blk_lt (g := gb315) (o := .cells #[.bool t312, .string t313, .int .i64 t314] 30 (0, 0)) (by (with_reducible repeat (first | refine blk_drewN ?_ _ | refine blk_drew ?_ | refine blk_alloc ?_ _)); exact BK315.out)) : gb345 ≠ gb315)); have n15_ := Aside0.mk ((by rw [hg]; exact Nat.ne_of_lt (blk_lt (g := gb322) (o := .cells #[.bool t319, .string t320, .int .i64 t321] 30 (0, 0)) (by (with_reducible repeat (first | refine blk_drewN ?_ _ | refine blk_drew ?_ | refine blk_alloc ?_ _)); exact BK322.out)) : gb322 ≠ gb345)); have n16_ := Aside0.mk ((by rw [hg]; exact Nat.ne_of_gt (blk_lt (g := gb322) (o := .cells #[.bool t319, .string t320, .int .i64 t321] 30 (0, 0)) (by (with_reducible repeat (first | refine blk_drewN ?_ _ | refine blk_drew ?_ | refine blk_alloc ?_ _)); exact BK322.out)) : gb345 ≠ gb322)); have n17_ := Aside0.mk ((by rw [hg]; exact Nat.ne_of_lt (blk_lt (g := gb341) (o := .cells #[.bool t338, .string t339, .int .i64 t340] 30 (0, 0)) (by (with_reducible repeat (first | refine blk_drewN ?_ _ | refine blk_drew ?_ | refine blk_alloc ?_ _)); exact BK341.out)) : gb341 ≠ gb345)); have n18_ := Aside0.mk ((by rw [hg]; exact Nat.ne_of_gt (blk_lt (g := gb341) (o := .cells #[.bool t338, .string t339, .int .i64 t340] 30 (0, 0)) (by (with_reducible repeat (first | refine blk_drewN ?_ _ | refine blk_drew ?_ | refine blk_alloc ?_ _)); exact BK341.out)) : gb345 ≠ gb341)); clear BK304; clear BK311; clear BK315; clear BK322; clear BK341; clear HB; have BK304 := n0_; have BK311 := n1_; have BK315 := n2_; have BK322 := n3_; have BK341 := n4_; have HB := n5_; have BK345 := n6_; have GW345 := n7_; have GE345 := n8_; have NB304_345 := n9_; have NB345_304 := n10_; have NB311_345 := n11_; have NB345_311 := n12_; have NB315_345 := n13_; have NB345_315 := n14_; have NB322_345 := n15_; have NB345_322 := n16_; have NB341_345 := n17_; have NB345_341 := n18_; clear n0_ n1_ n2_ n3_ n4_ n5_ n6_ n7_ n8_ n9_ n10_ n11_ n12_ n13_ n14_ n15_ n16_ n17_ n18_; clear hb hbox hg; have hnb87 := NB345_304.out; have hnc87 := NB304_345.out; have hnb88 := NB345_311.out; have hnc88 := NB311_345.out; have hnb89 := NB345_315.out; have hnc89 := NB315_345.out; have hnb90 := NB345_322.out; have hnc90 := NB322_345.out; have hnb91 := NB345_341.out; have hnc91 := NB341_345.out; have hcz92_0 : w86.cell? ⟨gb345, 0, none⟩ = some (.bool false) := bc_ BK345 0; have hcz92_1 : w86.cell? ⟨gb345, 1, none⟩ = some (.string (⟨#[]⟩ : ByteArray)) := bc_ BK345 1; have hcz92_2 : w86.cell? ⟨gb345, 2, none⟩ = some (.int .i64 0) := bc_ BK345 2; have hfz92_0 := blk_frozen BK345.out 0; have hfz92_1 := blk_frozen BK345.out 1; have hfz92_2 := blk_frozen BK345.out 2))
         have n0_ : Aside0 ((((w86.setCell ⟨gb345, 0, none⟩ (.bool t342)).setCell ⟨gb345, 1, none⟩ (.string t343)).setCell ⟨gb345, 2, none⟩ (.int .i64 t344)).heap[gb304]? = _) := bf_ BK304
         have n1_ : Aside0 ((((w86.setCell ⟨gb345, 0, none⟩ (.bool t342)).setCell ⟨gb345, 1, none⟩ (.string t343)).setCell ⟨gb345, 2, none⟩ (.int .i64 t344)).heap[gb311]? = _) := bf_ BK311
         have n2_ : Aside0 ((((w86.setCell ⟨gb345, 0, none⟩ (.bool t342)).setCell ⟨gb345, 1, none⟩ (.string t343)).setCell ⟨gb345, 2, none⟩ (.int .i64 t344)).heap[gb315]? = _) := bf_ BK315
         have n3_ : Aside0 ((((w86.setCell ⟨gb345, 0, none⟩ (.bool t342)).setCell ⟨gb345, 1, none⟩ (.string t343)).setCell ⟨gb345, 2, none⟩ (.int .i64 t344)).heap[gb322]? = _) := bf_ BK322
         have n4_ : Aside0 ((((w86.setCell ⟨gb345, 0, none⟩ (.bool t342)).setCell ⟨gb345, 1, none⟩ (.string t343)).setCell ⟨gb345, 2, none⟩ (.int .i64 t344)).heap[gb341]? = _) := bf_ BK341
         have n5_ : Aside0 ((((w86.setCell ⟨gb345, 0, none⟩ (.bool t342)).setCell ⟨gb345, 1, none⟩ (.string t343)).setCell ⟨gb345, 2, none⟩ (.int .i64 t344)).heap[gb345]? = some (.cells #[.bool t342, .string t343, .int .i64 t344] 30 (0, 0))) := ⟨by (with_reducible repeat (first | refine blk_drewN ?_ _ | refine blk_drew ?_ | refine blk_alloc ?_ _)); refine blk_put (cs := #[.bool t342, .string t343, .int .i64 0]) ?_ 2 _ rfl; (with_reducible repeat (first | refine blk_drewN ?_ _ | refine blk_drew ?_ | refine blk_alloc ?_ _)); refine blk_put (cs := #[.bool t342, .string (⟨#[]⟩ : ByteArray), .int .i64 0]) ?_ 1 _ rfl; (with_reducible repeat (first | refine blk_drewN ?_ _ | refine blk_drew ?_ | refine blk_alloc ?_ _)); refine blk_put (cs := #[.bool false, .string (⟨#[]⟩ : ByteArray), .int .i64 0]) ?_ 0 _ rfl; (with_reducible repeat (first | refine blk_drewN ?_ _ | refine blk_drew ?_ | refine blk_alloc ?_ _)); exact BK345.out⟩
         have n6_ : Aside0 (Below w.heap.size w (((w86.setCell ⟨gb345, 0, none⟩ (.bool t342)).setCell ⟨gb345, 1, none⟩ (.string t343)).setCell ⟨gb345, 2, none⟩ (.int .i64 t344))) := (bl_ HB)
         (try clear BK304)
         (try clear BK311)
         (try clear BK315)
         (try clear BK322)
         (try clear BK341)
         (try clear BK345)
         (try clear HB)
         generalize (((w86.setCell ⟨gb345, 0, none⟩ (.bool t342)).setCell ⟨gb345, 1, none⟩ (.string t343)).setCell ⟨gb345, 2, none⟩ (.int .i64 t344)) = w93 at n0_ n1_ n2_ n3_ n4_ n5_ n6_ ⊢
         have BK304 := n0_
         have BK311 := n1_
         have BK315 := n2_
         have BK322 := n3_
         have BK341 := n4_
         have BK345 := n5_
         have HB := n6_
         clear n0_ n1_ n2_ n3_ n4_ n5_ n6_
         replace BK304 := Aside0.mk (blk_drew BK304.out)
         replace BK311 := Aside0.mk (blk_drew BK311.out)
         replace BK315 := Aside0.mk (blk_drew BK315.out)
         replace BK322 := Aside0.mk (blk_drew BK322.out)
         replace BK341 := Aside0.mk (blk_drew BK341.out)
         replace BK345 := Aside0.mk (blk_drew BK345.out)
         replace HB := Aside0.mk (below_drew1 HB.out)
         refine start_ (n := 32) (S := fun w' => w'.cell? ⟨gb311, 0, none⟩ = some (.bool t308) ∧ w'.cell? ⟨gb311, 1, none⟩ = some (.string t309) ∧ w'.cell? ⟨gb311, 2, none⟩ = some (.int .i64 t310) ∧ w'.cell? ⟨gb315, 0, none⟩ = some (.bool t312) ∧ w'.cell? ⟨gb315, 1, none⟩ = some (.string t313) ∧ w'.cell? ⟨gb315, 2, none⟩ = some (.int .i64 t314) ∧ w'.cell? ⟨gb341, 0, none⟩ = some (.bool t338) ∧ w'.cell? ⟨gb341, 1, none⟩ = some (.string t339) ∧ w'.cell? ⟨gb341, 2, none⟩ = some (.int .i64 t340) ∧ w'.cell? ⟨gb345, 0, none⟩ = some (.bool t342) ∧ w'.cell? ⟨gb345, 1, none⟩ = some (.string t343) ∧ w'.cell? ⟨gb345, 2, none⟩ = some (.int .i64 t344)) (ds := []) #[false, false, false, false, false, false, false, false, false, false, false, false, false, false, false, false, false, false, false, false, false, false, false, false, false, false, false, false, false, false, false, false] (by kernel_rfl) rfl rfl ⟨bc_ BK311 0, bc_ BK311 1, bc_ BK311 2, bc_ BK315 0, bc_ BK315 1, bc_ BK315 2, bc_ BK341 0, bc_ BK341 1, bc_ BK341 2, bc_ BK345 0, bc_ BK345 1, bc_ BK345 2⟩ (fun hHeld => ?_); refine with_tabW florinlaw03_RoundSigns.tab14 florinlaw03_RoundSigns.bits14 (fun HT_ HW_ => ?_)
         generalize w93.drew = w94 at BK304 BK311 BK315 BK322 BK341 BK345 HB hHeld ⊢
         refine pu_ 2 61 (bm_ 32 4) HT_ ?_
         refine pu_ 3 62 (bm_ 32 12) HT_ ?_
         refine tk_ 0 59 (bm_ 32 13) HT_ HW_ hHeld rfl (by rintro w' ⟨s0, s1, s2, s3, s4, s5, s6, s7, s8, s9, s10, s11⟩; go_simp; with_reducible rfl) ?_
         refine tk_ 6 65 (bm_ 32 77) HT_ HW_ hHeld rfl (by rintro w' ⟨s0, s1, s2, s3, s4, s5, s6, s7, s8, s9, s10, s11⟩; go_simp; with_reducible rfl) ?_
         refine one_ (i := 1) (N := some 60) (bm_ 32 79) rfl rfl (one_of HT_.out (by kernel_rfl)) (by decide) (fun K hK => ?_)
         refine gs_ Tryd.func20 #[.agg #[.bool t308, .string t309, .int .i64 t310]] ?_
         with_reducible refine (dec_Dec_Minus.calls kj12 t308 t309 t310 t346 t347 t348 _ A64.out).mono ?_
         rintro e w95 ⟨rfl, hb⟩
         refine ⟨_, rfl, ?_⟩
         replace BK304 := bb_ BK304 hb
         replace BK311 := bb_ BK311 hb
         replace BK315 := bb_ BK315 hb
         replace BK322 := bb_ BK322 hb
         replace BK341 := bb_ BK341 hb
         replace BK345 := bb_ BK345 hb
         replace HB := Aside0.mk (below_step (bl_ HB).out hb)
         (try clear hb)
         (try clear hb2)
         (try clear hk)
         (try clear hi)
         refine hK.out _ _ ⟨bc_ BK311 0, bc_ BK311 1, bc_ BK311 2, bc_ BK315 0, bc_ BK315 1, bc_ BK315 2, bc_ BK341 0, bc_ BK341 1, bc_ BK341 2, bc_ BK345 0, bc_ BK345 1, bc_ BK345 2⟩ (fun hHeld => ?_)
         clear hK K
         refine nm_ 60 ?_
         refine one_ (i := 4) (N := some 63) (bm_ 32 95) rfl rfl (one_of HT_.out (by kernel_rfl)) (by decide) (fun K hK => ?_)
         refine gs_ Tryd.func21 #[.int .i64 t307] ?_
         with_reducible refine (florinlaw03_turned.calls t307 t349 _ A65.out).mono ?_
         rintro e w' ⟨rfl, ⟨nd, rfl⟩⟩
         refine ⟨_, rfl, ?_⟩
         refine hK.out _ _ ⟨bc_ BK311 0, bc_ BK311 1, bc_ BK311 2, bc_ BK315 0, bc_ BK315 1, bc_ BK315 2, bc_ BK341 0, bc_ BK341 1, bc_ BK341 2, bc_ BK345 0, bc_ BK345 1, bc_ BK345 2⟩ (fun hHeld => ?_)
         clear hK K
         refine nm_ 63 ?_
         refine one_ (i := 5) (N := some 64) (bm_ 32 127) rfl rfl (one_of HT_.out (by kernel_rfl)) (by decide) (fun K hK => ?_)
         refine gs_ Tryd.func13 #[.agg #[.bool t346, .string t347, .int .i64 t348], .int .i64 (wrap64 ((Int.tmod a1 60) - (wrap64 (Int.tdiv (Int.tmod a1 60) 2)))), .int .i64 t349] ?_
         with_reducible refine (round_At.calls kj12 t346 t347 t348 (wrap64 ((Int.tmod a1 60) - (wrap64 (Int.tdiv (Int.tmod a1 60) 2)))) t349 t350 t351 t352 _ A66.out).mono ?_
         rintro e w96 ⟨rfl, hb⟩
         refine ⟨_, rfl, ?_⟩
         replace BK304 := bb_ BK304 hb
         replace BK311 := bb_ BK311 hb
         replace BK315 := bb_ BK315 hb
         replace BK322 := bb_ BK322 hb
         replace BK341 := bb_ BK341 hb
         replace BK345 := bb_ BK345 hb
         replace HB := Aside0.mk (below_step (bl_ HB).out hb)
         (try clear hb)
         (try clear hb2)
         (try clear hk)
         (try clear hi)
         refine hK.out _ _ ⟨bc_ BK311 0, bc_ BK311 1, bc_ BK311 2, bc_ BK315 0, bc_ BK315 1, bc_ BK315 2, bc_ BK341 0, bc_ BK341 1, bc_ BK341 2, bc_ BK345 0, bc_ BK345 1, bc_ BK345 2⟩ (fun hHeld => ?_)
         clear hK K
         refine nm_ 64 ?_
         refine one_ (i := 7) (N := some 66) (bm_ 32 255) rfl rfl (one_of HT_.out (by kernel_rfl)) (by decide) (fun K hK => ?_)
         refine gs_ Tryd.func20 #[.agg #[.bool t312, .string t313, .int .i64 t314]] ?_
         with_reducible refine (dec_Dec_Minus.calls kj12 t312 t313 t314 t353 t354 t355 _ A67.out).mono ?_
         rintro e w97 ⟨rfl, hb⟩
         refine ⟨_, rfl, ?_⟩
         replace BK304 := bb_ BK304 hb
         replace BK311 := bb_ BK311 hb
         replace BK315 := bb_ BK315 hb
         replace BK322 := bb_ BK322 hb
         replace BK341 := bb_ BK341 hb
         replace BK345 := bb_ BK345 hb
         replace HB := Aside0.mk (below_step (bl_ HB).out hb)
         (try clear hb)
         (try clear hb2)
         (try clear hk)
         (try clear hi)
         refine hK.out _ _ ⟨bc_ BK311 0, bc_ BK311 1, bc_ BK311 2, bc_ BK315 0, bc_ BK315 1, bc_ BK315 2, bc_ BK341 0, bc_ BK341 1, bc_ BK341 2, bc_ BK345 0, bc_ BK345 1, bc_ BK345 2⟩ (fun hHeld => ?_)
         clear hK K
         refine nm_ 66 ?_
         refine pu_ 8 67 (bm_ 32 511) HT_ ?_
         refine pu_ 9 68 (bm_ 32 1023) HT_ ?_
         refine tk_ 10 69 (bm_ 32 2047) HT_ HW_ hHeld rfl (by rintro w' ⟨s0, s1, s2, s3, s4, s5, s6, s7, s8, s9, s10, s11⟩; go_simp; with_reducible rfl) ?_
         refine tk_ 11 70 (bm_ 32 4095) HT_ HW_ hHeld rfl (by rintro w' ⟨s0, s1, s2, s3, s4, s5, s6, s7, s8, s9, s10, s11⟩; go_simp; with_reducible rfl) ?_
         refine pu_ 12 71 (bm_ 32 8191) HT_ ?_
         refine pu_ 13 72 (bm_ 32 16383) HT_ ?_
         refine pn_ 14 73 (bm_ 32 32767) HT_ ?_
         refine pn_ 15 74 (bm_ 32 65535) HT_ ?_
         refine pn_ 16 75 (bm_ 32 131071) HT_ ?_
         refine pu_ 17 76 (bm_ 32 262143) HT_ ?_
         refine pu_ 18 77 (bm_ 32 524287) HT_ ?_
         refine pu_ 19 78 (bm_ 32 1048575) HT_ ?_
         refine tk_ 20 79 (bm_ 32 2097151) HT_ HW_ hHeld rfl (by rintro w' ⟨s0, s1, s2, s3, s4, s5, s6, s7, s8, s9, s10, s11⟩; go_simp; with_reducible rfl) ?_
         refine tk_ 21 80 (bm_ 32 4194303) HT_ HW_ hHeld rfl (by rintro w' ⟨s0, s1, s2, s3, s4, s5, s6, s7, s8, s9, s10, s11⟩; go_simp; with_reducible rfl) ?_
         refine one_ (i := 22) (N := some 81) (bm_ 32 8388607) rfl rfl (one_of HT_.out (by kernel_rfl)) (by decide) (fun K hK => ?_)
         refine gs_ Tryd.func17 #[.agg #[.bool t338, .string t339, .int .i64 t340], .agg #[.bool t308, .string t309, .int .i64 t310]] ?_
         with_reducible refine (dec_Cmp.calls kj12 t338 t339 t340 t308 t309 t310 t356 _ A70.out).mono ?_
         rintro e w98 ⟨rfl, hb⟩
         refine ⟨_, rfl, ?_⟩
         replace BK304 := bb_ BK304 hb
         replace BK311 := bb_ BK311 hb
         replace BK315 := bb_ BK315 hb
         replace BK322 := bb_ BK322 hb
         replace BK341 := bb_ BK341 hb
         replace BK345 := bb_ BK345 hb
         replace HB := Aside0.mk (below_step (bl_ HB).out hb)
         (try clear hb)
         (try clear hb2)
         (try clear hk)
         (try clear hi)
         refine hK.out _ _ ⟨bc_ BK311 0, bc_ BK311 1, bc_ BK311 2, bc_ BK315 0, bc_ BK315 1, bc_ BK315 2, bc_ BK341 0, bc_ BK341 1, bc_ BK341 2, bc_ BK345 0, bc_ BK345 1, bc_ BK345 2⟩ (fun hHeld => ?_)
         clear hK K
         refine nm_ 81 ?_
         refine pu_ 23 82 (bm_ 32 16777215) HT_ ?_
         refine pu_ 24 83 (bm_ 32 33554431) HT_ ?_
         refine pu_ 25 84 (bm_ 32 67108863) HT_ ?_
         refine tk_ 26 85 (bm_ 32 134217727) HT_ HW_ hHeld rfl (by rintro w' ⟨s0, s1, s2, s3, s4, s5, s6, s7, s8, s9, s10, s11⟩; go_simp; with_reducible rfl) ?_
         refine tk_ 27 86 (bm_ 32 268435455) HT_ HW_ hHeld rfl (by rintro w' ⟨s0, s1, s2, s3, s4, s5, s6, s7, s8, s9, s10, s11⟩; go_simp; with_reducible rfl) ?_
         refine one_ (i := 28) (N := some 87) (bm_ 32 536870911) rfl rfl (one_of HT_.out (by kernel_rfl)) (by decide) (fun K hK => ?_)
         refine gs_ Tryd.func17 #[.agg #[.bool t308, .string t309, .int .i64 t310], .agg #[.bool t342, .string t343, .int .i64 t344]] ?_
         with_reducible refine (dec_Cmp.calls kj12 t308 t309 t310 t342 t343 t344 t357 _ A72.out).mono ?_
         rintro e w99 ⟨rfl, hb⟩
         refine ⟨_, rfl, ?_⟩
         replace BK304 := bb_ BK304 hb
         replace BK311 := bb_ BK311 hb
         replace BK315 := bb_ BK315 hb
         replace BK322 := bb_ BK322 hb
         replace BK341 := bb_ BK341 hb
         replace BK345 := bb_ BK345 hb
         replace HB := Aside0.mk (below_step (bl_ HB).out hb)
         (try clear hb)
         (try clear hb2)
         (try clear hk)
         (try clear hi)
         refine hK.out _ _ ⟨bc_ BK311 0, bc_ BK311 1, bc_ BK311 2, bc_ BK315 0, bc_ BK315 1, bc_ BK315 2, bc_ BK341 0, bc_ BK341 1, bc_ BK341 2, bc_ BK345 0, bc_ BK345 1, bc_ BK345 2⟩ (fun hHeld => ?_)
         clear hK K
         refine nm_ 87 ?_
         refine pu_ 29 88 (bm_ 32 1073741823) HT_ ?_
         refine pu_ 30 89 (bm_ 32 2147483647) HT_ ?_
         refine pu_ 31 6 (bm_ 32 4294967295) HT_ ?_
         refine done_ (done_of HT_.out (by kernel_rfl)) ?_
         try go_wp2
         go_ret
         exact ⟨by first | rfl | (simp [errW_none, errW_some] <;> rfl) | (simp [*, errW_none, errW_some] <;> first | rfl | exact given_isEmpty _ | exact (given_isEmpty _).symm), by repeat (first | (with_reducible first | exact HB.out | apply below_alloc | apply pw_below_drewN | apply below_drew1 | refine below_set ?_ GE304.out | refine below_set ?_ GE311.out | refine below_set ?_ GE315.out | refine below_set ?_ GE322.out | refine below_set ?_ GE341.out | refine below_set ?_ GE345.out) | exact HB.out)⟩
        ·rw [if_neg c71] at H
         have c71b0 : decide (t356 ≤ 0) = false := decide_eq_false c71
         clear c71
         obtain rfl := Option.some.inj H
         have hnb100 := NB311_304.out
         have hnc100 := NB304_311.out
         have hnb101 := NB311_315.out
         have hnc101 := NB315_311.out
         have hnb102 := NB311_322.out
         have hnc102 := NB322_311.out
         have hcz103_0 : wc.cell? ⟨gb311, 0, none⟩ = some (.bool t308) := bc_ BK311 0
         have hcz103_1 : wc.cell? ⟨gb311, 1, none⟩ = some (.string t309) := bc_ BK311 1
         have hcz103_2 : wc.cell? ⟨gb311, 2, none⟩ = some (.int .i64 t310) := bc_ BK311 2
         have hfz103_0 := blk_frozen BK311.out 0
         have hfz103_1 := blk_frozen BK311.out 1
         have hfz103_2 := blk_frozen BK311.out 2
         try go_wp2_with (first | ((with_reducible refine gate_callee (f := 13) rfl ?_); refine goesL_ (some 55) rfl rfl Tryd.func13 (by kernel_rfl) rfl #[.agg #[.bool t308, .string t309, .int .i64 t310], .int .i64 (wrap64 ((Int.tmod a1 60) - (wrap64 (Int.tdiv (Int.tmod a1 60) 2)))), .int .i64 6] rfl (by (try simp only [List.map_toArray, List.map_cons, List.map_nil]); first | done | rfl | (simp only [List.length_drop, List.length_take]; rfl) | (have z_ : ∀ s_ : ByteArray, s_.size ≤ 9223372036854775807 → -(s_.size : Int) = wrap64 (-(s_.size : Int)) := (fun s_ h_ => by unfold wrap64; omega); rw [← z_ _ (by omega)]; rfl) | (simp only [ByteArray.size_append]; rfl)) ?_; (with_reducible refine (round_At.calls kj12 t308 t309 t310 (wrap64 ((Int.tmod a1 60) - (wrap64 (Int.tdiv (Int.tmod a1 60) 2)))) 6 t338 t339 t340 _ A62.out).mono ?_); rintro e w104 ⟨rfl, hb⟩; refine ⟨_, rfl, ?_⟩; have n0_ := bb_ BK304 hb; have n1_ := bb_ BK311 hb; have n2_ := bb_ BK315 hb; have n3_ := bb_ BK322 hb; have n4_ := Aside0.mk (below_step (bl_ HB).out hb); clear BK304; clear BK311; clear BK315; clear BK322; clear HB; have BK304 := n0_; have BK311 := n1_; have BK315 := n2_; have BK322 := n3_; have HB := n4_; clear n0_ n1_ n2_ n3_ n4_; (try clear hb); (try clear hb2); (try clear hk); (try clear hi)) | ((with_reducible refine gate_dst (N := 11) rfl ?_); refine box_event ?hg (N := 11) ?hd (cs := #[.bool false, .string (⟨#[]⟩ : ByteArray), .int .i64 0]) (t := 30) ?hr ?_; (case hd => rfl); (case hg => rfl); (case hr => first | (go_simp; done) | (go_simp; rfl)); intro gb341 hg w105 hbox hb; have n0_ := bb_ BK304 hb; have n1_ := bb_ BK311 hb; have n2_ := bb_ BK315 hb; have n3_ := bb_ BK322 hb; have n4_ := Aside0.mk (below_step (bl_ HB).out hb); have n5_ := Aside0.mk (hbox); have n6_ := Aside0.mk ((by rw [hg]; exact (below_size (bl_ HB).out) : w.heap.size ≤ gb341)); have n7_ := Aside0.mk ((by rw [hg]; exact (below_size (bl_ HB).out) : w.heap.size ≤ gb341)); have n8_ := Aside0.mk ((by rw [hg]; exact Nat.ne_of_lt (blk_lt (g := gb304) (o := .cells #[.bool a0_0, .slice A0_1 l0_1.length c0_1, .int .i64 a0_2] 24 (0, 0)) (by (with_reducible repeat (first | refine blk_drewN ?_ _ | refine blk_drew ?_ | refine blk_alloc ?_ _)); exact BK304.out)) : gb304 ≠ gb341)); have n9_ := Aside0.mk ((by rw [hg]; exact Nat.ne_of_gt (blk_lt (g := gb304) (o := .cells #[.bool a0_0, .slice A0_1 l0_1.length c0_1, .int .i64 a0_2] 24 (0, 0)) (by (with_reducible repeat (first | refine blk_drewN ?_ _ | refine blk_drew ?_ | refine blk_alloc ?_ _)); exact BK304.out)) : gb341 ≠ gb304)); have n10_ := Aside0.mk ((by rw [hg]; exact Nat.ne_of_lt (blk_lt (g := gb311) (o := .cells #[.bool t308, .string t309, .int .i64 t310] 30 (0, 0)) (by (with_reducible repeat (first | refine blk_drewN ?_ _ | refine blk_drew ?_ | refine blk_alloc ?_ _)); exact BK311.out)) : gb311 ≠ gb341)); have n11_ := Aside0.mk ((by rw [hg]; exact Nat.ne_of_gt (blk_lt (g := gb311) (o := .cells #[.bool t308, .string t309, .int .i64 t310] 30 (0, 0)) (by (with_reducible repeat (first | refine blk_drewN ?_ _ | refine blk_drew ?_ | refine blk_alloc ?_ _)); exact BK311.out)) : gb341 ≠ gb311)); have n12_ := Aside0.mk ((by rw [hg]; exact Nat.ne_of_lt (blk_lt (g := gb315) (o := .cells #[.bool t312, .string t313, .int .i64 t314] 30 (0, 0)) (by (with_reducible repeat (first | refine blk_drewN ?_ _ | refine blk_drew ?_ | refine blk_alloc ?_ _)); exact BK315.out)) : gb315 ≠ gb341)); have n13_ := Aside0.mk ((by rw [hg]; exact Nat.ne_of_gt (blk_lt (g := gb315) (o := .cells #[.bool t312, .string t313, .int .i64 t314] 30 (0, 0)) (by (with_reducible repeat (first | refine blk_drewN ?_ _ | refine blk_drew ?_ | refine blk_alloc ?_ _)); exact BK315.out)) : gb341 ≠ gb315)); have n14_ := Aside0.mk ((by rw [hg]; exact Nat.ne_of_lt (blk_lt (g := gb322) (o := .cells #[.bool t319, .string t320, .int .i64 t321] 30 (0, 0)) (by (with_reducible repeat (first | refine blk_drewN ?_ _ | refine blk_drew ?_ | refine blk_alloc ?_ _)); exact BK322.out)) : gb322 ≠ gb341)); have n15_ := Aside0.mk ((by rw [hg]; exact Nat.ne_of_gt (blk_lt (g := gb322) (o := .cells #[.bool t319, .string t320, .int .i64 t321] 30 (0, 0)) (by (with_reducible repeat (first | refine blk_drewN ?_ _ | refine blk_drew ?_ | refine blk_alloc ?_ _)); exact BK322.out)) : gb341 ≠ gb322)); clear BK304; clear BK311; clear BK315; clear BK322; clear HB; have BK304 := n0_; have BK311 := n1_; have BK315 := n2_; have BK322 := n3_; have HB := n4_; have BK341 := n5_; have GW341 := n6_; have GE341 := n7_; have NB304_341 := n8_; have NB341_304 := n9_; have NB311_341 := n10_; have NB341_311 := n11_; have NB315_341 := n12_; have NB341_315 := n13_; have NB322_341 := n14_; have NB341_322 := n15_; clear n0_ n1_ n2_ n3_ n4_ n5_ n6_ n7_ n8_ n9_ n10_ n11_ n12_ n13_ n14_ n15_; clear hb hbox hg; have hnb106 := NB341_304.out; have hnc106 := NB304_341.out; have hnb107 := NB341_311.out; have hnc107 := NB311_341.out; have hnb108 := NB341_315.out; have hnc108 := NB315_341.out; have hnb109 := NB341_322.out; have hnc109 := NB322_341.out; have hcz110_0 : w105.cell? ⟨gb341, 0, none⟩ = some (.bool false) := bc_ BK341 0; have hcz110_1 : w105.cell? ⟨gb341, 1, none⟩ = some (.string (⟨#[]⟩ : ByteArray)) := bc_ BK341 1; have hcz110_2 : w105.cell? ⟨gb341, 2, none⟩ = some (.int .i64 0) := bc_ BK341 2; have hfz110_0 := blk_frozen BK341.out 0; have hfz110_1 := blk_frozen BK341.out 1; have hfz110_2 := blk_frozen BK341.out 2; have hcz111_0 : w105.cell? ⟨gb311, 0, none⟩ = some (.bool t308) := bc_ BK311 0; have hcz111_1 : w105.cell? ⟨gb311, 1, none⟩ = some (.string t309) := bc_ BK311 1; have hcz111_2 : w105.cell? ⟨gb311, 2, none⟩ = some (.int .i64 t310) := bc_ BK311 2; have hfz111_0 := blk_frozen BK311.out 0; have hfz111_1 := blk_frozen BK311.out 1; have hfz111_2 := blk_frozen BK311.out 2) | ((with_reducible refine gate_callee (f := 13) rfl ?_); refine goesL_ (some 58) rfl rfl Tryd.func13 (by kernel_rfl) rfl #[.agg #[.bool t308, .string t309, .int .i64 t310], .int .i64 (wrap64 ((Int.tmod a1 60) - (wrap64 (Int.tdiv (Int.tmod a1 60) 2)))), .int .i64 5] rfl (by (try simp only [List.map_toArray, List.map_cons, List.map_nil]); first | done | rfl | (simp only [List.length_drop, List.length_take]; rfl) | (have z_ : ∀ s_ : ByteArray, s_.size ≤ 9223372036854775807 → -(s_.size : Int) = wrap64 (-(s_.size : Int)) := (fun s_ h_ => by unfold wrap64; omega); rw [← z_ _ (by omega)]; rfl) | (simp only [ByteArray.size_append]; rfl)) ?_; (with_reducible refine (round_At.calls kj12 t308 t309 t310 (wrap64 ((Int.tmod a1 60) - (wrap64 (Int.tdiv (Int.tmod a1 60) 2)))) 5 t342 t343 t344 _ A63.out).mono ?_); rintro e w112 ⟨rfl, hb⟩; refine ⟨_, rfl, ?_⟩; have n0_ := Aside0.mk (blk_below (g := gb304) (o := .cells #[.bool a0_0, .slice A0_1 l0_1.length c0_1, .int .i64 a0_2] 24 (0, 0)) (by (with_reducible repeat (first | refine blk_drewN ?_ _ | refine blk_drew ?_ | refine blk_alloc ?_ _)); refine blk_far ?_ NB304_341.out _; (with_reducible repeat (first | refine blk_drewN ?_ _ | refine blk_drew ?_ | refine blk_alloc ?_ _)); refine blk_far ?_ NB304_341.out _; (with_reducible repeat (first | refine blk_drewN ?_ _ | refine blk_drew ?_ | refine blk_alloc ?_ _)); refine blk_far ?_ NB304_341.out _; (with_reducible repeat (first | refine blk_drewN ?_ _ | refine blk_drew ?_ | refine blk_alloc ?_ _)); exact BK304.out) hb); have n1_ := Aside0.mk (blk_below (g := gb311) (o := .cells #[.bool t308, .string t309, .int .i64 t310] 30 (0, 0)) (by (with_reducible repeat (first | refine blk_drewN ?_ _ | refine blk_drew ?_ | refine blk_alloc ?_ _)); refine blk_far ?_ NB311_341.out _; (with_reducible repeat (first | refine blk_drewN ?_ _ | refine blk_drew ?_ | refine blk_alloc ?_ _)); refine blk_far ?_ NB311_341.out _; (with_reducible repeat (first | refine blk_drewN ?_ _ | refine blk_drew ?_ | refine blk_alloc ?_ _)); refine blk_far ?_ NB311_341.out _; (with_reducible repeat (first | refine blk_drewN ?_ _ | refine blk_drew ?_ | refine blk_alloc ?_ _)); exact BK311.out) hb); have n2_ := Aside0.mk (blk_below (g := gb315) (o := .cells #[.bool t312, .string t313, .int .i64 t314] 30 (0, 0)) (by (with_reducible repeat (first | refine blk_drewN ?_ _ | refine blk_drew ?_ | refine blk_alloc ?_ _)); refine blk_far ?_ NB315_341.out _; (with_reducible repeat (first | refine blk_drewN ?_ _ | refine blk_drew ?_ | refine blk_alloc ?_ _)); refine blk_far ?_ NB315_341.out _; (with_reducible repeat (first | refine blk_drewN ?_ _ | refine blk_drew ?_ | refine blk_alloc ?_ _)); refine blk_far ?_ NB315_341.out _; (with_reducible repeat (first | refine blk_drewN ?_ _ | refine blk_drew ?_ | refine blk_alloc ?_ _)); exact BK315.out) hb); have n3_ := Aside0.mk (blk_below (g := gb322) (o := .cells #[.bool t319, .string t320, .int .i64 t321] 30 (0, 0)) (by (with_reducible repeat (first | refine blk_drewN ?_ _ | refine blk_drew ?_ | refine blk_alloc ?_ _)); refine blk_far ?_ NB322_341.out _; (with_reducible repeat (first | refine blk_drewN ?_ _ | refine blk_drew ?_ | refine blk_alloc ?_ _)); refine blk_far ?_ NB322_341.out _; (with_reducible repeat (first | refine blk_drewN ?_ _ | refine blk_drew ?_ | refine blk_alloc ?_ _)); refine blk_far ?_ NB322_341.out _; (with_reducible repeat (first | refine blk_drewN ?_ _ | refine blk_drew ?_ | refine blk_alloc ?_ _)); exact BK322.out) hb); have n4_ := Aside0.mk (blk_below (g := gb341) (o := .cells #[.bool t338, .string t339, .int .i64 t340] 30 (0, 0)) (by (with_reducible repeat (first | refine blk_drewN ?_ _ | refine blk_drew ?_ | refine blk_alloc ?_ _)); refine blk_put (cs := #[.bool t338, .string t339, .int .i64 0]) ?_ 2 _ rfl; (with_reducible repeat (first | refine blk_drewN ?_ _ | refine blk_drew ?_ | refine blk_alloc ?_ _)); refine blk_put (cs := #[.bool t338, .string (⟨#[]⟩ : ByteArray), .int .i64 0]) ?_ 1 _ rfl; (with_reducible repeat (first | refine blk_drewN ?_ _ | refine blk_drew ?_ | refine blk_alloc ?_ _)); refine blk_put (cs := #[.bool false, .string (⟨#[]⟩ : ByteArray), .int .i64 0]) ?_ 0 _ rfl; (with_reducible repeat (first | refine blk_drewN ?_ _ | refine blk_drew ?_ | refine blk_alloc ?_ _)); exact BK341.out) hb); have n5_ := Aside0.mk (below_step (bl_ HB).out hb); clear BK304; clear BK311; clear BK315; clear BK322; clear BK341; clear HB; have BK304 := n0_; have BK311 := n1_; have BK315 := n2_; have BK322 := n3_; have BK341 := n4_; have HB := n5_; clear n0_ n1_ n2_ n3_ n4_ n5_; (try clear hb); (try clear hb2); (try clear hk); (try clear hi)) | ((with_reducible refine gate_dst (N := 12) rfl ?_); refine box_event ?hg (N := 12) ?hd (cs := #[.bool false, .string (⟨#[]⟩ : ByteArray), .int .i64 0]) (t := 30) ?hr ?_; (case hd => rfl); (case hg => rfl); (case hr => first | (go_simp; done) | (go_simp; rfl)); intro gb345 hg w113 hbox hb; have n0_ := bb_ BK304 hb; have n1_ := bb_ BK311 hb; have n2_ := bb_ BK315 hb; have n3_ := bb_ BK322 hb; have n4_ := bb_ BK341 hb; have n5_ := Aside0.mk (below_step (bl_ HB).out hb); have n6_ := Aside0.mk (hbox); have n7_ := Aside0.mk ((by rw [hg]; exact (below_size (bl_ HB).out) : w.heap.size ≤ gb345)); have n8_ := Aside0.mk ((by rw [hg]; exact (below_size (bl_ HB).out) : w.heap.size ≤ gb345)); have n9_ := Aside0.mk ((by rw [hg]; exact Nat.ne_of_lt (blk_lt (g := gb304) (o := .cells #[.bool a0_0, .slice A0_1 l0_1.length c0_1, .int .i64 a0_2] 24 (0, 0)) (by (with_reducible repeat (first | refine blk_drewN ?_ _ | refine blk_drew ?_ | refine blk_alloc ?_ _)); exact BK304.out)) : gb304 ≠ gb345)); have n10_ := Aside0.mk ((by rw [hg]; exact Nat.ne_of_gt (blk_lt (g := gb304) (o := .cells #[.bool a0_0, .slice A0_1 l0_1.length c0_1, .int .i64 a0_2] 24 (0, 0)) (by (with_reducible repeat (first | refine blk_drewN ?_ _ | refine blk_drew ?_ | refine blk_alloc ?_ _)); exact BK304.out)) : gb345 ≠ gb304)); have n11_ := Aside0.mk ((by rw [hg]; exact Nat.ne_of_lt (blk_lt (g := gb311) (o := .cells #[.bool t308, .string t309, .int .i64 t310] 30 (0, 0)) (by (with_reducible repeat (first | refine blk_drewN ?_ _ | refine blk_drew ?_ | refine blk_alloc ?_ _)); exact BK311.out)) : gb311 ≠ gb345)); have n12_ := Aside0.mk ((by rw [hg]; exact Nat.ne_of_gt (blk_lt (g := gb311) (o := .cells #[.bool t308, .string t309, .int .i64 t310] 30 (0, 0)) (by (with_reducible repeat (first | refine blk_drewN ?_ _ | refine blk_drew ?_ | refine blk_alloc ?_ _)); exact BK311.out)) : gb345 ≠ gb311)); have n13_ := Aside0.mk ((by rw [hg]; exact Nat.ne_of_lt (blk_lt (g := gb315) (o := .cells #[.bool t312, .string t313, .int .i64 t314] 30 (0, 0)) (by (with_reducible repeat (first | refine blk_drewN ?_ _ | refine blk_drew ?_ | refine blk_alloc ?_ _)); exact BK315.out)) : gb315 ≠ gb345)); have n14_ := Aside0.mk ((by rw [hg]; exact Nat.ne_of_gt (blk_lt (g := gb315) (o := .cells #[.bool t312, .string t313, .int .i64 t314] 30 (0, 0)) (by (with_reducible repeat (first | refine blk_drewN ?_ _ | refine blk_drew ?_ | refine blk_alloc ?_ _)); exact BK315.out)) : gb345 ≠ gb315)); have n15_ := Aside0.mk ((by rw [hg]; exact Nat.ne_of_lt (blk_lt (g := gb322) (o := .cells #[.bool t319, .string t320, .int .i64 t321] 30 (0, 0)) (by (with_reducible repeat (first | refine blk_drewN ?_ _ | refine blk_drew ?_ | refine blk_alloc ?_ _)); exact BK322.out)) : gb322 ≠ gb345)); have n16_ := Aside0.mk ((by rw [hg]; exact Nat.ne_of_gt (blk_lt (g := gb322) (o := .cells #[.bool t319, .string t320, .int .i64 t321] 30 (0, 0)) (by (with_reducible repeat (first | refine blk_drewN ?_ _ | refine blk_drew ?_ | refine blk_alloc ?_ _)); exact BK322.out)) : gb345 ≠ gb322)); have n17_ := Aside0.mk ((by rw [hg]; exact Nat.ne_of_lt (blk_lt (g := gb341) (o := .cells #[.bool t338, .string t339, .int .i64 t340] 30 (0, 0)) (by (with_reducible repeat (first | refine blk_drewN ?_ _ | refine blk_drew ?_ | refine blk_alloc ?_ _)); exact BK341.out)) : gb341 ≠ gb345)); have n18_ := Aside0.mk ((by rw [hg]; exact Nat.ne_of_gt (blk_lt (g := gb341) (o := .cells #[.bool t338, .string t339, .int .i64 t340] 30 (0, 0)) (by (with_reducible repeat (first | refine blk_drewN ?_ _ | refine blk_drew ?_ | refine blk_alloc ?_ _)); exact BK341.out)) : gb345 ≠ gb341)); clear BK304; clear BK311; clear BK315; clear BK322; clear BK341; clear HB; have BK304 := n0_; have BK311 := n1_; have BK315 := n2_; have BK322 := n3_; have BK341 := n4_; have HB := n5_; have BK345 := n6_; have GW345 := n7_; have GE345 := n8_; have NB304_345 := n9_; have NB345_304 := n10_; have NB311_345 := n11_; have NB345_311 := n12_; have NB315_345 := n13_; have NB345_315 := n14_; have NB322_345 := n15_; have NB345_322 := n16_; have NB341_345 := n17_; have NB345_341 := n18_; clear n0_ n1_ n2_ n3_ n4_ n5_ n6_ n7_ n8_ n9_ n10_ n11_ n12_ n13_ n14_ n15_ n16_ n17_ n18_; clear hb hbox hg; have hnb114 := NB345_304.out; have hnc114 := NB304_345.out; have hnb115 := NB345_311.out; have hnc115 := NB311_345.out; have hnb116 := NB345_315.out; have hnc116 := NB315_345.out; have hnb117 := NB345_322.out; have hnc117 := NB322_345.out; have hnb118 := NB345_341.out; have hnc118 := NB341_345.out; have hcz119_0 : w113.cell? ⟨gb345, 0, none⟩ = some (.bool false) := bc_ BK345 0; have hcz119_1 : w113.cell? ⟨gb345, 1, none⟩ = some (.string (⟨#[]⟩ : ByteArray)) := bc_ BK345 1; have hcz119_2 : w113.cell? ⟨gb345, 2, none⟩ = some (.int .i64 0) := bc_ BK345 2; have hfz119_0 := blk_frozen BK345.out 0; have hfz119_1 := blk_frozen BK345.out 1; have hfz119_2 := blk_frozen BK345.out 2))
         have n0_ : Aside0 ((((w113.setCell ⟨gb345, 0, none⟩ (.bool t342)).setCell ⟨gb345, 1, none⟩ (.string t343)).setCell ⟨gb345, 2, none⟩ (.int .i64 t344)).heap[gb304]? = _) := bf_ BK304
         have n1_ : Aside0 ((((w113.setCell ⟨gb345, 0, none⟩ (.bool t342)).setCell ⟨gb345, 1, none⟩ (.string t343)).setCell ⟨gb345, 2, none⟩ (.int .i64 t344)).heap[gb311]? = _) := bf_ BK311
         have n2_ : Aside0 ((((w113.setCell ⟨gb345, 0, none⟩ (.bool t342)).setCell ⟨gb345, 1, none⟩ (.string t343)).setCell ⟨gb345, 2, none⟩ (.int .i64 t344)).heap[gb315]? = _) := bf_ BK315
         have n3_ : Aside0 ((((w113.setCell ⟨gb345, 0, none⟩ (.bool t342)).setCell ⟨gb345, 1, none⟩ (.string t343)).setCell ⟨gb345, 2, none⟩ (.int .i64 t344)).heap[gb322]? = _) := bf_ BK322
         have n4_ : Aside0 ((((w113.setCell ⟨gb345, 0, none⟩ (.bool t342)).setCell ⟨gb345, 1, none⟩ (.string t343)).setCell ⟨gb345, 2, none⟩ (.int .i64 t344)).heap[gb341]? = _) := bf_ BK341
         have n5_ : Aside0 ((((w113.setCell ⟨gb345, 0, none⟩ (.bool t342)).setCell ⟨gb345, 1, none⟩ (.string t343)).setCell ⟨gb345, 2, none⟩ (.int .i64 t344)).heap[gb345]? = some (.cells #[.bool t342, .string t343, .int .i64 t344] 30 (0, 0))) := ⟨by (with_reducible repeat (first | refine blk_drewN ?_ _ | refine blk_drew ?_ | refine blk_alloc ?_ _)); refine blk_put (cs := #[.bool t342, .string t343, .int .i64 0]) ?_ 2 _ rfl; (with_reducible repeat (first | refine blk_drewN ?_ _ | refine blk_drew ?_ | refine blk_alloc ?_ _)); refine blk_put (cs := #[.bool t342, .string (⟨#[]⟩ : ByteArray), .int .i64 0]) ?_ 1 _ rfl; (with_reducible repeat (first | refine blk_drewN ?_ _ | refine blk_drew ?_ | refine blk_alloc ?_ _)); refine blk_put (cs := #[.bool false, .string (⟨#[]⟩ : ByteArray), .int .i64 0]) ?_ 0 _ rfl; (with_reducible repeat (first | refine blk_drewN ?_ _ | refine blk_drew ?_ | refine blk_alloc ?_ _)); exact BK345.out⟩
         have n6_ : Aside0 (Below w.heap.size w (((w113.setCell ⟨gb345, 0, none⟩ (.bool t342)).setCell ⟨gb345, 1, none⟩ (.string t343)).setCell ⟨gb345, 2, none⟩ (.int .i64 t344))) := (bl_ HB)
         (try clear BK304)
         (try clear BK311)
         (try clear BK315)
         (try clear BK322)
         (try clear BK341)
         (try clear BK345)
         (try clear HB)
         generalize (((w113.setCell ⟨gb345, 0, none⟩ (.bool t342)).setCell ⟨gb345, 1, none⟩ (.string t343)).setCell ⟨gb345, 2, none⟩ (.int .i64 t344)) = w120 at n0_ n1_ n2_ n3_ n4_ n5_ n6_ ⊢
         have BK304 := n0_
         have BK311 := n1_
         have BK315 := n2_
         have BK322 := n3_
         have BK341 := n4_
         have BK345 := n5_
         have HB := n6_
         clear n0_ n1_ n2_ n3_ n4_ n5_ n6_
         replace BK304 := Aside0.mk (blk_drew BK304.out)
         replace BK311 := Aside0.mk (blk_drew BK311.out)
         replace BK315 := Aside0.mk (blk_drew BK315.out)
         replace BK322 := Aside0.mk (blk_drew BK322.out)
         replace BK341 := Aside0.mk (blk_drew BK341.out)
         replace BK345 := Aside0.mk (blk_drew BK345.out)
         replace HB := Aside0.mk (below_drew1 HB.out)
         refine start_ (n := 32) (S := fun w' => w'.cell? ⟨gb311, 0, none⟩ = some (.bool t308) ∧ w'.cell? ⟨gb311, 1, none⟩ = some (.string t309) ∧ w'.cell? ⟨gb311, 2, none⟩ = some (.int .i64 t310) ∧ w'.cell? ⟨gb315, 0, none⟩ = some (.bool t312) ∧ w'.cell? ⟨gb315, 1, none⟩ = some (.string t313) ∧ w'.cell? ⟨gb315, 2, none⟩ = some (.int .i64 t314) ∧ w'.cell? ⟨gb341, 0, none⟩ = some (.bool t338) ∧ w'.cell? ⟨gb341, 1, none⟩ = some (.string t339) ∧ w'.cell? ⟨gb341, 2, none⟩ = some (.int .i64 t340)) (ds := []) #[false, false, false, false, false, false, false, false, false, false, false, false, false, false, false, false, false, false, false, false, false, false, false, false, false, false, false, false, false, false, false, false] (by kernel_rfl) rfl rfl ⟨bc_ BK311 0, bc_ BK311 1, bc_ BK311 2, bc_ BK315 0, bc_ BK315 1, bc_ BK315 2, bc_ BK341 0, bc_ BK341 1, bc_ BK341 2⟩ (fun hHeld => ?_); refine with_tabW florinlaw03_RoundSigns.tab14 florinlaw03_RoundSigns.bits14 (fun HT_ HW_ => ?_)
         generalize w120.drew = w121 at BK304 BK311 BK315 BK322 BK341 BK345 HB hHeld ⊢
         refine pu_ 2 61 (bm_ 32 4) HT_ ?_
         refine pu_ 3 62 (bm_ 32 12) HT_ ?_
         refine tk_ 0 59 (bm_ 32 13) HT_ HW_ hHeld rfl (by rintro w' ⟨s0, s1, s2, s3, s4, s5, s6, s7, s8⟩; go_simp; with_reducible rfl) ?_
         refine tk_ 6 65 (bm_ 32 77) HT_ HW_ hHeld rfl (by rintro w' ⟨s0, s1, s2, s3, s4, s5, s6, s7, s8⟩; go_simp; with_reducible rfl) ?_
         refine one_ (i := 1) (N := some 60) (bm_ 32 79) rfl rfl (one_of HT_.out (by kernel_rfl)) (by decide) (fun K hK => ?_)
         refine gs_ Tryd.func20 #[.agg #[.bool t308, .string t309, .int .i64 t310]] ?_
         with_reducible refine (dec_Dec_Minus.calls kj12 t308 t309 t310 t346 t347 t348 _ A64.out).mono ?_
         rintro e w122 ⟨rfl, hb⟩
         refine ⟨_, rfl, ?_⟩
         replace BK304 := bb_ BK304 hb
         replace BK311 := bb_ BK311 hb
         replace BK315 := bb_ BK315 hb
         replace BK322 := bb_ BK322 hb
         replace BK341 := bb_ BK341 hb
         replace BK345 := bb_ BK345 hb
         replace HB := Aside0.mk (below_step (bl_ HB).out hb)
         (try clear hb)
         (try clear hb2)
         (try clear hk)
         (try clear hi)
         refine hK.out _ _ ⟨bc_ BK311 0, bc_ BK311 1, bc_ BK311 2, bc_ BK315 0, bc_ BK315 1, bc_ BK315 2, bc_ BK341 0, bc_ BK341 1, bc_ BK341 2⟩ (fun hHeld => ?_)
         clear hK K
         refine nm_ 60 ?_
         refine one_ (i := 4) (N := some 63) (bm_ 32 95) rfl rfl (one_of HT_.out (by kernel_rfl)) (by decide) (fun K hK => ?_)
         refine gs_ Tryd.func21 #[.int .i64 t307] ?_
         with_reducible refine (florinlaw03_turned.calls t307 t349 _ A65.out).mono ?_
         rintro e w' ⟨rfl, ⟨nd, rfl⟩⟩
         refine ⟨_, rfl, ?_⟩
         refine hK.out _ _ ⟨bc_ BK311 0, bc_ BK311 1, bc_ BK311 2, bc_ BK315 0, bc_ BK315 1, bc_ BK315 2, bc_ BK341 0, bc_ BK341 1, bc_ BK341 2⟩ (fun hHeld => ?_)
         clear hK K
         refine nm_ 63 ?_
         refine one_ (i := 5) (N := some 64) (bm_ 32 127) rfl rfl (one_of HT_.out (by kernel_rfl)) (by decide) (fun K hK => ?_)
         refine gs_ Tryd.func13 #[.agg #[.bool t346, .string t347, .int .i64 t348], .int .i64 (wrap64 ((Int.tmod a1 60) - (wrap64 (Int.tdiv (Int.tmod a1 60) 2)))), .int .i64 t349] ?_
         with_reducible refine (round_At.calls kj12 t346 t347 t348 (wrap64 ((Int.tmod a1 60) - (wrap64 (Int.tdiv (Int.tmod a1 60) 2)))) t349 t350 t351 t352 _ A66.out).mono ?_
         rintro e w123 ⟨rfl, hb⟩
         refine ⟨_, rfl, ?_⟩
         replace BK304 := bb_ BK304 hb
         replace BK311 := bb_ BK311 hb
         replace BK315 := bb_ BK315 hb
         replace BK322 := bb_ BK322 hb
         replace BK341 := bb_ BK341 hb
         replace BK345 := bb_ BK345 hb
         replace HB := Aside0.mk (below_step (bl_ HB).out hb)
         (try clear hb)
         (try clear hb2)
         (try clear hk)
         (try clear hi)
         refine hK.out _ _ ⟨bc_ BK311 0, bc_ BK311 1, bc_ BK311 2, bc_ BK315 0, bc_ BK315 1, bc_ BK315 2, bc_ BK341 0, bc_ BK341 1, bc_ BK341 2⟩ (fun hHeld => ?_)
         clear hK K
         refine nm_ 64 ?_
         refine one_ (i := 7) (N := some 66) (bm_ 32 255) rfl rfl (one_of HT_.out (by kernel_rfl)) (by decide) (fun K hK => ?_)
         refine gs_ Tryd.func20 #[.agg #[.bool t312, .string t313, .int .i64 t314]] ?_
         with_reducible refine (dec_Dec_Minus.calls kj12 t312 t313 t314 t353 t354 t355 _ A67.out).mono ?_
         rintro e w124 ⟨rfl, hb⟩
         refine ⟨_, rfl, ?_⟩
         replace BK304 := bb_ BK304 hb
         replace BK311 := bb_ BK311 hb
         replace BK315 := bb_ BK315 hb
         replace BK322 := bb_ BK322 hb
         replace BK341 := bb_ BK341 hb
         replace BK345 := bb_ BK345 hb
         replace HB := Aside0.mk (below_step (bl_ HB).out hb)
         (try clear hb)
         (try clear hb2)
         (try clear hk)
         (try clear hi)
         refine hK.out _ _ ⟨bc_ BK311 0, bc_ BK311 1, bc_ BK311 2, bc_ BK315 0, bc_ BK315 1, bc_ BK315 2, bc_ BK341 0, bc_ BK341 1, bc_ BK341 2⟩ (fun hHeld => ?_)
         clear hK K
         refine nm_ 66 ?_
         refine pu_ 8 67 (bm_ 32 511) HT_ ?_
         refine pu_ 9 68 (bm_ 32 1023) HT_ ?_
         refine tk_ 10 69 (bm_ 32 2047) HT_ HW_ hHeld rfl (by rintro w' ⟨s0, s1, s2, s3, s4, s5, s6, s7, s8⟩; go_simp; with_reducible rfl) ?_
         refine tk_ 11 70 (bm_ 32 4095) HT_ HW_ hHeld rfl (by rintro w' ⟨s0, s1, s2, s3, s4, s5, s6, s7, s8⟩; go_simp; with_reducible rfl) ?_
         refine pu_ 12 71 (bm_ 32 8191) HT_ ?_
         refine pu_ 13 72 (bm_ 32 16383) HT_ ?_
         refine pn_ 14 73 (bm_ 32 32767) HT_ ?_
         refine pn_ 15 74 (bm_ 32 65535) HT_ ?_
         refine pn_ 16 75 (bm_ 32 131071) HT_ ?_
         refine pu_ 17 76 (bm_ 32 262143) HT_ ?_
         refine pu_ 18 77 (bm_ 32 524287) HT_ ?_
         refine pu_ 19 78 (bm_ 32 1048575) HT_ ?_
         refine tk_ 20 79 (bm_ 32 2097151) HT_ HW_ hHeld rfl (by rintro w' ⟨s0, s1, s2, s3, s4, s5, s6, s7, s8⟩; go_simp; with_reducible rfl) ?_
         refine tk_ 21 80 (bm_ 32 4194303) HT_ HW_ hHeld rfl (by rintro w' ⟨s0, s1, s2, s3, s4, s5, s6, s7, s8⟩; go_simp; with_reducible rfl) ?_
         refine one_ (i := 22) (N := some 81) (bm_ 32 8388607) rfl rfl (one_of HT_.out (by kernel_rfl)) (by decide) (fun K hK => ?_)
         refine gs_ Tryd.func17 #[.agg #[.bool t338, .string t339, .int .i64 t340], .agg #[.bool t308, .string t309, .int .i64 t310]] ?_
         with_reducible refine (dec_Cmp.calls kj12 t338 t339 t340 t308 t309 t310 t356 _ A70.out).mono ?_
         rintro e w125 ⟨rfl, hb⟩
         refine ⟨_, rfl, ?_⟩
         replace BK304 := bb_ BK304 hb
         replace BK311 := bb_ BK311 hb
         replace BK315 := bb_ BK315 hb
         replace BK322 := bb_ BK322 hb
         replace BK341 := bb_ BK341 hb
         replace BK345 := bb_ BK345 hb
         replace HB := Aside0.mk (below_step (bl_ HB).out hb)
         (try clear hb)
         (try clear hb2)
         (try clear hk)
         (try clear hi)
         refine hK.out _ _ ⟨bc_ BK311 0, bc_ BK311 1, bc_ BK311 2, bc_ BK315 0, bc_ BK315 1, bc_ BK315 2, bc_ BK341 0, bc_ BK341 1, bc_ BK341 2⟩ (fun hHeld => ?_)
         clear hK K
         refine nm_ 81 ?_
         refine pu_ 23 82 (bm_ 32 16777215) HT_ ?_
         refine pu_ 24 83 (bm_ 32 33554431) HT_ ?_
         refine pu_ 25 84 (bm_ 32 67108863) HT_ ?_
         refine pn_ 26 85 (bm_ 32 134217727) HT_ ?_
         refine pn_ 27 86 (bm_ 32 268435455) HT_ ?_
         refine pn_ 28 87 (bm_ 32 536870911) HT_ ?_
         refine pn_ 29 88 (bm_ 32 1073741823) HT_ ?_
         refine pu_ 30 89 (bm_ 32 2147483647) HT_ ?_
         refine pu_ 31 6 (bm_ 32 4294967295) HT_ ?_
         refine done_ (done_of HT_.out (by kernel_rfl)) ?_
         try go_wp2
         go_ret
         exact ⟨by first | rfl | (simp [errW_none, errW_some] <;> rfl) | (simp [*, errW_none, errW_some] <;> first | rfl | exact given_isEmpty _ | exact (given_isEmpty _).symm), by repeat (first | (with_reducible first | exact HB.out | apply below_alloc | apply pw_below_drewN | apply below_drew1 | refine below_set ?_ GE304.out | refine below_set ?_ GE311.out | refine below_set ?_ GE315.out | refine below_set ?_ GE322.out | refine below_set ?_ GE341.out | refine below_set ?_ GE345.out) | exact HB.out)⟩
       ·rw [if_neg c69] at H
        have c69b0 : (t312 == t338 && (t313.toList == t339.toList && (t314 == t340))) = false := by simpa using c69
        (try (have c69b1 : decide (t312 = t338 && (t313.toList == t339.toList && (t314 == t340))) = false := by simpa using c69))
        (try (have c69b2 : (t312 == t338 && (t313.toList == t339.toList && (t314 == t340))) = false := by simpa using c69))
        (try (have c69b3 : ¬ (t312 = t338 && (t313.toList == t339.toList && (t314 == t340))) := by simpa using c69))
        clear c69
        by_cases c126 : (t312 == t342 && (t313.toList == t343.toList && (t314 == t344))) = true
        ·rw [if_pos c126] at H
         have c126b0 : (t312 == t342 && (t313.toList == t343.toList && (t314 == t344))) = true := c126
         (try (have c126b1 : decide (t312 = t342 && (t313.toList == t343.toList && (t314 == t344))) = true := by simpa using c126))
         (try (have c126b2 : (t312 == t342 && (t313.toList == t343.toList && (t314 == t344))) = true := by simpa using c126))
         clear c126
         replace H := Option.bind_eq_some_iff.mp H
         obtain ⟨t358, A1270, H⟩ := H
         replace H : (if t358 ≤ 0 then ((dec_Cmp.f kj12 t308 t309 t310 t342 t343 t344).bind fun t359 => (some (decide (t359 ≤ 0)))) else (some false)) = some r := H
         have A127 := Aside0.mk A1270
         clear A1270
         by_cases c128 : t358 ≤ 0
         ·rw [if_pos c128] at H
          have c128b0 : decide (t358 ≤ 0) = true := decide_eq_true c128
          clear c128
          replace H := Option.bind_eq_some_iff.mp H
          obtain ⟨t359, A1290, H⟩ := H
          replace H : (some (decide (t359 ≤ 0))) = some r := H
          have A129 := Aside0.mk A1290
          clear A1290
          obtain rfl := Option.some.inj H
          have hnb130 := NB311_304.out
          have hnc130 := NB304_311.out
          have hnb131 := NB311_315.out
          have hnc131 := NB315_311.out
          have hnb132 := NB311_322.out
          have hnc132 := NB322_311.out
          have hcz133_0 : wc.cell? ⟨gb311, 0, none⟩ = some (.bool t308) := bc_ BK311 0
          have hcz133_1 : wc.cell? ⟨gb311, 1, none⟩ = some (.string t309) := bc_ BK311 1
          have hcz133_2 : wc.cell? ⟨gb311, 2, none⟩ = some (.int .i64 t310) := bc_ BK311 2
          have hfz133_0 := blk_frozen BK311.out 0
          have hfz133_1 := blk_frozen BK311.out 1
          have hfz133_2 := blk_frozen BK311.out 2
          try go_wp2_with (first | ((with_reducible refine gate_callee (f := 13) rfl ?_); refine goesL_ (some 55) rfl rfl Tryd.func13 (by kernel_rfl) rfl #[.agg #[.bool t308, .string t309, .int .i64 t310], .int .i64 (wrap64 ((Int.tmod a1 60) - (wrap64 (Int.tdiv (Int.tmod a1 60) 2)))), .int .i64 6] rfl (by (try simp only [List.map_toArray, List.map_cons, List.map_nil]); first | done | rfl | (simp only [List.length_drop, List.length_take]; rfl) | (have z_ : ∀ s_ : ByteArray, s_.size ≤ 9223372036854775807 → -(s_.size : Int) = wrap64 (-(s_.size : Int)) := (fun s_ h_ => by unfold wrap64; omega); rw [← z_ _ (by omega)]; rfl) | (simp only [ByteArray.size_append]; rfl)) ?_; (with_reducible refine (round_At.calls kj12 t308 t309 t310 (wrap64 ((Int.tmod a1 60) - (wrap64 (Int.tdiv (Int.tmod a1 60) 2)))) 6 t338 t339 t340 _ A62.out).mono ?_); rintro e w134 ⟨rfl, hb⟩; refine ⟨_, rfl, ?_⟩; have n0_ := bb_ BK304 hb; have n1_ := bb_ BK311 hb; have n2_ := bb_ BK315 hb; have n3_ := bb_ BK322 hb; have n4_ := Aside0.mk (below_step (bl_ HB).out hb); clear BK304; clear BK311; clear BK315; clear BK322; clear HB; have BK304 := n0_; have BK311 := n1_; have BK315 := n2_; have BK322 := n3_; have HB := n4_; clear n0_ n1_ n2_ n3_ n4_; (try clear hb); (try clear hb2); (try clear hk); (try clear hi)) | ((with_reducible refine gate_dst (N := 11) rfl ?_); refine box_event ?hg (N := 11) ?hd (cs := #[.bool false, .string (⟨#[]⟩ : ByteArray), .int .i64 0]) (t := 30) ?hr ?_; (case hd => rfl); (case hg => rfl); (case hr => first | (go_simp; done) | (go_simp; rfl)); intro gb341 hg w135 hbox hb; have n0_ := bb_ BK304 hb; have n1_ := bb_ BK311 hb; have n2_ := bb_ BK315 hb; have n3_ := bb_ BK322 hb; have n4_ := Aside0.mk (below_step (bl_ HB).out hb); have n5_ := Aside0.mk (hbox); have n6_ := Aside0.mk ((by rw [hg]; exact (below_size (bl_ HB).out) : w.heap.size ≤ gb341)); have n7_ := Aside0.mk ((by rw [hg]; exact (below_size (bl_ HB).out) : w.heap.size ≤ gb341)); have n8_ := Aside0.mk ((by rw [hg]; exact Nat.ne_of_lt (blk_lt (g := gb304) (o := .cells #[.bool a0_0, .slice A0_1 l0_1.length c0_1, .int .i64 a0_2] 24 (0, 0)) (by (with_reducible repeat (first | refine blk_drewN ?_ _ | refine blk_drew ?_ | refine blk_alloc ?_ _)); exact BK304.out)) : gb304 ≠ gb341)); have n9_ := Aside0.mk ((by rw [hg]; exact Nat.ne_of_gt (blk_lt (g := gb304) (o := .cells #[.bool a0_0, .slice A0_1 l0_1.length c0_1, .int .i64 a0_2] 24 (0, 0)) (by (with_reducible repeat (first | refine blk_drewN ?_ _ | refine blk_drew ?_ | refine blk_alloc ?_ _)); exact BK304.out)) : gb341 ≠ gb304)); have n10_ := Aside0.mk ((by rw [hg]; exact Nat.ne_of_lt (blk_lt (g := gb311) (o := .cells #[.bool t308, .string t309, .int .i64 t310] 30 (0, 0)) (by (with_reducible repeat (first | refine blk_drewN ?_ _ | refine blk_drew ?_ | refine blk_alloc ?_ _)); exact BK311.out)) : gb311 ≠ gb341)); have n11_ := Aside0.mk ((by rw [hg]; exact Nat.ne_of_gt (blk_lt (g := gb311) (o := .cells #[.bool t308, .string t309, .int .i64 t310] 30 (0, 0)) (by (with_reducible repeat (first | refine blk_drewN ?_ _ | refine blk_drew ?_ | refine blk_alloc ?_ _)); exact BK311.out)) : gb341 ≠ gb311)); have n12_ := Aside0.mk ((by rw [hg]; exact Nat.ne_of_lt (blk_lt (g := gb315) (o := .cells #[.bool t312, .string t313, .int .i64 t314] 30 (0, 0)) (by (with_reducible repeat (first | refine blk_drewN ?_ _ | refine blk_drew ?_ | refine blk_alloc ?_ _)); exact BK315.out)) : gb315 ≠ gb341)); have n13_ := Aside0.mk ((by rw [hg]; exact Nat.ne_of_gt (blk_lt (g := gb315) (o := .cells #[.bool t312, .string t313, .int .i64 t314] 30 (0, 0)) (by (with_reducible repeat (first | refine blk_drewN ?_ _ | refine blk_drew ?_ | refine blk_alloc ?_ _)); exact BK315.out)) : gb341 ≠ gb315)); have n14_ := Aside0.mk ((by rw [hg]; exact Nat.ne_of_lt (blk_lt (g := gb322) (o := .cells #[.bool t319, .string t320, .int .i64 t321] 30 (0, 0)) (by (with_reducible repeat (first | refine blk_drewN ?_ _ | refine blk_drew ?_ | refine blk_alloc ?_ _)); exact BK322.out)) : gb322 ≠ gb341)); have n15_ := Aside0.mk ((by rw [hg]; exact Nat.ne_of_gt (blk_lt (g := gb322) (o := .cells #[.bool t319, .string t320, .int .i64 t321] 30 (0, 0)) (by (with_reducible repeat (first | refine blk_drewN ?_ _ | refine blk_drew ?_ | refine blk_alloc ?_ _)); exact BK322.out)) : gb341 ≠ gb322)); clear BK304; clear BK311; clear BK315; clear BK322; clear HB; have BK304 := n0_; have BK311 := n1_; have BK315 := n2_; have BK322 := n3_; have HB := n4_; have BK341 := n5_; have GW341 := n6_; have GE341 := n7_; have NB304_341 := n8_; have NB341_304 := n9_; have NB311_341 := n10_; have NB341_311 := n11_; have NB315_341 := n12_; have NB341_315 := n13_; have NB322_341 := n14_; have NB341_322 := n15_; clear n0_ n1_ n2_ n3_ n4_ n5_ n6_ n7_ n8_ n9_ n10_ n11_ n12_ n13_ n14_ n15_; clear hb hbox hg; have hnb136 := NB341_304.out; have hnc136 := NB304_341.out; have hnb137 := NB341_311.out; have hnc137 := NB311_341.out; have hnb138 := NB341_315.out; have hnc138 := NB315_341.out; have hnb139 := NB341_322.out; have hnc139 := NB322_341.out; have hcz140_0 : w135.cell? ⟨gb341, 0, none⟩ = some (.bool false) := bc_ BK341 0; have hcz140_1 : w135.cell? ⟨gb341, 1, none⟩ = some (.string (⟨#[]⟩ : ByteArray)) := bc_ BK341 1; have hcz140_2 : w135.cell? ⟨gb341, 2, none⟩ = some (.int .i64 0) := bc_ BK341 2; have hfz140_0 := blk_frozen BK341.out 0; have hfz140_1 := blk_frozen BK341.out 1; have hfz140_2 := blk_frozen BK341.out 2; have hcz141_0 : w135.cell? ⟨gb311, 0, none⟩ = some (.bool t308) := bc_ BK311 0; have hcz141_1 : w135.cell? ⟨gb311, 1, none⟩ = some (.string t309) := bc_ BK311 1; have hcz141_2 : w135.cell? ⟨gb311, 2, none⟩ = some (.int .i64 t310) := bc_ BK311 2; have hfz141_0 := blk_frozen BK311.out 0; have hfz141_1 := blk_frozen BK311.out 1; have hfz141_2 := blk_frozen BK311.out 2) | ((with_reducible refine gate_callee (f := 13) rfl ?_); refine goesL_ (some 58) rfl rfl Tryd.func13 (by kernel_rfl) rfl #[.agg #[.bool t308, .string t309, .int .i64 t310], .int .i64 (wrap64 ((Int.tmod a1 60) - (wrap64 (Int.tdiv (Int.tmod a1 60) 2)))), .int .i64 5] rfl (by (try simp only [List.map_toArray, List.map_cons, List.map_nil]); first | done | rfl | (simp only [List.length_drop, List.length_take]; rfl) | (have z_ : ∀ s_ : ByteArray, s_.size ≤ 9223372036854775807 → -(s_.size : Int) = wrap64 (-(s_.size : Int)) := (fun s_ h_ => by unfold wrap64; omega); rw [← z_ _ (by omega)]; rfl) | (simp only [ByteArray.size_append]; rfl)) ?_; (with_reducible refine (round_At.calls kj12 t308 t309 t310 (wrap64 ((Int.tmod a1 60) - (wrap64 (Int.tdiv (Int.tmod a1 60) 2)))) 5 t342 t343 t344 _ A63.out).mono ?_); rintro e w142 ⟨rfl, hb⟩; refine ⟨_, rfl, ?_⟩; have n0_ := Aside0.mk (blk_below (g := gb304) (o := .cells #[.bool a0_0, .slice A0_1 l0_1.length c0_1, .int .i64 a0_2] 24 (0, 0)) (by (with_reducible repeat (first | refine blk_drewN ?_ _ | refine blk_drew ?_ | refine blk_alloc ?_ _)); refine blk_far ?_ NB304_341.out _; (with_reducible repeat (first | refine blk_drewN ?_ _ | refine blk_drew ?_ | refine blk_alloc ?_ _)); refine blk_far ?_ NB304_341.out _; (with_reducible repeat (first | refine blk_drewN ?_ _ | refine blk_drew ?_ | refine blk_alloc ?_ _)); refine blk_far ?_ NB304_341.out _; (with_reducible repeat (first | refine blk_drewN ?_ _ | refine blk_drew ?_ | refine blk_alloc ?_ _)); exact BK304.out) hb); have n1_ := Aside0.mk (blk_below (g := gb311) (o := .cells #[.bool t308, .string t309, .int .i64 t310] 30 (0, 0)) (by (with_reducible repeat (first | refine blk_drewN ?_ _ | refine blk_drew ?_ | refine blk_alloc ?_ _)); refine blk_far ?_ NB311_341.out _; (with_reducible repeat (first | refine blk_drewN ?_ _ | refine blk_drew ?_ | refine blk_alloc ?_ _)); refine blk_far ?_ NB311_341.out _; (with_reducible repeat (first | refine blk_drewN ?_ _ | refine blk_drew ?_ | refine blk_alloc ?_ _)); refine blk_far ?_ NB311_341.out _; (with_reducible repeat (first | refine blk_drewN ?_ _ | refine blk_drew ?_ | refine blk_alloc ?_ _)); exact BK311.out) hb); have n2_ := Aside0.mk (blk_below (g := gb315) (o := .cells #[.bool t312, .string t313, .int .i64 t314] 30 (0, 0)) (by (with_reducible repeat (first | refine blk_drewN ?_ _ | refine blk_drew ?_ | refine blk_alloc ?_ _)); refine blk_far ?_ NB315_341.out _; (with_reducible repeat (first | refine blk_drewN ?_ _ | refine blk_drew ?_ | refine blk_alloc ?_ _)); refine blk_far ?_ NB315_341.out _; (with_reducible repeat (first | refine blk_drewN ?_ _ | refine blk_drew ?_ | refine blk_alloc ?_ _)); refine blk_far ?_ NB315_341.out _; (with_reducible repeat (first | refine blk_drewN ?_ _ | refine blk_drew ?_ | refine blk_alloc ?_ _)); exact BK315.out) hb); have n3_ := Aside0.mk (blk_below (g := gb322) (o := .cells #[.bool t319, .string t320, .int .i64 t321] 30 (0, 0)) (by (with_reducible repeat (first | refine blk_drewN ?_ _ | refine blk_drew ?_ | refine blk_alloc ?_ _)); refine blk_far ?_ NB322_341.out _; (with_reducible repeat (first | refine blk_drewN ?_ _ | refine blk_drew ?_ | refine blk_alloc ?_ _)); refine blk_far ?_ NB322_341.out _; (with_reducible repeat (first | refine blk_drewN ?_ _ | refine blk_drew ?_ | refine blk_alloc ?_ _)); refine blk_far ?_ NB322_341.out _; (with_reducible repeat (first | refine blk_drewN ?_ _ | refine blk_drew ?_ | refine blk_alloc ?_ _)); exact BK322.out) hb); have n4_ := Aside0.mk (blk_below (g := gb341) (o := .cells #[.bool t338, .string t339, .int .i64 t340] 30 (0, 0)) (by (with_reducible repeat (first | refine blk_drewN ?_ _ | refine blk_drew ?_ | refine blk_alloc ?_ _)); refine blk_put (cs := #[.bool t338, .string t339, .int .i64 0]) ?_ 2 _ rfl; (with_reducible repeat (first | refine blk_drewN ?_ _ | refine blk_drew ?_ | refine blk_alloc ?_ _)); refine blk_put (cs := #[.bool t338, .string (⟨#[]⟩ : ByteArray), .int .i64 0]) ?_ 1 _ rfl; (with_reducible repeat (first | refine blk_drewN ?_ _ | refine blk_drew ?_ | refine blk_alloc ?_ _)); refine blk_put (cs := #[.bool false, .string (⟨#[]⟩ : ByteArray), .int .i64 0]) ?_ 0 _ rfl; (with_reducible repeat (first | refine blk_drewN ?_ _ | refine blk_drew ?_ | refine blk_alloc ?_ _)); exact BK341.out) hb); have n5_ := Aside0.mk (below_step (bl_ HB).out hb); clear BK304; clear BK311; clear BK315; clear BK322; clear BK341; clear HB; have BK304 := n0_; have BK311 := n1_; have BK315 := n2_; have BK322 := n3_; have BK341 := n4_; have HB := n5_; clear n0_ n1_ n2_ n3_ n4_ n5_; (try clear hb); (try clear hb2); (try clear hk); (try clear hi)) | ((with_reducible refine gate_dst (N := 12) rfl ?_); refine box_event ?hg (N := 12) ?hd (cs := #[.bool false, .string (⟨#[]⟩ : ByteArray), .int .i64 0]) (t := 30) ?hr ?_; (case hd => rfl); (case hg => rfl); (case hr => first | (go_simp; done) | (go_simp; rfl)); intro gb345 hg w143 hbox hb; have n0_ := bb_ BK304 hb; have n1_ := bb_ BK311 hb; have n2_ := bb_ BK315 hb; have n3_ := bb_ BK322 hb; have n4_ := bb_ BK341 hb; have n5_ := Aside0.mk (below_step (bl_ HB).out hb); have n6_ := Aside0.mk (hbox); have n7_ := Aside0.mk ((by rw [hg]; exact (below_size (bl_ HB).out) : w.heap.size ≤ gb345)); have n8_ := Aside0.mk ((by rw [hg]; exact (below_size (bl_ HB).out) : w.heap.size ≤ gb345)); have n9_ := Aside0.mk ((by rw [hg]; exact Nat.ne_of_lt (blk_lt (g := gb304) (o := .cells #[.bool a0_0, .slice A0_1 l0_1.length c0_1, .int .i64 a0_2] 24 (0, 0)) (by (with_reducible repeat (first | refine blk_drewN ?_ _ | refine blk_drew ?_ | refine blk_alloc ?_ _)); exact BK304.out)) : gb304 ≠ gb345)); have n10_ := Aside0.mk ((by rw [hg]; exact Nat.ne_of_gt (blk_lt (g := gb304) (o := .cells #[.bool a0_0, .slice A0_1 l0_1.length c0_1, .int .i64 a0_2] 24 (0, 0)) (by (with_reducible repeat (first | refine blk_drewN ?_ _ | refine blk_drew ?_ | refine blk_alloc ?_ _)); exact BK304.out)) : gb345 ≠ gb304)); have n11_ := Aside0.mk ((by rw [hg]; exact Nat.ne_of_lt (blk_lt (g := gb311) (o := .cells #[.bool t308, .string t309, .int .i64 t310] 30 (0, 0)) (by (with_reducible repeat (first | refine blk_drewN ?_ _ | refine blk_drew ?_ | refine blk_alloc ?_ _)); exact BK311.out)) : gb311 ≠ gb345)); have n12_ := Aside0.mk ((by rw [hg]; exact Nat.ne_of_gt (blk_lt (g := gb311) (o := .cells #[.bool t308, .string t309, .int .i64 t310] 30 (0, 0)) (by (with_reducible repeat (first | refine blk_drewN ?_ _ | refine blk_drew ?_ | refine blk_alloc ?_ _)); exact BK311.out)) : gb345 ≠ gb311)); have n13_ := Aside0.mk ((by rw [hg]; exact Nat.ne_of_lt (blk_lt (g := gb315) (o := .cells #[.bool t312, .string t313, .int .i64 t314] 30 (0, 0)) (by (with_reducible repeat (first | refine blk_drewN ?_ _ | refine blk_drew ?_ | refine blk_alloc ?_ _)); exact BK315.out)) : gb315 ≠ gb345)); have n14_ := Aside0.mk ((by rw [hg]; exact Nat.ne_of_gt (blk_lt (g := gb315) (o := .cells #[.bool t312, .string t313, .int .i64 t314] 30 (0, 0)) (by (with_reducible repeat (first | refine blk_drewN ?_ _ | refine blk_drew ?_ | refine blk_alloc ?_ _)); exact BK315.out)) : gb345 ≠ gb315)); have n15_ := Aside0.mk ((by rw [hg]; exact Nat.ne_of_lt (blk_lt (g := gb322) (o := .cells #[.bool t319, .string t320, .int .i64 t321] 30 (0, 0)) (by (with_reducible repeat (first | refine blk_drewN ?_ _ | refine blk_drew ?_ | refine blk_alloc ?_ _)); exact BK322.out)) : gb322 ≠ gb345)); have n16_ := Aside0.mk ((by rw [hg]; exact Nat.ne_of_gt (blk_lt (g := gb322) (o := .cells #[.bool t319, .string t320, .int .i64 t321] 30 (0, 0)) (by (with_reducible repeat (first | refine blk_drewN ?_ _ | refine blk_drew ?_ | refine blk_alloc ?_ _)); exact BK322.out)) : gb345 ≠ gb322)); have n17_ := Aside0.mk ((by rw [hg]; exact Nat.ne_of_lt (blk_lt (g := gb341) (o := .cells #[.bool t338, .string t339, .int .i64 t340] 30 (0, 0)) (by (with_reducible repeat (first | refine blk_drewN ?_ _ | refine blk_drew ?_ | refine blk_alloc ?_ _)); exact BK341.out)) : gb341 ≠ gb345)); have n18_ := Aside0.mk ((by rw [hg]; exact Nat.ne_of_gt (blk_lt (g := gb341) (o := .cells #[.bool t338, .string t339, .int .i64 t340] 30 (0, 0)) (by (with_reducible repeat (first | refine blk_drewN ?_ _ | refine blk_drew ?_ | refine blk_alloc ?_ _)); exact BK341.out)) : gb345 ≠ gb341)); clear BK304; clear BK311; clear BK315; clear BK322; clear BK341; clear HB; have BK304 := n0_; have BK311 := n1_; have BK315 := n2_; have BK322 := n3_; have BK341 := n4_; have HB := n5_; have BK345 := n6_; have GW345 := n7_; have GE345 := n8_; have NB304_345 := n9_; have NB345_304 := n10_; have NB311_345 := n11_; have NB345_311 := n12_; have NB315_345 := n13_; have NB345_315 := n14_; have NB322_345 := n15_; have NB345_322 := n16_; have NB341_345 := n17_; have NB345_341 := n18_; clear n0_ n1_ n2_ n3_ n4_ n5_ n6_ n7_ n8_ n9_ n10_ n11_ n12_ n13_ n14_ n15_ n16_ n17_ n18_; clear hb hbox hg; have hnb144 := NB345_304.out; have hnc144 := NB304_345.out; have hnb145 := NB345_311.out; have hnc145 := NB311_345.out; have hnb146 := NB345_315.out; have hnc146 := NB315_345.out; have hnb147 := NB345_322.out; have hnc147 := NB322_345.out; have hnb148 := NB345_341.out; have hnc148 := NB341_345.out; have hcz149_0 : w143.cell? ⟨gb345, 0, none⟩ = some (.bool false) := bc_ BK345 0; have hcz149_1 : w143.cell? ⟨gb345, 1, none⟩ = some (.string (⟨#[]⟩ : ByteArray)) := bc_ BK345 1; have hcz149_2 : w143.cell? ⟨gb345, 2, none⟩ = some (.int .i64 0) := bc_ BK345 2; have hfz149_0 := blk_frozen BK345.out 0; have hfz149_1 := blk_frozen BK345.out 1; have hfz149_2 := blk_frozen BK345.out 2))
          have n0_ : Aside0 ((((w143.setCell ⟨gb345, 0, none⟩ (.bool t342)).setCell ⟨gb345, 1, none⟩ (.string t343)).setCell ⟨gb345, 2, none⟩ (.int .i64 t344)).heap[gb304]? = _) := bf_ BK304
          have n1_ : Aside0 ((((w143.setCell ⟨gb345, 0, none⟩ (.bool t342)).setCell ⟨gb345, 1, none⟩ (.string t343)).setCell ⟨gb345, 2, none⟩ (.int .i64 t344)).heap[gb311]? = _) := bf_ BK311
          have n2_ : Aside0 ((((w143.setCell ⟨gb345, 0, none⟩ (.bool t342)).setCell ⟨gb345, 1, none⟩ (.string t343)).setCell ⟨gb345, 2, none⟩ (.int .i64 t344)).heap[gb315]? = _) := bf_ BK315
          have n3_ : Aside0 ((((w143.setCell ⟨gb345, 0, none⟩ (.bool t342)).setCell ⟨gb345, 1, none⟩ (.string t343)).setCell ⟨gb345, 2, none⟩ (.int .i64 t344)).heap[gb322]? = _) := bf_ BK322
          have n4_ : Aside0 ((((w143.setCell ⟨gb345, 0, none⟩ (.bool t342)).setCell ⟨gb345, 1, none⟩ (.string t343)).setCell ⟨gb345, 2, none⟩ (.int .i64 t344)).heap[gb341]? = _) := bf_ BK341
          have n5_ : Aside0 ((((w143.setCell ⟨gb345, 0, none⟩ (.bool t342)).setCell ⟨gb345, 1, none⟩ (.string t343)).setCell ⟨gb345, 2, none⟩ (.int .i64 t344)).heap[gb345]? = some (.cells #[.bool t342, .string t343, .int .i64 t344] 30 (0, 0))) := ⟨by (with_reducible repeat (first | refine blk_drewN ?_ _ | refine blk_drew ?_ | refine blk_alloc ?_ _)); refine blk_put (cs := #[.bool t342, .string t343, .int .i64 0]) ?_ 2 _ rfl; (with_reducible repeat (first | refine blk_drewN ?_ _ | refine blk_drew ?_ | refine blk_alloc ?_ _)); refine blk_put (cs := #[.bool t342, .string (⟨#[]⟩ : ByteArray), .int .i64 0]) ?_ 1 _ rfl; (with_reducible repeat (first | refine blk_drewN ?_ _ | refine blk_drew ?_ | refine blk_alloc ?_ _)); refine blk_put (cs := #[.bool false, .string (⟨#[]⟩ : ByteArray), .int .i64 0]) ?_ 0 _ rfl; (with_reducible repeat (first | refine blk_drewN ?_ _ | refine blk_drew ?_ | refine blk_alloc ?_ _)); exact BK345.out⟩
          have n6_ : Aside0 (Below w.heap.size w (((w143.setCell ⟨gb345, 0, none⟩ (.bool t342)).setCell ⟨gb345, 1, none⟩ (.string t343)).setCell ⟨gb345, 2, none⟩ (.int .i64 t344))) := (bl_ HB)
          (try clear BK304)
          (try clear BK311)
          (try clear BK315)
          (try clear BK322)
          (try clear BK341)
          (try clear BK345)
          (try clear HB)
          generalize (((w143.setCell ⟨gb345, 0, none⟩ (.bool t342)).setCell ⟨gb345, 1, none⟩ (.string t343)).setCell ⟨gb345, 2, none⟩ (.int .i64 t344)) = w150 at n0_ n1_ n2_ n3_ n4_ n5_ n6_ ⊢
          have BK304 := n0_
          have BK311 := n1_
          have BK315 := n2_
          have BK322 := n3_
          have BK341 := n4_
          have BK345 := n5_
          have HB := n6_
          clear n0_ n1_ n2_ n3_ n4_ n5_ n6_
          replace BK304 := Aside0.mk (blk_drew BK304.out)
          replace BK311 := Aside0.mk (blk_drew BK311.out)
          replace BK315 := Aside0.mk (blk_drew BK315.out)
          replace BK322 := Aside0.mk (blk_drew BK322.out)
          replace BK341 := Aside0.mk (blk_drew BK341.out)
          replace BK345 := Aside0.mk (blk_drew BK345.out)
          replace HB := Aside0.mk (below_drew1 HB.out)
          refine start_ (n := 32) (S := fun w' => w'.cell? ⟨gb311, 0, none⟩ = some (.bool t308) ∧ w'.cell? ⟨gb311, 1, none⟩ = some (.string t309) ∧ w'.cell? ⟨gb311, 2, none⟩ = some (.int .i64 t310) ∧ w'.cell? ⟨gb315, 0, none⟩ = some (.bool t312) ∧ w'.cell? ⟨gb315, 1, none⟩ = some (.string t313) ∧ w'.cell? ⟨gb315, 2, none⟩ = some (.int .i64 t314) ∧ w'.cell? ⟨gb341, 0, none⟩ = some (.bool t338) ∧ w'.cell? ⟨gb341, 1, none⟩ = some (.string t339) ∧ w'.cell? ⟨gb341, 2, none⟩ = some (.int .i64 t340) ∧ w'.cell? ⟨gb345, 0, none⟩ = some (.bool t342) ∧ w'.cell? ⟨gb345, 1, none⟩ = some (.string t343) ∧ w'.cell? ⟨gb345, 2, none⟩ = some (.int .i64 t344)) (ds := []) #[false, false, false, false, false, false, false, false, false, false, false, false, false, false, false, false, false, false, false, false, false, false, false, false, false, false, false, false, false, false, false, false] (by kernel_rfl) rfl rfl ⟨bc_ BK311 0, bc_ BK311 1, bc_ BK311 2, bc_ BK315 0, bc_ BK315 1, bc_ BK315 2, bc_ BK341 0, bc_ BK341 1, bc_ BK341 2, bc_ BK345 0, bc_ BK345 1, bc_ BK345 2⟩ (fun hHeld => ?_); refine with_tabW florinlaw03_RoundSigns.tab14 florinlaw03_RoundSigns.bits14 (fun HT_ HW_ => ?_)
          generalize w150.drew = w151 at BK304 BK311 BK315 BK322 BK341 BK345 HB hHeld ⊢
          refine pu_ 2 61 (bm_ 32 4) HT_ ?_
          refine pu_ 3 62 (bm_ 32 12) HT_ ?_
          refine tk_ 0 59 (bm_ 32 13) HT_ HW_ hHeld rfl (by rintro w' ⟨s0, s1, s2, s3, s4, s5, s6, s7, s8, s9, s10, s11⟩; go_simp; with_reducible rfl) ?_
          refine tk_ 6 65 (bm_ 32 77) HT_ HW_ hHeld rfl (by rintro w' ⟨s0, s1, s2, s3, s4, s5, s6, s7, s8, s9, s10, s11⟩; go_simp; with_reducible rfl) ?_
          refine one_ (i := 1) (N := some 60) (bm_ 32 79) rfl rfl (one_of HT_.out (by kernel_rfl)) (by decide) (fun K hK => ?_)
          refine gs_ Tryd.func20 #[.agg #[.bool t308, .string t309, .int .i64 t310]] ?_
          with_reducible refine (dec_Dec_Minus.calls kj12 t308 t309 t310 t346 t347 t348 _ A64.out).mono ?_
          rintro e w152 ⟨rfl, hb⟩
          refine ⟨_, rfl, ?_⟩
          replace BK304 := bb_ BK304 hb
          replace BK311 := bb_ BK311 hb
          replace BK315 := bb_ BK315 hb
          replace BK322 := bb_ BK322 hb
          replace BK341 := bb_ BK341 hb
          replace BK345 := bb_ BK345 hb
          replace HB := Aside0.mk (below_step (bl_ HB).out hb)
          (try clear hb)
          (try clear hb2)
          (try clear hk)
          (try clear hi)
          refine hK.out _ _ ⟨bc_ BK311 0, bc_ BK311 1, bc_ BK311 2, bc_ BK315 0, bc_ BK315 1, bc_ BK315 2, bc_ BK341 0, bc_ BK341 1, bc_ BK341 2, bc_ BK345 0, bc_ BK345 1, bc_ BK345 2⟩ (fun hHeld => ?_)
          clear hK K
          refine nm_ 60 ?_
          refine one_ (i := 4) (N := some 63) (bm_ 32 95) rfl rfl (one_of HT_.out (by kernel_rfl)) (by decide) (fun K hK => ?_)
          refine gs_ Tryd.func21 #[.int .i64 t307] ?_
          with_reducible refine (florinlaw03_turned.calls t307 t349 _ A65.out).mono ?_
          rintro e w' ⟨rfl, ⟨nd, rfl⟩⟩
          refine ⟨_, rfl, ?_⟩
          refine hK.out _ _ ⟨bc_ BK311 0, bc_ BK311 1, bc_ BK311 2, bc_ BK315 0, bc_ BK315 1, bc_ BK315 2, bc_ BK341 0, bc_ BK341 1, bc_ BK341 2, bc_ BK345 0, bc_ BK345 1, bc_ BK345 2⟩ (fun hHeld => ?_)
          clear hK K
          refine nm_ 63 ?_
          refine one_ (i := 5) (N := some 64) (bm_ 32 127) rfl rfl (one_of HT_.out (by kernel_rfl)) (by decide) (fun K hK => ?_)
          refine gs_ Tryd.func13 #[.agg #[.bool t346, .string t347, .int .i64 t348], .int .i64 (wrap64 ((Int.tmod a1 60) - (wrap64 (Int.tdiv (Int.tmod a1 60) 2)))), .int .i64 t349] ?_
          with_reducible refine (round_At.calls kj12 t346 t347 t348 (wrap64 ((Int.tmod a1 60) - (wrap64 (Int.tdiv (Int.tmod a1 60) 2)))) t349 t350 t351 t352 _ A66.out).mono ?_
          rintro e w153 ⟨rfl, hb⟩
          refine ⟨_, rfl, ?_⟩
          replace BK304 := bb_ BK304 hb
          replace BK311 := bb_ BK311 hb
          replace BK315 := bb_ BK315 hb
          replace BK322 := bb_ BK322 hb
          replace BK341 := bb_ BK341 hb
          replace BK345 := bb_ BK345 hb
          replace HB := Aside0.mk (below_step (bl_ HB).out hb)
          (try clear hb)
          (try clear hb2)
          (try clear hk)
          (try clear hi)
          refine hK.out _ _ ⟨bc_ BK311 0, bc_ BK311 1, bc_ BK311 2, bc_ BK315 0, bc_ BK315 1, bc_ BK315 2, bc_ BK341 0, bc_ BK341 1, bc_ BK341 2, bc_ BK345 0, bc_ BK345 1, bc_ BK345 2⟩ (fun hHeld => ?_)
          clear hK K
          refine nm_ 64 ?_
          refine one_ (i := 7) (N := some 66) (bm_ 32 255) rfl rfl (one_of HT_.out (by kernel_rfl)) (by decide) (fun K hK => ?_)
          refine gs_ Tryd.func20 #[.agg #[.bool t312, .string t313, .int .i64 t314]] ?_
          with_reducible refine (dec_Dec_Minus.calls kj12 t312 t313 t314 t353 t354 t355 _ A67.out).mono ?_
          rintro e w154 ⟨rfl, hb⟩
          refine ⟨_, rfl, ?_⟩
          replace BK304 := bb_ BK304 hb
          replace BK311 := bb_ BK311 hb
          replace BK315 := bb_ BK315 hb
          replace BK322 := bb_ BK322 hb
          replace BK341 := bb_ BK341 hb
          replace BK345 := bb_ BK345 hb
          replace HB := Aside0.mk (below_step (bl_ HB).out hb)
          (try clear hb)
          (try clear hb2)
          (try clear hk)
          (try clear hi)
          refine hK.out _ _ ⟨bc_ BK311 0, bc_ BK311 1, bc_ BK311 2, bc_ BK315 0, bc_ BK315 1, bc_ BK315 2, bc_ BK341 0, bc_ BK341 1, bc_ BK341 2, bc_ BK345 0, bc_ BK345 1, bc_ BK345 2⟩ (fun hHeld => ?_)
          clear hK K
          refine nm_ 66 ?_
          refine pu_ 8 67 (bm_ 32 511) HT_ ?_
          refine pu_ 9 68 (bm_ 32 1023) HT_ ?_
          refine tk_ 10 69 (bm_ 32 2047) HT_ HW_ hHeld rfl (by rintro w' ⟨s0, s1, s2, s3, s4, s5, s6, s7, s8, s9, s10, s11⟩; go_simp; with_reducible rfl) ?_
          refine tk_ 11 70 (bm_ 32 4095) HT_ HW_ hHeld rfl (by rintro w' ⟨s0, s1, s2, s3, s4, s5, s6, s7, s8, s9, s10, s11⟩; go_simp; with_reducible rfl) ?_
          refine pu_ 12 71 (bm_ 32 8191) HT_ ?_
          refine pu_ 13 72 (bm_ 32 16383) HT_ ?_
          refine tk_ 14 73 (bm_ 32 32767) HT_ HW_ hHeld rfl (by rintro w' ⟨s0, s1, s2, s3, s4, s5, s6, s7, s8, s9, s10, s11⟩; go_simp; with_reducible rfl) ?_
          refine tk_ 15 74 (bm_ 32 65535) HT_ HW_ hHeld rfl (by rintro w' ⟨s0, s1, s2, s3, s4, s5, s6, s7, s8, s9, s10, s11⟩; go_simp; with_reducible rfl) ?_
          refine pu_ 16 75 (bm_ 32 131071) HT_ ?_
          refine pu_ 17 76 (bm_ 32 262143) HT_ ?_
          refine pu_ 18 77 (bm_ 32 524287) HT_ ?_
          refine pu_ 19 78 (bm_ 32 1048575) HT_ ?_
          refine tk_ 20 79 (bm_ 32 2097151) HT_ HW_ hHeld rfl (by rintro w' ⟨s0, s1, s2, s3, s4, s5, s6, s7, s8, s9, s10, s11⟩; go_simp; with_reducible rfl) ?_
          refine tk_ 21 80 (bm_ 32 4194303) HT_ HW_ hHeld rfl (by rintro w' ⟨s0, s1, s2, s3, s4, s5, s6, s7, s8, s9, s10, s11⟩; go_simp; with_reducible rfl) ?_
          refine one_ (i := 22) (N := some 81) (bm_ 32 8388607) rfl rfl (one_of HT_.out (by kernel_rfl)) (by decide) (fun K hK => ?_)
          refine gs_ Tryd.func17 #[.agg #[.bool t338, .string t339, .int .i64 t340], .agg #[.bool t308, .string t309, .int .i64 t310]] ?_
          with_reducible refine (dec_Cmp.calls kj12 t338 t339 t340 t308 t309 t310 t358 _ A127.out).mono ?_
          rintro e w155 ⟨rfl, hb⟩
          refine ⟨_, rfl, ?_⟩
          replace BK304 := bb_ BK304 hb
          replace BK311 := bb_ BK311 hb
          replace BK315 := bb_ BK315 hb
          replace BK322 := bb_ BK322 hb
          replace BK341 := bb_ BK341 hb
          replace BK345 := bb_ BK345 hb
          replace HB := Aside0.mk (below_step (bl_ HB).out hb)
          (try clear hb)
          (try clear hb2)
          (try clear hk)
          (try clear hi)
          refine hK.out _ _ ⟨bc_ BK311 0, bc_ BK311 1, bc_ BK311 2, bc_ BK315 0, bc_ BK315 1, bc_ BK315 2, bc_ BK341 0, bc_ BK341 1, bc_ BK341 2, bc_ BK345 0, bc_ BK345 1, bc_ BK345 2⟩ (fun hHeld => ?_)
          clear hK K
          refine nm_ 81 ?_
          refine pu_ 23 82 (bm_ 32 16777215) HT_ ?_
          refine pu_ 24 83 (bm_ 32 33554431) HT_ ?_
          refine pu_ 25 84 (bm_ 32 67108863) HT_ ?_
          refine tk_ 26 85 (bm_ 32 134217727) HT_ HW_ hHeld rfl (by rintro w' ⟨s0, s1, s2, s3, s4, s5, s6, s7, s8, s9, s10, s11⟩; go_simp; with_reducible rfl) ?_
          refine tk_ 27 86 (bm_ 32 268435455) HT_ HW_ hHeld rfl (by rintro w' ⟨s0, s1, s2, s3, s4, s5, s6, s7, s8, s9, s10, s11⟩; go_simp; with_reducible rfl) ?_
          refine one_ (i := 28) (N := some 87) (bm_ 32 536870911) rfl rfl (one_of HT_.out (by kernel_rfl)) (by decide) (fun K hK => ?_)
          refine gs_ Tryd.func17 #[.agg #[.bool t308, .string t309, .int .i64 t310], .agg #[.bool t342, .string t343, .int .i64 t344]] ?_
          with_reducible refine (dec_Cmp.calls kj12 t308 t309 t310 t342 t343 t344 t359 _ A129.out).mono ?_
          rintro e w156 ⟨rfl, hb⟩
          refine ⟨_, rfl, ?_⟩
          replace BK304 := bb_ BK304 hb
          replace BK311 := bb_ BK311 hb
          replace BK315 := bb_ BK315 hb
          replace BK322 := bb_ BK322 hb
          replace BK341 := bb_ BK341 hb
          replace BK345 := bb_ BK345 hb
          replace HB := Aside0.mk (below_step (bl_ HB).out hb)
          (try clear hb)
          (try clear hb2)
          (try clear hk)
          (try clear hi)
          refine hK.out _ _ ⟨bc_ BK311 0, bc_ BK311 1, bc_ BK311 2, bc_ BK315 0, bc_ BK315 1, bc_ BK315 2, bc_ BK341 0, bc_ BK341 1, bc_ BK341 2, bc_ BK345 0, bc_ BK345 1, bc_ BK345 2⟩ (fun hHeld => ?_)
          clear hK K
          refine nm_ 87 ?_
          refine pu_ 29 88 (bm_ 32 1073741823) HT_ ?_
          refine pu_ 30 89 (bm_ 32 2147483647) HT_ ?_
          refine pu_ 31 6 (bm_ 32 4294967295) HT_ ?_
          refine done_ (done_of HT_.out (by kernel_rfl)) ?_
          try go_wp2
          go_ret
          exact ⟨by first | rfl | (simp [errW_none, errW_some] <;> rfl) | (simp [*, errW_none, errW_some] <;> first | rfl | exact given_isEmpty _ | exact (given_isEmpty _).symm), by repeat (first | (with_reducible first | exact HB.out | apply below_alloc | apply pw_below_drewN | apply below_drew1 | refine below_set ?_ GE304.out | refine below_set ?_ GE311.out | refine below_set ?_ GE315.out | refine below_set ?_ GE322.out | refine below_set ?_ GE341.out | refine below_set ?_ GE345.out) | exact HB.out)⟩
         ·rw [if_neg c128] at H
          have c128b0 : decide (t358 ≤ 0) = false := decide_eq_false c128
          clear c128
          obtain rfl := Option.some.inj H
          have hnb157 := NB311_304.out
          have hnc157 := NB304_311.out
          have hnb158 := NB311_315.out
          have hnc158 := NB315_311.out
          have hnb159 := NB311_322.out
          have hnc159 := NB322_311.out
          have hcz160_0 : wc.cell? ⟨gb311, 0, none⟩ = some (.bool t308) := bc_ BK311 0
          have hcz160_1 : wc.cell? ⟨gb311, 1, none⟩ = some (.string t309) := bc_ BK311 1
          have hcz160_2 : wc.cell? ⟨gb311, 2, none⟩ = some (.int .i64 t310) := bc_ BK311 2
          have hfz160_0 := blk_frozen BK311.out 0
          have hfz160_1 := blk_frozen BK311.out 1
          have hfz160_2 := blk_frozen BK311.out 2
          try go_wp2_with (first | ((with_reducible refine gate_callee (f := 13) rfl ?_); refine goesL_ (some 55) rfl rfl Tryd.func13 (by kernel_rfl) rfl #[.agg #[.bool t308, .string t309, .int .i64 t310], .int .i64 (wrap64 ((Int.tmod a1 60) - (wrap64 (Int.tdiv (Int.tmod a1 60) 2)))), .int .i64 6] rfl (by (try simp only [List.map_toArray, List.map_cons, List.map_nil]); first | done | rfl | (simp only [List.length_drop, List.length_take]; rfl) | (have z_ : ∀ s_ : ByteArray, s_.size ≤ 9223372036854775807 → -(s_.size : Int) = wrap64 (-(s_.size : Int)) := (fun s_ h_ => by unfold wrap64; omega); rw [← z_ _ (by omega)]; rfl) | (simp only [ByteArray.size_append]; rfl)) ?_; (with_reducible refine (round_At.calls kj12 t308 t309 t310 (wrap64 ((Int.tmod a1 60) - (wrap64 (Int.tdiv (Int.tmod a1 60) 2)))) 6 t338 t339 t340 _ A62.out).mono ?_); rintro e w161 ⟨rfl, hb⟩; refine ⟨_, rfl, ?_⟩; have n0_ := bb_ BK304 hb; have n1_ := bb_ BK311 hb; have n2_ := bb_ BK315 hb; have n3_ := bb_ BK322 hb; have n4_ := Aside0.mk (below_step (bl_ HB).out hb); clear BK304; clear BK311; clear BK315; clear BK322; clear HB; have BK304 := n0_; have BK311 := n1_; have BK315 := n2_; have BK322 := n3_; have HB := n4_; clear n0_ n1_ n2_ n3_ n4_; (try clear hb); (try clear hb2); (try clear hk); (try clear hi)) | ((with_reducible refine gate_dst (N := 11) rfl ?_); refine box_event ?hg (N := 11) ?hd (cs := #[.bool false, .string (⟨#[]⟩ : ByteArray), .int .i64 0]) (t := 30) ?hr ?_; (case hd => rfl); (case hg => rfl); (case hr => first | (go_simp; done) | (go_simp; rfl)); intro gb341 hg w162 hbox hb; have n0_ := bb_ BK304 hb; have n1_ := bb_ BK311 hb; have n2_ := bb_ BK315 hb; have n3_ := bb_ BK322 hb; have n4_ := Aside0.mk (below_step (bl_ HB).out hb); have n5_ := Aside0.mk (hbox); have n6_ := Aside0.mk ((by rw [hg]; exact (below_size (bl_ HB).out) : w.heap.size ≤ gb341)); have n7_ := Aside0.mk ((by rw [hg]; exact (below_size (bl_ HB).out) : w.heap.size ≤ gb341)); have n8_ := Aside0.mk ((by rw [hg]; exact Nat.ne_of_lt (blk_lt (g := gb304) (o := .cells #[.bool a0_0, .slice A0_1 l0_1.length c0_1, .int .i64 a0_2] 24 (0, 0)) (by (with_reducible repeat (first | refine blk_drewN ?_ _ | refine blk_drew ?_ | refine blk_alloc ?_ _)); exact BK304.out)) : gb304 ≠ gb341)); have n9_ := Aside0.mk ((by rw [hg]; exact Nat.ne_of_gt (blk_lt (g := gb304) (o := .cells #[.bool a0_0, .slice A0_1 l0_1.length c0_1, .int .i64 a0_2] 24 (0, 0)) (by (with_reducible repeat (first | refine blk_drewN ?_ _ | refine blk_drew ?_ | refine blk_alloc ?_ _)); exact BK304.out)) : gb341 ≠ gb304)); have n10_ := Aside0.mk ((by rw [hg]; exact Nat.ne_of_lt (blk_lt (g := gb311) (o := .cells #[.bool t308, .string t309, .int .i64 t310] 30 (0, 0)) (by (with_reducible repeat (first | refine blk_drewN ?_ _ | refine blk_drew ?_ | refine blk_alloc ?_ _)); exact BK311.out)) : gb311 ≠ gb341)); have n11_ := Aside0.mk ((by rw [hg]; exact Nat.ne_of_gt (blk_lt (g := gb311) (o := .cells #[.bool t308, .string t309, .int .i64 t310] 30 (0, 0)) (by (with_reducible repeat (first | refine blk_drewN ?_ _ | refine blk_drew ?_ | refine blk_alloc ?_ _)); exact BK311.out)) : gb341 ≠ gb311)); have n12_ := Aside0.mk ((by rw [hg]; exact Nat.ne_of_lt (blk_lt (g := gb315) (o := .cells #[.bool t312, .string t313, .int .i64 t314] 30 (0, 0)) (by (with_reducible repeat (first | refine blk_drewN ?_ _ | refine blk_drew ?_ | refine blk_alloc ?_ _)); exact BK315.out)) : gb315 ≠ gb341)); have n13_ := Aside0.mk ((by rw [hg]; exact Nat.ne_of_gt (blk_lt (g := gb315) (o := .cells #[.bool t312, .string t313, .int .i64 t314] 30 (0, 0)) (by (with_reducible repeat (first | refine blk_drewN ?_ _ | refine blk_drew ?_ | refine blk_alloc ?_ _)); exact BK315.out)) : gb341 ≠ gb315)); have n14_ := Aside0.mk ((by rw [hg]; exact Nat.ne_of_lt (blk_lt (g := gb322) (o := .cells #[.bool t319, .string t320, .int .i64 t321] 30 (0, 0)) (by (with_reducible repeat (first | refine blk_drewN ?_ _ | refine blk_drew ?_ | refine blk_alloc ?_ _)); exact BK322.out)) : gb322 ≠ gb341)); have n15_ := Aside0.mk ((by rw [hg]; exact Nat.ne_of_gt (blk_lt (g := gb322) (o := .cells #[.bool t319, .string t320, .int .i64 t321] 30 (0, 0)) (by (with_reducible repeat (first | refine blk_drewN ?_ _ | refine blk_drew ?_ | refine blk_alloc ?_ _)); exact BK322.out)) : gb341 ≠ gb322)); clear BK304; clear BK311; clear BK315; clear BK322; clear HB; have BK304 := n0_; have BK311 := n1_; have BK315 := n2_; have BK322 := n3_; have HB := n4_; have BK341 := n5_; have GW341 := n6_; have GE341 := n7_; have NB304_341 := n8_; have NB341_304 := n9_; have NB311_341 := n10_; have NB341_311 := n11_; have NB315_341 := n12_; have NB341_315 := n13_; have NB322_341 := n14_; have NB341_322 := n15_; clear n0_ n1_ n2_ n3_ n4_ n5_ n6_ n7_ n8_ n9_ n10_ n11_ n12_ n13_ n14_ n15_; clear hb hbox hg; have hnb163 := NB341_304.out; have hnc163 := NB304_341.out; have hnb164 := NB341_311.out; have hnc164 := NB311_341.out; have hnb165 := NB341_315.out; have hnc165 := NB315_341.out; have hnb166 := NB341_322.out; have hnc166 := NB322_341.out; have hcz167_0 : w162.cell? ⟨gb341, 0, none⟩ = some (.bool false) := bc_ BK341 0; have hcz167_1 : w162.cell? ⟨gb341, 1, none⟩ = some (.string (⟨#[]⟩ : ByteArray)) := bc_ BK341 1; have hcz167_2 : w162.cell? ⟨gb341, 2, none⟩ = some (.int .i64 0) := bc_ BK341 2; have hfz167_0 := blk_frozen BK341.out 0; have hfz167_1 := blk_frozen BK341.out 1; have hfz167_2 := blk_frozen BK341.out 2; have hcz168_0 : w162.cell? ⟨gb311, 0, none⟩ = some (.bool t308) := bc_ BK311 0; have hcz168_1 : w162.cell? ⟨gb311, 1, none⟩ = some (.string t309) := bc_ BK311 1; have hcz168_2 : w162.cell? ⟨gb311, 2, none⟩ = some (.int .i64 t310) := bc_ BK311 2; have hfz168_0 := blk_frozen BK311.out 0; have hfz168_1 := blk_frozen BK311.out 1; have hfz168_2 := blk_frozen BK311.out 2) | ((with_reducible refine gate_callee (f := 13) rfl ?_); refine goesL_ (some 58) rfl rfl Tryd.func13 (by kernel_rfl) rfl #[.agg #[.bool t308, .string t309, .int .i64 t310], .int .i64 (wrap64 ((Int.tmod a1 60) - (wrap64 (Int.tdiv (Int.tmod a1 60) 2)))), .int .i64 5] rfl (by (try simp only [List.map_toArray, List.map_cons, List.map_nil]); first | done | rfl | (simp only [List.length_drop, List.length_take]; rfl) | (have z_ : ∀ s_ : ByteArray, s_.size ≤ 9223372036854775807 → -(s_.size : Int) = wrap64 (-(s_.size : Int)) := (fun s_ h_ => by unfold wrap64; omega); rw [← z_ _ (by omega)]; rfl) | (simp only [ByteArray.size_append]; rfl)) ?_; (with_reducible refine (round_At.calls kj12 t308 t309 t310 (wrap64 ((Int.tmod a1 60) - (wrap64 (Int.tdiv (Int.tmod a1 60) 2)))) 5 t342 t343 t344 _ A63.out).mono ?_); rintro e w169 ⟨rfl, hb⟩; refine ⟨_, rfl, ?_⟩; have n0_ := Aside0.mk (blk_below (g := gb304) (o := .cells #[.bool a0_0, .slice A0_1 l0_1.length c0_1, .int .i64 a0_2] 24 (0, 0)) (by (with_reducible repeat (first | refine blk_drewN ?_ _ | refine blk_drew ?_ | refine blk_alloc ?_ _)); refine blk_far ?_ NB304_341.out _; (with_reducible repeat (first | refine blk_drewN ?_ _ | refine blk_drew ?_ | refine blk_alloc ?_ _)); refine blk_far ?_ NB304_341.out _; (with_reducible repeat (first | refine blk_drewN ?_ _ | refine blk_drew ?_ | refine blk_alloc ?_ _)); refine blk_far ?_ NB304_341.out _; (with_reducible repeat (first | refine blk_drewN ?_ _ | refine blk_drew ?_ | refine blk_alloc ?_ _)); exact BK304.out) hb); have n1_ := Aside0.mk (blk_below (g := gb311) (o := .cells #[.bool t308, .string t309, .int .i64 t310] 30 (0, 0)) (by (with_reducible repeat (first | refine blk_drewN ?_ _ | refine blk_drew ?_ | refine blk_alloc ?_ _)); refine blk_far ?_ NB311_341.out _; (with_reducible repeat (first | refine blk_drewN ?_ _ | refine blk_drew ?_ | refine blk_alloc ?_ _)); refine blk_far ?_ NB311_341.out _; (with_reducible repeat (first | refine blk_drewN ?_ _ | refine blk_drew ?_ | refine blk_alloc ?_ _)); refine blk_far ?_ NB311_341.out _; (with_reducible repeat (first | refine blk_drewN ?_ _ | refine blk_drew ?_ | refine blk_alloc ?_ _)); exact BK311.out) hb); have n2_ := Aside0.mk (blk_below (g := gb315) (o := .cells #[.bool t312, .string t313, .int .i64 t314] 30 (0, 0)) (by (with_reducible repeat (first | refine blk_drewN ?_ _ | refine blk_drew ?_ | refine blk_alloc ?_ _)); refine blk_far ?_ NB315_341.out _; (with_reducible repeat (first | refine blk_drewN ?_ _ | refine blk_drew ?_ | refine blk_alloc ?_ _)); refine blk_far ?_ NB315_341.out _; (with_reducible repeat (first | refine blk_drewN ?_ _ | refine blk_drew ?_ | refine blk_alloc ?_ _)); refine blk_far ?_ NB315_341.out _; (with_reducible repeat (first | refine blk_drewN ?_ _ | refine blk_drew ?_ | refine blk_alloc ?_ _)); exact BK315.out) hb); have n3_ := Aside0.mk (blk_below (g := gb322) (o := .cells #[.bool t319, .string t320, .int .i64 t321] 30 (0, 0)) (by (with_reducible repeat (first | refine blk_drewN ?_ _ | refine blk_drew ?_ | refine blk_alloc ?_ _)); refine blk_far ?_ NB322_341.out _; (with_reducible repeat (first | refine blk_drewN ?_ _ | refine blk_drew ?_ | refine blk_alloc ?_ _)); refine blk_far ?_ NB322_341.out _; (with_reducible repeat (first | refine blk_drewN ?_ _ | refine blk_drew ?_ | refine blk_alloc ?_ _)); refine blk_far ?_ NB322_341.out _; (with_reducible repeat (first | refine blk_drewN ?_ _ | refine blk_drew ?_ | refine blk_alloc ?_ _)); exact BK322.out) hb); have n4_ := Aside0.mk (blk_below (g := gb341) (o := .cells #[.bool t338, .string t339, .int .i64 t340] 30 (0, 0)) (by (with_reducible repeat (first | refine blk_drewN ?_ _ | refine blk_drew ?_ | refine blk_alloc ?_ _)); refine blk_put (cs := #[.bool t338, .string t339, .int .i64 0]) ?_ 2 _ rfl; (with_reducible repeat (first | refine blk_drewN ?_ _ | refine blk_drew ?_ | refine blk_alloc ?_ _)); refine blk_put (cs := #[.bool t338, .string (⟨#[]⟩ : ByteArray), .int .i64 0]) ?_ 1 _ rfl; (with_reducible repeat (first | refine blk_drewN ?_ _ | refine blk_drew ?_ | refine blk_alloc ?_ _)); refine blk_put (cs := #[.bool false, .string (⟨#[]⟩ : ByteArray), .int .i64 0]) ?_ 0 _ rfl; (with_reducible repeat (first | refine blk_drewN ?_ _ | refine blk_drew ?_ | refine blk_alloc ?_ _)); exact BK341.out) hb); have n5_ := Aside0.mk (below_step (bl_ HB).out hb); clear BK304; clear BK311; clear BK315; clear BK322; clear BK341; clear HB; have BK304 := n0_; have BK311 := n1_; have BK315 := n2_; have BK322 := n3_; have BK341 := n4_; have HB := n5_; clear n0_ n1_ n2_ n3_ n4_ n5_; (try clear hb); (try clear hb2); (try clear hk); (try clear hi)) | ((with_reducible refine gate_dst (N := 12) rfl ?_); refine box_event ?hg (N := 12) ?hd (cs := #[.bool false, .string (⟨#[]⟩ : ByteArray), .int .i64 0]) (t := 30) ?hr ?_; (case hd => rfl); (case hg => rfl); (case hr => first | (go_simp; done) | (go_simp; rfl)); intro gb345 hg w170 hbox hb; have n0_ := bb_ BK304 hb; have n1_ := bb_ BK311 hb; have n2_ := bb_ BK315 hb; have n3_ := bb_ BK322 hb; have n4_ := bb_ BK341 hb; have n5_ := Aside0.mk (below_step (bl_ HB).out hb); have n6_ := Aside0.mk (hbox); have n7_ := Aside0.mk ((by rw [hg]; exact (below_size (bl_ HB).out) : w.heap.size ≤ gb345)); have n8_ := Aside0.mk ((by rw [hg]; exact (below_size (bl_ HB).out) : w.heap.size ≤ gb345)); have n9_ := Aside0.mk ((by rw [hg]; exact Nat.ne_of_lt (blk_lt (g := gb304) (o := .cells #[.bool a0_0, .slice A0_1 l0_1.length c0_1, .int .i64 a0_2] 24 (0, 0)) (by (with_reducible repeat (first | refine blk_drewN ?_ _ | refine blk_drew ?_ | refine blk_alloc ?_ _)); exact BK304.out)) : gb304 ≠ gb345)); have n10_ := Aside0.mk ((by rw [hg]; exact Nat.ne_of_gt (blk_lt (g := gb304) (o := .cells #[.bool a0_0, .slice A0_1 l0_1.length c0_1, .int .i64 a0_2] 24 (0, 0)) (by (with_reducible repeat (first | refine blk_drewN ?_ _ | refine blk_drew ?_ | refine blk_alloc ?_ _)); exact BK304.out)) : gb345 ≠ gb304)); have n11_ := Aside0.mk ((by rw [hg]; exact Nat.ne_of_lt (blk_lt (g := gb311) (o := .cells #[.bool t308, .string t309, .int .i64 t310] 30 (0, 0)) (by (with_reducible repeat (first | refine blk_drewN ?_ _ | refine blk_drew ?_ | refine blk_alloc ?_ _)); exact BK311.out)) : gb311 ≠ gb345)); have n12_ := Aside0.mk ((by rw [hg]; exact Nat.ne_of_gt (blk_lt (g := gb311) (o := .cells #[.bool t308, .string t309, .int .i64 t310] 30 (0, 0)) (by (with_reducible repeat (first | refine blk_drewN ?_ _ | refine blk_drew ?_ | refine blk_alloc ?_ _)); exact BK311.out)) : gb345 ≠ gb311)); have n13_ := Aside0.mk ((by rw [hg]; exact Nat.ne_of_lt (blk_lt (g := gb315) (o := .cells #[.bool t312, .string t313, .int .i64 t314] 30 (0, 0)) (by (with_reducible repeat (first | refine blk_drewN ?_ _ | refine blk_drew ?_ | refine blk_alloc ?_ _)); exact BK315.out)) : gb315 ≠ gb345)); have n14_ := Aside0.mk ((by rw [hg]; exact Nat.ne_of_gt (blk_lt (g := gb315) (o := .cells #[.bool t312, .string t313, .int .i64 t314] 30 (0, 0)) (by (with_reducible repeat (first | refine blk_drewN ?_ _ | refine blk_drew ?_ | refine blk_alloc ?_ _)); exact BK315.out)) : gb345 ≠ gb315)); have n15_ := Aside0.mk ((by rw [hg]; exact Nat.ne_of_lt (blk_lt (g := gb322) (o := .cells #[.bool t319, .string t320, .int .i64 t321] 30 (0, 0)) (by (with_reducible repeat (first | refine blk_drewN ?_ _ | refine blk_drew ?_ | refine blk_alloc ?_ _)); exact BK322.out)) : gb322 ≠ gb345)); have n16_ := Aside0.mk ((by rw [hg]; exact Nat.ne_of_gt (blk_lt (g := gb322) (o := .cells #[.bool t319, .string t320, .int .i64 t321] 30 (0, 0)) (by (with_reducible repeat (first | refine blk_drewN ?_ _ | refine blk_drew ?_ | refine blk_alloc ?_ _)); exact BK322.out)) : gb345 ≠ gb322)); have n17_ := Aside0.mk ((by rw [hg]; exact Nat.ne_of_lt (blk_lt (g := gb341) (o := .cells #[.bool t338, .string t339, .int .i64 t340] 30 (0, 0)) (by (with_reducible repeat (first | refine blk_drewN ?_ _ | refine blk_drew ?_ | refine blk_alloc ?_ _)); exact BK341.out)) : gb341 ≠ gb345)); have n18_ := Aside0.mk ((by rw [hg]; exact Nat.ne_of_gt (blk_lt (g := gb341) (o := .cells #[.bool t338, .string t339, .int .i64 t340] 30 (0, 0)) (by (with_reducible repeat (first | refine blk_drewN ?_ _ | refine blk_drew ?_ | refine blk_alloc ?_ _)); exact BK341.out)) : gb345 ≠ gb341)); clear BK304; clear BK311; clear BK315; clear BK322; clear BK341; clear HB; have BK304 := n0_; have BK311 := n1_; have BK315 := n2_; have BK322 := n3_; have BK341 := n4_; have HB := n5_; have BK345 := n6_; have GW345 := n7_; have GE345 := n8_; have NB304_345 := n9_; have NB345_304 := n10_; have NB311_345 := n11_; have NB345_311 := n12_; have NB315_345 := n13_; have NB345_315 := n14_; have NB322_345 := n15_; have NB345_322 := n16_; have NB341_345 := n17_; have NB345_341 := n18_; clear n0_ n1_ n2_ n3_ n4_ n5_ n6_ n7_ n8_ n9_ n10_ n11_ n12_ n13_ n14_ n15_ n16_ n17_ n18_; clear hb hbox hg; have hnb171 := NB345_304.out; have hnc171 := NB304_345.out; have hnb172 := NB345_311.out; have hnc172 := NB311_345.out; have hnb173 := NB345_315.out; have hnc173 := NB315_345.out; have hnb174 := NB345_322.out; have hnc174 := NB322_345.out; have hnb175 := NB345_341.out; have hnc175 := NB341_345.out; have hcz176_0 : w170.cell? ⟨gb345, 0, none⟩ = some (.bool false) := bc_ BK345 0; have hcz176_1 : w170.cell? ⟨gb345, 1, none⟩ = some (.string (⟨#[]⟩ : ByteArray)) := bc_ BK345 1; have hcz176_2 : w170.cell? ⟨gb345, 2, none⟩ = some (.int .i64 0) := bc_ BK345 2; have hfz176_0 := blk_frozen BK345.out 0; have hfz176_1 := blk_frozen BK345.out 1; have hfz176_2 := blk_frozen BK345.out 2))
          have n0_ : Aside0 ((((w170.setCell ⟨gb345, 0, none⟩ (.bool t342)).setCell ⟨gb345, 1, none⟩ (.string t343)).setCell ⟨gb345, 2, none⟩ (.int .i64 t344)).heap[gb304]? = _) := bf_ BK304
          have n1_ : Aside0 ((((w170.setCell ⟨gb345, 0, none⟩ (.bool t342)).setCell ⟨gb345, 1, none⟩ (.string t343)).setCell ⟨gb345, 2, none⟩ (.int .i64 t344)).heap[gb311]? = _) := bf_ BK311
          have n2_ : Aside0 ((((w170.setCell ⟨gb345, 0, none⟩ (.bool t342)).setCell ⟨gb345, 1, none⟩ (.string t343)).setCell ⟨gb345, 2, none⟩ (.int .i64 t344)).heap[gb315]? = _) := bf_ BK315
          have n3_ : Aside0 ((((w170.setCell ⟨gb345, 0, none⟩ (.bool t342)).setCell ⟨gb345, 1, none⟩ (.string t343)).setCell ⟨gb345, 2, none⟩ (.int .i64 t344)).heap[gb322]? = _) := bf_ BK322
          have n4_ : Aside0 ((((w170.setCell ⟨gb345, 0, none⟩ (.bool t342)).setCell ⟨gb345, 1, none⟩ (.string t343)).setCell ⟨gb345, 2, none⟩ (.int .i64 t344)).heap[gb341]? = _) := bf_ BK341
          have n5_ : Aside0 ((((w170.setCell ⟨gb345, 0, none⟩ (.bool t342)).setCell ⟨gb345, 1, none⟩ (.string t343)).setCell ⟨gb345, 2, none⟩ (.int .i64 t344)).heap[gb345]? = some (.cells #[.bool t342, .string t343, .int .i64 t344] 30 (0, 0))) := ⟨by (with_reducible repeat (first | refine blk_drewN ?_ _ | refine blk_drew ?_ | refine blk_alloc ?_ _)); refine blk_put (cs := #[.bool t342, .string t343, .int .i64 0]) ?_ 2 _ rfl; (with_reducible repeat (first | refine blk_drewN ?_ _ | refine blk_drew ?_ | refine blk_alloc ?_ _)); refine blk_put (cs := #[.bool t342, .string (⟨#[]⟩ : ByteArray), .int .i64 0]) ?_ 1 _ rfl; (with_reducible repeat (first | refine blk_drewN ?_ _ | refine blk_drew ?_ | refine blk_alloc ?_ _)); refine blk_put (cs := #[.bool false, .string (⟨#[]⟩ : ByteArray), .int .i64 0]) ?_ 0 _ rfl; (with_reducible repeat (first | refine blk_drewN ?_ _ | refine blk_drew ?_ | refine blk_alloc ?_ _)); exact BK345.out⟩
          have n6_ : Aside0 (Below w.heap.size w (((w170.setCell ⟨gb345, 0, none⟩ (.bool t342)).setCell ⟨gb345, 1, none⟩ (.string t343)).setCell ⟨gb345, 2, none⟩ (.int .i64 t344))) := (bl_ HB)
          (try clear BK304)
          (try clear BK311)
          (try clear BK315)
          (try clear BK322)
          (try clear BK341)
          (try clear BK345)
          (try clear HB)
          generalize (((w170.setCell ⟨gb345, 0, none⟩ (.bool t342)).setCell ⟨gb345, 1, none⟩ (.string t343)).setCell ⟨gb345, 2, none⟩ (.int .i64 t344)) = w177 at n0_ n1_ n2_ n3_ n4_ n5_ n6_ ⊢
          have BK304 := n0_
          have BK311 := n1_
          have BK315 := n2_
          have BK322 := n3_
          have BK341 := n4_
          have BK345 := n5_
          have HB := n6_
          clear n0_ n1_ n2_ n3_ n4_ n5_ n6_
          replace BK304 := Aside0.mk (blk_drew BK304.out)
          replace BK311 := Aside0.mk (blk_drew BK311.out)
          replace BK315 := Aside0.mk (blk_drew BK315.out)
          replace BK322 := Aside0.mk (blk_drew BK322.out)
          replace BK341 := Aside0.mk (blk_drew BK341.out)
          replace BK345 := Aside0.mk (blk_drew BK345.out)
          replace HB := Aside0.mk (below_drew1 HB.out)
          refine start_ (n := 32) (S := fun w' => w'.cell? ⟨gb311, 0, none⟩ = some (.bool t308) ∧ w'.cell? ⟨gb311, 1, none⟩ = some (.string t309) ∧ w'.cell? ⟨gb311, 2, none⟩ = some (.int .i64 t310) ∧ w'.cell? ⟨gb315, 0, none⟩ = some (.bool t312) ∧ w'.cell? ⟨gb315, 1, none⟩ = some (.string t313) ∧ w'.cell? ⟨gb315, 2, none⟩ = some (.int .i64 t314) ∧ w'.cell? ⟨gb341, 0, none⟩ = some (.bool t338) ∧ w'.cell? ⟨gb341, 1, none⟩ = some (.string t339) ∧ w'.cell? ⟨gb341, 2, none⟩ = some (.int .i64 t340) ∧ w'.cell? ⟨gb345, 0, none⟩ = some (.bool t342) ∧ w'.cell? ⟨gb345, 1, none⟩ = some (.string t343) ∧ w'.cell? ⟨gb345, 2, none⟩ = some (.int .i64 t344)) (ds := []) #[false, false, false, false, false, false, false, false, false, false, false, false, false, false, false, false, false, false, false, false, false, false, false, false, false, false, false, false, false, false, false, false] (by kernel_rfl) rfl rfl ⟨bc_ BK311 0, bc_ BK311 1, bc_ BK311 2, bc_ BK315 0, bc_ BK315 1, bc_ BK315 2, bc_ BK341 0, bc_ BK341 1, bc_ BK341 2, bc_ BK345 0, bc_ BK345 1, bc_ BK345 2⟩ (fun hHeld => ?_); refine with_tabW florinlaw03_RoundSigns.tab14 florinlaw03_RoundSigns.bits14 (fun HT_ HW_ => ?_)
          generalize w177.drew = w178 at BK304 BK311 BK315 BK322 BK341 BK345 HB hHeld ⊢
          refine pu_ 2 61 (bm_ 32 4) HT_ ?_
          refine pu_ 3 62 (bm_ 32 12) HT_ ?_
          refine tk_ 0 59 (bm_ 32 13) HT_ HW_ hHeld rfl (by rintro w' ⟨s0, s1, s2, s3, s4, s5, s6, s7, s8, s9, s10, s11⟩; go_simp; with_reducible rfl) ?_
          refine tk_ 6 65 (bm_ 32 77) HT_ HW_ hHeld rfl (by rintro w' ⟨s0, s1, s2, s3, s4, s5, s6, s7, s8, s9, s10, s11⟩; go_simp; with_reducible rfl) ?_
          refine one_ (i := 1) (N := some 60) (bm_ 32 79) rfl rfl (one_of HT_.out (by kernel_rfl)) (by decide) (fun K hK => ?_)
          refine gs_ Tryd.func20 #[.agg #[.bool t308, .string t309, .int .i64 t310]] ?_
          with_reducible refine (dec_Dec_Minus.calls kj12 t308 t309 t310 t346 t347 t348 _ A64.out).mono ?_
          rintro e w179 ⟨rfl, hb⟩
          refine ⟨_, rfl, ?_⟩
          replace BK304 := bb_ BK304 hb
          replace BK311 := bb_ BK311 hb
          replace BK315 := bb_ BK315 hb
          replace BK322 := bb_ BK322 hb
          replace BK341 := bb_ BK341 hb
          replace BK345 := bb_ BK345 hb
          replace HB := Aside0.mk (below_step (bl_ HB).out hb)
          (try clear hb)
          (try clear hb2)
          (try clear hk)
          (try clear hi)
          refine hK.out _ _ ⟨bc_ BK311 0, bc_ BK311 1, bc_ BK311 2, bc_ BK315 0, bc_ BK315 1, bc_ BK315 2, bc_ BK341 0, bc_ BK341 1, bc_ BK341 2, bc_ BK345 0, bc_ BK345 1, bc_ BK345 2⟩ (fun hHeld => ?_)
          clear hK K
          refine nm_ 60 ?_
          refine one_ (i := 4) (N := some 63) (bm_ 32 95) rfl rfl (one_of HT_.out (by kernel_rfl)) (by decide) (fun K hK => ?_)
          refine gs_ Tryd.func21 #[.int .i64 t307] ?_
          with_reducible refine (florinlaw03_turned.calls t307 t349 _ A65.out).mono ?_
          rintro e w' ⟨rfl, ⟨nd, rfl⟩⟩
          refine ⟨_, rfl, ?_⟩
          refine hK.out _ _ ⟨bc_ BK311 0, bc_ BK311 1, bc_ BK311 2, bc_ BK315 0, bc_ BK315 1, bc_ BK315 2, bc_ BK341 0, bc_ BK341 1, bc_ BK341 2, bc_ BK345 0, bc_ BK345 1, bc_ BK345 2⟩ (fun hHeld => ?_)
          clear hK K
          refine nm_ 63 ?_
          refine one_ (i := 5) (N := some 64) (bm_ 32 127) rfl rfl (one_of HT_.out (by kernel_rfl)) (by decide) (fun K hK => ?_)
          refine gs_ Tryd.func13 #[.agg #[.bool t346, .string t347, .int .i64 t348], .int .i64 (wrap64 ((Int.tmod a1 60) - (wrap64 (Int.tdiv (Int.tmod a1 60) 2)))), .int .i64 t349] ?_
          with_reducible refine (round_At.calls kj12 t346 t347 t348 (wrap64 ((Int.tmod a1 60) - (wrap64 (Int.tdiv (Int.tmod a1 60) 2)))) t349 t350 t351 t352 _ A66.out).mono ?_
          rintro e w180 ⟨rfl, hb⟩
          refine ⟨_, rfl, ?_⟩
          replace BK304 := bb_ BK304 hb
          replace BK311 := bb_ BK311 hb
          replace BK315 := bb_ BK315 hb
          replace BK322 := bb_ BK322 hb
          replace BK341 := bb_ BK341 hb
          replace BK345 := bb_ BK345 hb
          replace HB := Aside0.mk (below_step (bl_ HB).out hb)
          (try clear hb)
          (try clear hb2)
          (try clear hk)
          (try clear hi)
          refine hK.out _ _ ⟨bc_ BK311 0, bc_ BK311 1, bc_ BK311 2, bc_ BK315 0, bc_ BK315 1, bc_ BK315 2, bc_ BK341 0, bc_ BK341 1, bc_ BK341 2, bc_ BK345 0, bc_ BK345 1, bc_ BK345 2⟩ (fun hHeld => ?_)
          clear hK K
          refine nm_ 64 ?_
          refine one_ (i := 7) (N := some 66) (bm_ 32 255) rfl rfl (one_of HT_.out (by kernel_rfl)) (by decide) (fun K hK => ?_)
          refine gs_ Tryd.func20 #[.agg #[.bool t312, .string t313, .int .i64 t314]] ?_
          with_reducible refine (dec_Dec_Minus.calls kj12 t312 t313 t314 t353 t354 t355 _ A67.out).mono ?_
          rintro e w181 ⟨rfl, hb⟩
          refine ⟨_, rfl, ?_⟩
          replace BK304 := bb_ BK304 hb
          replace BK311 := bb_ BK311 hb
          replace BK315 := bb_ BK315 hb
          replace BK322 := bb_ BK322 hb
          replace BK341 := bb_ BK341 hb
          replace BK345 := bb_ BK345 hb
          replace HB := Aside0.mk (below_step (bl_ HB).out hb)
          (try clear hb)
          (try clear hb2)
          (try clear hk)
          (try clear hi)
          refine hK.out _ _ ⟨bc_ BK311 0, bc_ BK311 1, bc_ BK311 2, bc_ BK315 0, bc_ BK315 1, bc_ BK315 2, bc_ BK341 0, bc_ BK341 1, bc_ BK341 2, bc_ BK345 0, bc_ BK345 1, bc_ BK345 2⟩ (fun hHeld => ?_)
          clear hK K
          refine nm_ 66 ?_
          refine pu_ 8 67 (bm_ 32 511) HT_ ?_
          refine pu_ 9 68 (bm_ 32 1023) HT_ ?_
          refine tk_ 10 69 (bm_ 32 2047) HT_ HW_ hHeld rfl (by rintro w' ⟨s0, s1, s2, s3, s4, s5, s6, s7, s8, s9, s10, s11⟩; go_simp; with_reducible rfl) ?_
          refine tk_ 11 70 (bm_ 32 4095) HT_ HW_ hHeld rfl (by rintro w' ⟨s0, s1, s2, s3, s4, s5, s6, s7, s8, s9, s10, s11⟩; go_simp; with_reducible rfl) ?_
          refine pu_ 12 71 (bm_ 32 8191) HT_ ?_
          refine pu_ 13 72 (bm_ 32 16383) HT_ ?_
          refine tk_ 14 73 (bm_ 32 32767) HT_ HW_ hHeld rfl (by rintro w' ⟨s0, s1, s2, s3, s4, s5, s6, s7, s8, s9, s10, s11⟩; go_simp; with_reducible rfl) ?_
          refine tk_ 15 74 (bm_ 32 65535) HT_ HW_ hHeld rfl (by rintro w' ⟨s0, s1, s2, s3, s4, s5, s6, s7, s8, s9, s10, s11⟩; go_simp; with_reducible rfl) ?_
          refine pu_ 16 75 (bm_ 32 131071) HT_ ?_
          refine pu_ 17 76 (bm_ 32 262143) HT_ ?_
          refine pu_ 18 77 (bm_ 32 524287) HT_ ?_
          refine pu_ 19 78 (bm_ 32 1048575) HT_ ?_
          refine tk_ 20 79 (bm_ 32 2097151) HT_ HW_ hHeld rfl (by rintro w' ⟨s0, s1, s2, s3, s4, s5, s6, s7, s8, s9, s10, s11⟩; go_simp; with_reducible rfl) ?_
          refine tk_ 21 80 (bm_ 32 4194303) HT_ HW_ hHeld rfl (by rintro w' ⟨s0, s1, s2, s3, s4, s5, s6, s7, s8, s9, s10, s11⟩; go_simp; with_reducible rfl) ?_
          refine one_ (i := 22) (N := some 81) (bm_ 32 8388607) rfl rfl (one_of HT_.out (by kernel_rfl)) (by decide) (fun K hK => ?_)
          refine gs_ Tryd.func17 #[.agg #[.bool t338, .string t339, .int .i64 t340], .agg #[.bool t308, .string t309, .int .i64 t310]] ?_
          with_reducible refine (dec_Cmp.calls kj12 t338 t339 t340 t308 t309 t310 t358 _ A127.out).mono ?_
          rintro e w182 ⟨rfl, hb⟩
          refine ⟨_, rfl, ?_⟩
          replace BK304 := bb_ BK304 hb
          replace BK311 := bb_ BK311 hb
          replace BK315 := bb_ BK315 hb
          replace BK322 := bb_ BK322 hb
          replace BK341 := bb_ BK341 hb
          replace BK345 := bb_ BK345 hb
          replace HB := Aside0.mk (below_step (bl_ HB).out hb)
          (try clear hb)
          (try clear hb2)
          (try clear hk)
          (try clear hi)
          refine hK.out _ _ ⟨bc_ BK311 0, bc_ BK311 1, bc_ BK311 2, bc_ BK315 0, bc_ BK315 1, bc_ BK315 2, bc_ BK341 0, bc_ BK341 1, bc_ BK341 2, bc_ BK345 0, bc_ BK345 1, bc_ BK345 2⟩ (fun hHeld => ?_)
          clear hK K
          refine nm_ 81 ?_
          refine pu_ 23 82 (bm_ 32 16777215) HT_ ?_
          refine pu_ 24 83 (bm_ 32 33554431) HT_ ?_
          refine pu_ 25 84 (bm_ 32 67108863) HT_ ?_
          refine pn_ 26 85 (bm_ 32 134217727) HT_ ?_
          refine pn_ 27 86 (bm_ 32 268435455) HT_ ?_
          refine pn_ 28 87 (bm_ 32 536870911) HT_ ?_
          refine pn_ 29 88 (bm_ 32 1073741823) HT_ ?_
          refine pu_ 30 89 (bm_ 32 2147483647) HT_ ?_
          refine pu_ 31 6 (bm_ 32 4294967295) HT_ ?_
          refine done_ (done_of HT_.out (by kernel_rfl)) ?_
          try go_wp2
          go_ret
          exact ⟨by first | rfl | (simp [errW_none, errW_some] <;> rfl) | (simp [*, errW_none, errW_some] <;> first | rfl | exact given_isEmpty _ | exact (given_isEmpty _).symm), by repeat (first | (with_reducible first | exact HB.out | apply below_alloc | apply pw_below_drewN | apply below_drew1 | refine below_set ?_ GE304.out | refine below_set ?_ GE311.out | refine below_set ?_ GE315.out | refine below_set ?_ GE322.out | refine below_set ?_ GE341.out | refine below_set ?_ GE345.out) | exact HB.out)⟩
        ·rw [if_neg c126] at H
         have c126b0 : (t312 == t342 && (t313.toList == t343.toList && (t314 == t344))) = false := by simpa using c126
         (try (have c126b1 : decide (t312 = t342 && (t313.toList == t343.toList && (t314 == t344))) = false := by simpa using c126))
         (try (have c126b2 : (t312 == t342 && (t313.toList == t343.toList && (t314 == t344))) = false := by simpa using c126))
         (try (have c126b3 : ¬ (t312 = t342 && (t313.toList == t343.toList && (t314 == t344))) := by simpa using c126))
         clear c126
         obtain rfl := Option.some.inj H
         have hnb183 := NB311_304.out
         have hnc183 := NB304_311.out
         have hnb184 := NB311_315.out
         have hnc184 := NB315_311.out
         have hnb185 := NB311_322.out
         have hnc185 := NB322_311.out
         have hcz186_0 : wc.cell? ⟨gb311, 0, none⟩ = some (.bool t308) := bc_ BK311 0
         have hcz186_1 : wc.cell? ⟨gb311, 1, none⟩ = some (.string t309) := bc_ BK311 1
         have hcz186_2 : wc.cell? ⟨gb311, 2, none⟩ = some (.int .i64 t310) := bc_ BK311 2
         have hfz186_0 := blk_frozen BK311.out 0
         have hfz186_1 := blk_frozen BK311.out 1
         have hfz186_2 := blk_frozen BK311.out 2
         try go_wp2_with (first | ((with_reducible refine gate_callee (f := 13) rfl ?_); refine goesL_ (some 55) rfl rfl Tryd.func13 (by kernel_rfl) rfl #[.agg #[.bool t308, .string t309, .int .i64 t310], .int .i64 (wrap64 ((Int.tmod a1 60) - (wrap64 (Int.tdiv (Int.tmod a1 60) 2)))), .int .i64 6] rfl (by (try simp only [List.map_toArray, List.map_cons, List.map_nil]); first | done | rfl | (simp only [List.length_drop, List.length_take]; rfl) | (have z_ : ∀ s_ : ByteArray, s_.size ≤ 9223372036854775807 → -(s_.size : Int) = wrap64 (-(s_.size : Int)) := (fun s_ h_ => by unfold wrap64; omega); rw [← z_ _ (by omega)]; rfl) | (simp only [ByteArray.size_append]; rfl)) ?_; (with_reducible refine (round_At.calls kj12 t308 t309 t310 (wrap64 ((Int.tmod a1 60) - (wrap64 (Int.tdiv (Int.tmod a1 60) 2)))) 6 t338 t339 t340 _ A62.out).mono ?_); rintro e w187 ⟨rfl, hb⟩; refine ⟨_, rfl, ?_⟩; have n0_ := bb_ BK304 hb; have n1_ := bb_ BK311 hb; have n2_ := bb_ BK315 hb; have n3_ := bb_ BK322 hb; have n4_ := Aside0.mk (below_step (bl_ HB).out hb); clear BK304; clear BK311; clear BK315; clear BK322; clear HB; have BK304 := n0_; have BK311 := n1_; have BK315 := n2_; have BK322 := n3_; have HB := n4_; clear n0_ n1_ n2_ n3_ n4_; (try clear hb); (try clear hb2); (try clear hk); (try clear hi)) | ((with_reducible refine gate_dst (N := 11) rfl ?_); refine box_event ?hg (N := 11) ?hd (cs := #[.bool false, .string (⟨#[]⟩ : ByteArray), .int .i64 0]) (t := 30) ?hr ?_; (case hd => rfl); (case hg => rfl); (case hr => first | (go_simp; done) | (go_simp; rfl)); intro gb341 hg w188 hbox hb; have n0_ := bb_ BK304 hb; have n1_ := bb_ BK311 hb; have n2_ := bb_ BK315 hb; have n3_ := bb_ BK322 hb; have n4_ := Aside0.mk (below_step (bl_ HB).out hb); have n5_ := Aside0.mk (hbox); have n6_ := Aside0.mk ((by rw [hg]; exact (below_size (bl_ HB).out) : w.heap.size ≤ gb341)); have n7_ := Aside0.mk ((by rw [hg]; exact (below_size (bl_ HB).out) : w.heap.size ≤ gb341)); have n8_ := Aside0.mk ((by rw [hg]; exact Nat.ne_of_lt (blk_lt (g := gb304) (o := .cells #[.bool a0_0, .slice A0_1 l0_1.length c0_1, .int .i64 a0_2] 24 (0, 0)) (by (with_reducible repeat (first | refine blk_drewN ?_ _ | refine blk_drew ?_ | refine blk_alloc ?_ _)); exact BK304.out)) : gb304 ≠ gb341)); have n9_ := Aside0.mk ((by rw [hg]; exact Nat.ne_of_gt (blk_lt (g := gb304) (o := .cells #[.bool a0_0, .slice A0_1 l0_1.length c0_1, .int .i64 a0_2] 24 (0, 0)) (by (with_reducible repeat (first | refine blk_drewN ?_ _ | refine blk_drew ?_ | refine blk_alloc ?_ _)); exact BK304.out)) : gb341 ≠ gb304)); have n10_ := Aside0.mk ((by rw [hg]; exact Nat.ne_of_lt (blk_lt (g := gb311) (o := .cells #[.bool t308, .string t309, .int .i64 t310] 30 (0, 0)) (by (with_reducible repeat (first | refine blk_drewN ?_ _ | refine blk_drew ?_ | refine blk_alloc ?_ _)); exact BK311.out)) : gb311 ≠ gb341)); have n11_ := Aside0.mk ((by rw [hg]; exact Nat.ne_of_gt (blk_lt (g := gb311) (o := .cells #[.bool t308, .string t309, .int .i64 t310] 30 (0, 0)) (by (with_reducible repeat (first | refine blk_drewN ?_ _ | refine blk_drew ?_ | refine blk_alloc ?_ _)); exact BK311.out)) : gb341 ≠ gb311)); have n12_ := Aside0.mk ((by rw [hg]; exact Nat.ne_of_lt (blk_lt (g := gb315) (o := .cells #[.bool t312, .string t313, .int .i64 t314] 30 (0, 0)) (by (with_reducible repeat (first | refine blk_drewN ?_ _ | refine blk_drew ?_ | refine blk_alloc ?_ _)); exact BK315.out)) : gb315 ≠ gb341)); have n13_ := Aside0.mk ((by rw [hg]; exact Nat.ne_of_gt (blk_lt (g := gb315) (o := .cells #[.bool t312, .string t313, .int .i64 t314] 30 (0, 0)) (by (with_reducible repeat (first | refine blk_drewN ?_ _ | refine blk_drew ?_ | refine blk_alloc ?_ _)); exact BK315.out)) : gb341 ≠ gb315)); have n14_ := Aside0.mk ((by rw [hg]; exact Nat.ne_of_lt (blk_lt (g := gb322) (o := .cells #[.bool t319, .string t320, .int .i64 t321] 30 (0, 0)) (by (with_reducible repeat (first | refine blk_drewN ?_ _ | refine blk_drew ?_ | refine blk_alloc ?_ _)); exact BK322.out)) : gb322 ≠ gb341)); have n15_ := Aside0.mk ((by rw [hg]; exact Nat.ne_of_gt (blk_lt (g := gb322) (o := .cells #[.bool t319, .string t320, .int .i64 t321] 30 (0, 0)) (by (with_reducible repeat (first | refine blk_drewN ?_ _ | refine blk_drew ?_ | refine blk_alloc ?_ _)); exact BK322.out)) : gb341 ≠ gb322)); clear BK304; clear BK311; clear BK315; clear BK322; clear HB; have BK304 := n0_; have BK311 := n1_; have BK315 := n2_; have BK322 := n3_; have HB := n4_; have BK341 := n5_; have GW341 := n6_; have GE341 := n7_; have NB304_341 := n8_; have NB341_304 := n9_; have NB311_341 := n10_; have NB341_311 := n11_; have NB315_341 := n12_; have NB341_315 := n13_; have NB322_341 := n14_; have NB341_322 := n15_; clear n0_ n1_ n2_ n3_ n4_ n5_ n6_ n7_ n8_ n9_ n10_ n11_ n12_ n13_ n14_ n15_; clear hb hbox hg; have hnb189 := NB341_304.out; have hnc189 := NB304_341.out; have hnb190 := NB341_311.out; have hnc190 := NB311_341.out; have hnb191 := NB341_315.out; have hnc191 := NB315_341.out; have hnb192 := NB341_322.out; have hnc192 := NB322_341.out; have hcz193_0 : w188.cell? ⟨gb341, 0, none⟩ = some (.bool false) := bc_ BK341 0; have hcz193_1 : w188.cell? ⟨gb341, 1, none⟩ = some (.string (⟨#[]⟩ : ByteArray)) := bc_ BK341 1; have hcz193_2 : w188.cell? ⟨gb341, 2, none⟩ = some (.int .i64 0) := bc_ BK341 2; have hfz193_0 := blk_frozen BK341.out 0; have hfz193_1 := blk_frozen BK341.out 1; have hfz193_2 := blk_frozen BK341.out 2; have hcz194_0 : w188.cell? ⟨gb311, 0, none⟩ = some (.bool t308) := bc_ BK311 0; have hcz194_1 : w188.cell? ⟨gb311, 1, none⟩ = some (.string t309) := bc_ BK311 1; have hcz194_2 : w188.cell? ⟨gb311, 2, none⟩ = some (.int .i64 t310) := bc_ BK311 2; have hfz194_0 := blk_frozen BK311.out 0; have hfz194_1 := blk_frozen BK311.out 1; have hfz194_2 := blk_frozen BK311.out 2) | ((with_reducible refine gate_callee (f := 13) rfl ?_); refine goesL_ (some 58) rfl rfl Tryd.func13 (by kernel_rfl) rfl #[.agg #[.bool t308, .string t309, .int .i64 t310], .int .i64 (wrap64 ((Int.tmod a1 60) - (wrap64 (Int.tdiv (Int.tmod a1 60) 2)))), .int .i64 5] rfl (by (try simp only [List.map_toArray, List.map_cons, List.map_nil]); first | done | rfl | (simp only [List.length_drop, List.length_take]; rfl) | (have z_ : ∀ s_ : ByteArray, s_.size ≤ 9223372036854775807 → -(s_.size : Int) = wrap64 (-(s_.size : Int)) := (fun s_ h_ => by unfold wrap64; omega); rw [← z_ _ (by omega)]; rfl) | (simp only [ByteArray.size_append]; rfl)) ?_; (with_reducible refine (round_At.calls kj12 t308 t309 t310 (wrap64 ((Int.tmod a1 60) - (wrap64 (Int.tdiv (Int.tmod a1 60) 2)))) 5 t342 t343 t344 _ A63.out).mono ?_); rintro e w195 ⟨rfl, hb⟩; refine ⟨_, rfl, ?_⟩; have n0_ := Aside0.mk (blk_below (g := gb304) (o := .cells #[.bool a0_0, .slice A0_1 l0_1.length c0_1, .int .i64 a0_2] 24 (0, 0)) (by (with_reducible repeat (first | refine blk_drewN ?_ _ | refine blk_drew ?_ | refine blk_alloc ?_ _)); refine blk_far ?_ NB304_341.out _; (with_reducible repeat (first | refine blk_drewN ?_ _ | refine blk_drew ?_ | refine blk_alloc ?_ _)); refine blk_far ?_ NB304_341.out _; (with_reducible repeat (first | refine blk_drewN ?_ _ | refine blk_drew ?_ | refine blk_alloc ?_ _)); refine blk_far ?_ NB304_341.out _; (with_reducible repeat (first | refine blk_drewN ?_ _ | refine blk_drew ?_ | refine blk_alloc ?_ _)); exact BK304.out) hb); have n1_ := Aside0.mk (blk_below (g := gb311) (o := .cells #[.bool t308, .string t309, .int .i64 t310] 30 (0, 0)) (by (with_reducible repeat (first | refine blk_drewN ?_ _ | refine blk_drew ?_ | refine blk_alloc ?_ _)); refine blk_far ?_ NB311_341.out _; (with_reducible repeat (first | refine blk_drewN ?_ _ | refine blk_drew ?_ | refine blk_alloc ?_ _)); refine blk_far ?_ NB311_341.out _; (with_reducible repeat (first | refine blk_drewN ?_ _ | refine blk_drew ?_ | refine blk_alloc ?_ _)); refine blk_far ?_ NB311_341.out _; (with_reducible repeat (first | refine blk_drewN ?_ _ | refine blk_drew ?_ | refine blk_alloc ?_ _)); exact BK311.out) hb); have n2_ := Aside0.mk (blk_below (g := gb315) (o := .cells #[.bool t312, .string t313, .int .i64 t314] 30 (0, 0)) (by (with_reducible repeat (first | refine blk_drewN ?_ _ | refine blk_drew ?_ | refine blk_alloc ?_ _)); refine blk_far ?_ NB315_341.out _; (with_reducible repeat (first | refine blk_drewN ?_ _ | refine blk_drew ?_ | refine blk_alloc ?_ _)); refine blk_far ?_ NB315_341.out _; (with_reducible repeat (first | refine blk_drewN ?_ _ | refine blk_drew ?_ | refine blk_alloc ?_ _)); refine blk_far ?_ NB315_341.out _; (with_reducible repeat (first | refine blk_drewN ?_ _ | refine blk_drew ?_ | refine blk_alloc ?_ _)); exact BK315.out) hb); have n3_ := Aside0.mk (blk_below (g := gb322) (o := .cells #[.bool t319, .string t320, .int .i64 t321] 30 (0, 0)) (by (with_reducible repeat (first | refine blk_drewN ?_ _ | refine blk_drew ?_ | refine blk_alloc ?_ _)); refine blk_far ?_ NB322_341.out _; (with_reducible repeat (first | refine blk_drewN ?_ _ | refine blk_drew ?_ | refine blk_alloc ?_ _)); refine blk_far ?_ NB322_341.out _; (with_reducible repeat (first | refine blk_drewN ?_ _ | refine blk_drew ?_ | refine blk_alloc ?_ _)); refine blk_far ?_ NB322_341.out _; (with_reducible repeat (first | refine blk_drewN ?_ _ | refine blk_drew ?_ | refine blk_alloc ?_ _)); exact BK322.out) hb); have n4_ := Aside0.mk (blk_below (g := gb341) (o := .cells #[.bool t338, .string t339, .int .i64 t340] 30 (0, 0)) (by (with_reducible repeat (first | refine blk_drewN ?_ _ | refine blk_drew ?_ | refine blk_alloc ?_ _)); refine blk_put (cs := #[.bool t338, .string t339, .int .i64 0]) ?_ 2 _ rfl; (with_reducible repeat (first | refine blk_drewN ?_ _ | refine blk_drew ?_ | refine blk_alloc ?_ _)); refine blk_put (cs := #[.bool t338, .string (⟨#[]⟩ : ByteArray), .int .i64 0]) ?_ 1 _ rfl; (with_reducible repeat (first | refine blk_drewN ?_ _ | refine blk_drew ?_ | refine blk_alloc ?_ _)); refine blk_put (cs := #[.bool false, .string (⟨#[]⟩ : ByteArray), .int .i64 0]) ?_ 0 _ rfl; (with_reducible repeat (first | refine blk_drewN ?_ _ | refine blk_drew ?_ | refine blk_alloc ?_ _)); exact BK341.out) hb); have n5_ := Aside0.mk (below_step (bl_ HB).out hb); clear BK304; clear BK311; clear BK315; clear BK322; clear BK341; clear HB; have BK304 := n0_; have BK311 := n1_; have BK315 := n2_; have BK322 := n3_; have BK341 := n4_; have HB := n5_; clear n0_ n1_ n2_ n3_ n4_ n5_; (try clear hb); (try clear hb2); (try clear hk); (try clear hi)) | ((with_reducible refine gate_dst (N := 12) rfl ?_); refine box_event ?hg (N := 12) ?hd (cs := #[.bool false, .string (⟨#[]⟩ : ByteArray), .int .i64 0]) (t := 30) ?hr ?_; (case hd => rfl); (case hg => rfl); (case hr => first | (go_simp; done) | (go_simp; rfl)); intro gb345 hg w196 hbox hb; have n0_ := bb_ BK304 hb; have n1_ := bb_ BK311 hb; have n2_ := bb_ BK315 hb; have n3_ := bb_ BK322 hb; have n4_ := bb_ BK341 hb; have n5_ := Aside0.mk (below_step (bl_ HB).out hb); have n6_ := Aside0.mk (hbox); have n7_ := Aside0.mk ((by rw [hg]; exact (below_size (bl_ HB).out) : w.heap.size ≤ gb345)); have n8_ := Aside0.mk ((by rw [hg]; exact (below_size (bl_ HB).out) : w.heap.size ≤ gb345)); have n9_ := Aside0.mk ((by rw [hg]; exact Nat.ne_of_lt (blk_lt (g := gb304) (o := .cells #[.bool a0_0, .slice A0_1 l0_1.length c0_1, .int .i64 a0_2] 24 (0, 0)) (by (with_reducible repeat (first | refine blk_drewN ?_ _ | refine blk_drew ?_ | refine blk_alloc ?_ _)); exact BK304.out)) : gb304 ≠ gb345)); have n10_ := Aside0.mk ((by rw [hg]; exact Nat.ne_of_gt (blk_lt (g := gb304) (o := .cells #[.bool a0_0, .slice A0_1 l0_1.length c0_1, .int .i64 a0_2] 24 (0, 0)) (by (with_reducible repeat (first | refine blk_drewN ?_ _ | refine blk_drew ?_ | refine blk_alloc ?_ _)); exact BK304.out)) : gb345 ≠ gb304)); have n11_ := Aside0.mk ((by rw [hg]; exact Nat.ne_of_lt (blk_lt (g := gb311) (o := .cells #[.bool t308, .string t309, .int .i64 t310] 30 (0, 0)) (by (with_reducible repeat (first | refine blk_drewN ?_ _ | refine blk_drew ?_ | refine blk_alloc ?_ _)); exact BK311.out)) : gb311 ≠ gb345)); have n12_ := Aside0.mk ((by rw [hg]; exact Nat.ne_of_gt (blk_lt (g := gb311) (o := .cells #[.bool t308, .string t309, .int .i64 t310] 30 (0, 0)) (by (with_reducible repeat (first | refine blk_drewN ?_ _ | refine blk_drew ?_ | refine blk_alloc ?_ _)); exact BK311.out)) : gb345 ≠ gb311)); have n13_ := Aside0.mk ((by rw [hg]; exact Nat.ne_of_lt (blk_lt (g := gb315) (o := .cells #[.bool t312, .string t313, .int .i64 t314] 30 (0, 0)) (by (with_reducible repeat (first | refine blk_drewN ?_ _ | refine blk_drew ?_ | refine blk_alloc ?_ _)); exact BK315.out)) : gb315 ≠ gb345)); have n14_ := Aside0.mk ((by rw [hg]; exact Nat.ne_of_gt (blk_lt (g := gb315) (o := .cells #[.bool t312, .string t313, .int .i64 t314] 30 (0, 0)) (by (with_reducible repeat (first | refine blk_drewN ?_ _ | refine blk_drew ?_ | refine blk_alloc ?_ _)); exact BK315.out)) : gb345 ≠ gb315)); have n15_ := Aside0.mk ((by rw [hg]; exact Nat.ne_of_lt (blk_lt (g := gb322) (o := .cells #[.bool t319, .string t320, .int .i64 t321] 30 (0, 0)) (by (with_reducible repeat (first | refine blk_drewN ?_ _ | refine blk_drew ?_ | refine blk_alloc ?_ _)); exact BK322.out)) : gb322 ≠ gb345)); have n16_ := Aside0.mk ((by rw [hg]; exact Nat.ne_of_gt (blk_lt (g := gb322) (o := .cells #[.bool t319, .string t320, .int .i64 t321] 30 (0, 0)) (by (with_reducible repeat (first | refine blk_drewN ?_ _ | refine blk_drew ?_ | refine blk_alloc ?_ _)); exact BK322.out)) : gb345 ≠ gb322)); have n17_ := Aside0.mk ((by rw [hg]; exact Nat.ne_of_lt (blk_lt (g := gb341) (o := .cells #[.bool t338, .string t339, .int .i64 t340] 30 (0, 0)) (by (with_reducible repeat (first | refine blk_drewN ?_ _ | refine blk_drew ?_ | refine blk_alloc ?_ _)); exact BK341.out)) : gb341 ≠ gb345)); have n18_ := Aside0.mk ((by rw [hg]; exact Nat.ne_of_gt (blk_lt (g := gb341) (o := .cells #[.bool t338, .string t339, .int .i64 t340] 30 (0, 0)) (by (with_reducible repeat (first | refine blk_drewN ?_ _ | refine blk_drew ?_ | refine blk_alloc ?_ _)); exact BK341.out)) : gb345 ≠ gb341)); clear BK304; clear BK311; clear BK315; clear BK322; clear BK341; clear HB; have BK304 := n0_; have BK311 := n1_; have BK315 := n2_; have BK322 := n3_; have BK341 := n4_; have HB := n5_; have BK345 := n6_; have GW345 := n7_; have GE345 := n8_; have NB304_345 := n9_; have NB345_304 := n10_; have NB311_345 := n11_; have NB345_311 := n12_; have NB315_345 := n13_; have NB345_315 := n14_; have NB322_345 := n15_; have NB345_322 := n16_; have NB341_345 := n17_; have NB345_341 := n18_; clear n0_ n1_ n2_ n3_ n4_ n5_ n6_ n7_ n8_ n9_ n10_ n11_ n12_ n13_ n14_ n15_ n16_ n17_ n18_; clear hb hbox hg; have hnb197 := NB345_304.out; have hnc197 := NB304_345.out; have hnb198 := NB345_311.out; have hnc198 := NB311_345.out; have hnb199 := NB345_315.out; have hnc199 := NB315_345.out; have hnb200 := NB345_322.out; have hnc200 := NB322_345.out; have hnb201 := NB345_341.out; have hnc201 := NB341_345.out; have hcz202_0 : w196.cell? ⟨gb345, 0, none⟩ = some (.bool false) := bc_ BK345 0; have hcz202_1 : w196.cell? ⟨gb345, 1, none⟩ = some (.string (⟨#[]⟩ : ByteArray)) := bc_ BK345 1; have hcz202_2 : w196.cell? ⟨gb345, 2, none⟩ = some (.int .i64 0) := bc_ BK345 2; have hfz202_0 := blk_frozen BK345.out 0; have hfz202_1 := blk_frozen BK345.out 1; have hfz202_2 := blk_frozen BK345.out 2))
         have n0_ : Aside0 ((((w196.setCell ⟨gb345, 0, none⟩ (.bool t342)).setCell ⟨gb345, 1, none⟩ (.string t343)).setCell ⟨gb345, 2, none⟩ (.int .i64 t344)).heap[gb304]? = _) := bf_ BK304
         have n1_ : Aside0 ((((w196.setCell ⟨gb345, 0, none⟩ (.bool t342)).setCell ⟨gb345, 1, none⟩ (.string t343)).setCell ⟨gb345, 2, none⟩ (.int .i64 t344)).heap[gb311]? = _) := bf_ BK311
         have n2_ : Aside0 ((((w196.setCell ⟨gb345, 0, none⟩ (.bool t342)).setCell ⟨gb345, 1, none⟩ (.string t343)).setCell ⟨gb345, 2, none⟩ (.int .i64 t344)).heap[gb315]? = _) := bf_ BK315
         have n3_ : Aside0 ((((w196.setCell ⟨gb345, 0, none⟩ (.bool t342)).setCell ⟨gb345, 1, none⟩ (.string t343)).setCell ⟨gb345, 2, none⟩ (.int .i64 t344)).heap[gb322]? = _) := bf_ BK322
         have n4_ : Aside0 ((((w196.setCell ⟨gb345, 0, none⟩ (.bool t342)).setCell ⟨gb345, 1, none⟩ (.string t343)).setCell ⟨gb345, 2, none⟩ (.int .i64 t344)).heap[gb341]? = _) := bf_ BK341
         have n5_ : Aside0 ((((w196.setCell ⟨gb345, 0, none⟩ (.bool t342)).setCell ⟨gb345, 1, none⟩ (.string t343)).setCell ⟨gb345, 2, none⟩ (.int .i64 t344)).heap[gb345]? = some (.cells #[.bool t342, .string t343, .int .i64 t344] 30 (0, 0))) := ⟨by (with_reducible repeat (first | refine blk_drewN ?_ _ | refine blk_drew ?_ | refine blk_alloc ?_ _)); refine blk_put (cs := #[.bool t342, .string t343, .int .i64 0]) ?_ 2 _ rfl; (with_reducible repeat (first | refine blk_drewN ?_ _ | refine blk_drew ?_ | refine blk_alloc ?_ _)); refine blk_put (cs := #[.bool t342, .string (⟨#[]⟩ : ByteArray), .int .i64 0]) ?_ 1 _ rfl; (with_reducible repeat (first | refine blk_drewN ?_ _ | refine blk_drew ?_ | refine blk_alloc ?_ _)); refine blk_put (cs := #[.bool false, .string (⟨#[]⟩ : ByteArray), .int .i64 0]) ?_ 0 _ rfl; (with_reducible repeat (first | refine blk_drewN ?_ _ | refine blk_drew ?_ | refine blk_alloc ?_ _)); exact BK345.out⟩
         have n6_ : Aside0 (Below w.heap.size w (((w196.setCell ⟨gb345, 0, none⟩ (.bool t342)).setCell ⟨gb345, 1, none⟩ (.string t343)).setCell ⟨gb345, 2, none⟩ (.int .i64 t344))) := (bl_ HB)
         (try clear BK304)
         (try clear BK311)
         (try clear BK315)
         (try clear BK322)
         (try clear BK341)
         (try clear BK345)
         (try clear HB)
         generalize (((w196.setCell ⟨gb345, 0, none⟩ (.bool t342)).setCell ⟨gb345, 1, none⟩ (.string t343)).setCell ⟨gb345, 2, none⟩ (.int .i64 t344)) = w203 at n0_ n1_ n2_ n3_ n4_ n5_ n6_ ⊢
         have BK304 := n0_
         have BK311 := n1_
         have BK315 := n2_
         have BK322 := n3_
         have BK341 := n4_
         have BK345 := n5_
         have HB := n6_
         clear n0_ n1_ n2_ n3_ n4_ n5_ n6_
         replace BK304 := Aside0.mk (blk_drew BK304.out)
         replace BK311 := Aside0.mk (blk_drew BK311.out)
         replace BK315 := Aside0.mk (blk_drew BK315.out)
         replace BK322 := Aside0.mk (blk_drew BK322.out)
         replace BK341 := Aside0.mk (blk_drew BK341.out)
         replace BK345 := Aside0.mk (blk_drew BK345.out)
         replace HB := Aside0.mk (below_drew1 HB.out)
         refine start_ (n := 32) (S := fun w' => w'.cell? ⟨gb311, 0, none⟩ = some (.bool t308) ∧ w'.cell? ⟨gb311, 1, none⟩ = some (.string t309) ∧ w'.cell? ⟨gb311, 2, none⟩ = some (.int .i64 t310) ∧ w'.cell? ⟨gb315, 0, none⟩ = some (.bool t312) ∧ w'.cell? ⟨gb315, 1, none⟩ = some (.string t313) ∧ w'.cell? ⟨gb315, 2, none⟩ = some (.int .i64 t314) ∧ w'.cell? ⟨gb341, 0, none⟩ = some (.bool t338) ∧ w'.cell? ⟨gb341, 1, none⟩ = some (.string t339) ∧ w'.cell? ⟨gb341, 2, none⟩ = some (.int .i64 t340) ∧ w'.cell? ⟨gb345, 0, none⟩ = some (.bool t342) ∧ w'.cell? ⟨gb345, 1, none⟩ = some (.string t343) ∧ w'.cell? ⟨gb345, 2, none⟩ = some (.int .i64 t344)) (ds := []) #[false, false, false, false, false, false, false, false, false, false, false, false, false, false, false, false, false, false, false, false, false, false, false, false, false, false, false, false, false, false, false, false] (by kernel_rfl) rfl rfl ⟨bc_ BK311 0, bc_ BK311 1, bc_ BK311 2, bc_ BK315 0, bc_ BK315 1, bc_ BK315 2, bc_ BK341 0, bc_ BK341 1, bc_ BK341 2, bc_ BK345 0, bc_ BK345 1, bc_ BK345 2⟩ (fun hHeld => ?_); refine with_tabW florinlaw03_RoundSigns.tab14 florinlaw03_RoundSigns.bits14 (fun HT_ HW_ => ?_)
         generalize w203.drew = w204 at BK304 BK311 BK315 BK322 BK341 BK345 HB hHeld ⊢
         refine pu_ 2 61 (bm_ 32 4) HT_ ?_
         refine pu_ 3 62 (bm_ 32 12) HT_ ?_
         refine tk_ 0 59 (bm_ 32 13) HT_ HW_ hHeld rfl (by rintro w' ⟨s0, s1, s2, s3, s4, s5, s6, s7, s8, s9, s10, s11⟩; go_simp; with_reducible rfl) ?_
         refine tk_ 6 65 (bm_ 32 77) HT_ HW_ hHeld rfl (by rintro w' ⟨s0, s1, s2, s3, s4, s5, s6, s7, s8, s9, s10, s11⟩; go_simp; with_reducible rfl) ?_
         refine one_ (i := 1) (N := some 60) (bm_ 32 79) rfl rfl (one_of HT_.out (by kernel_rfl)) (by decide) (fun K hK => ?_)
         refine gs_ Tryd.func20 #[.agg #[.bool t308, .string t309, .int .i64 t310]] ?_
         with_reducible refine (dec_Dec_Minus.calls kj12 t308 t309 t310 t346 t347 t348 _ A64.out).mono ?_
         rintro e w205 ⟨rfl, hb⟩
         refine ⟨_, rfl, ?_⟩
         replace BK304 := bb_ BK304 hb
         replace BK311 := bb_ BK311 hb
         replace BK315 := bb_ BK315 hb
         replace BK322 := bb_ BK322 hb
         replace BK341 := bb_ BK341 hb
         replace BK345 := bb_ BK345 hb
         replace HB := Aside0.mk (below_step (bl_ HB).out hb)
         (try clear hb)
         (try clear hb2)
         (try clear hk)
         (try clear hi)
         refine hK.out _ _ ⟨bc_ BK311 0, bc_ BK311 1, bc_ BK311 2, bc_ BK315 0, bc_ BK315 1, bc_ BK315 2, bc_ BK341 0, bc_ BK341 1, bc_ BK341 2, bc_ BK345 0, bc_ BK345 1, bc_ BK345 2⟩ (fun hHeld => ?_)
         clear hK K
         refine nm_ 60 ?_
         refine one_ (i := 4) (N := some 63) (bm_ 32 95) rfl rfl (one_of HT_.out (by kernel_rfl)) (by decide) (fun K hK => ?_)
         refine gs_ Tryd.func21 #[.int .i64 t307] ?_
         with_reducible refine (florinlaw03_turned.calls t307 t349 _ A65.out).mono ?_
         rintro e w' ⟨rfl, ⟨nd, rfl⟩⟩
         refine ⟨_, rfl, ?_⟩
         refine hK.out _ _ ⟨bc_ BK311 0, bc_ BK311 1, bc_ BK311 2, bc_ BK315 0, bc_ BK315 1, bc_ BK315 2, bc_ BK341 0, bc_ BK341 1, bc_ BK341 2, bc_ BK345 0, bc_ BK345 1, bc_ BK345 2⟩ (fun hHeld => ?_)
         clear hK K
         refine nm_ 63 ?_
         refine one_ (i := 5) (N := some 64) (bm_ 32 127) rfl rfl (one_of HT_.out (by kernel_rfl)) (by decide) (fun K hK => ?_)
         refine gs_ Tryd.func13 #[.agg #[.bool t346, .string t347, .int .i64 t348], .int .i64 (wrap64 ((Int.tmod a1 60) - (wrap64 (Int.tdiv (Int.tmod a1 60) 2)))), .int .i64 t349] ?_
         with_reducible refine (round_At.calls kj12 t346 t347 t348 (wrap64 ((Int.tmod a1 60) - (wrap64 (Int.tdiv (Int.tmod a1 60) 2)))) t349 t350 t351 t352 _ A66.out).mono ?_
         rintro e w206 ⟨rfl, hb⟩
         refine ⟨_, rfl, ?_⟩
         replace BK304 := bb_ BK304 hb
         replace BK311 := bb_ BK311 hb
         replace BK315 := bb_ BK315 hb
         replace BK322 := bb_ BK322 hb
         replace BK341 := bb_ BK341 hb
         replace BK345 := bb_ BK345 hb
         replace HB := Aside0.mk (below_step (bl_ HB).out hb)
         (try clear hb)
         (try clear hb2)
         (try clear hk)
         (try clear hi)
         refine hK.out _ _ ⟨bc_ BK311 0, bc_ BK311 1, bc_ BK311 2, bc_ BK315 0, bc_ BK315 1, bc_ BK315 2, bc_ BK341 0, bc_ BK341 1, bc_ BK341 2, bc_ BK345 0, bc_ BK345 1, bc_ BK345 2⟩ (fun hHeld => ?_)
         clear hK K
         refine nm_ 64 ?_
         refine one_ (i := 7) (N := some 66) (bm_ 32 255) rfl rfl (one_of HT_.out (by kernel_rfl)) (by decide) (fun K hK => ?_)
         refine gs_ Tryd.func20 #[.agg #[.bool t312, .string t313, .int .i64 t314]] ?_
         with_reducible refine (dec_Dec_Minus.calls kj12 t312 t313 t314 t353 t354 t355 _ A67.out).mono ?_
         rintro e w207 ⟨rfl, hb⟩
         refine ⟨_, rfl, ?_⟩
         replace BK304 := bb_ BK304 hb
         replace BK311 := bb_ BK311 hb
         replace BK315 := bb_ BK315 hb
         replace BK322 := bb_ BK322 hb
         replace BK341 := bb_ BK341 hb
         replace BK345 := bb_ BK345 hb
         replace HB := Aside0.mk (below_step (bl_ HB).out hb)
         (try clear hb)
         (try clear hb2)
         (try clear hk)
         (try clear hi)
         refine hK.out _ _ ⟨bc_ BK311 0, bc_ BK311 1, bc_ BK311 2, bc_ BK315 0, bc_ BK315 1, bc_ BK315 2, bc_ BK341 0, bc_ BK341 1, bc_ BK341 2, bc_ BK345 0, bc_ BK345 1, bc_ BK345 2⟩ (fun hHeld => ?_)
         clear hK K
         refine nm_ 66 ?_
         refine pu_ 8 67 (bm_ 32 511) HT_ ?_
         refine pu_ 9 68 (bm_ 32 1023) HT_ ?_
         refine tk_ 10 69 (bm_ 32 2047) HT_ HW_ hHeld rfl (by rintro w' ⟨s0, s1, s2, s3, s4, s5, s6, s7, s8, s9, s10, s11⟩; go_simp; with_reducible rfl) ?_
         refine tk_ 11 70 (bm_ 32 4095) HT_ HW_ hHeld rfl (by rintro w' ⟨s0, s1, s2, s3, s4, s5, s6, s7, s8, s9, s10, s11⟩; go_simp; with_reducible rfl) ?_
         refine pu_ 12 71 (bm_ 32 8191) HT_ ?_
         refine pu_ 13 72 (bm_ 32 16383) HT_ ?_
         refine tk_ 14 73 (bm_ 32 32767) HT_ HW_ hHeld rfl (by rintro w' ⟨s0, s1, s2, s3, s4, s5, s6, s7, s8, s9, s10, s11⟩; go_simp; with_reducible rfl) ?_
         refine tk_ 15 74 (bm_ 32 65535) HT_ HW_ hHeld rfl (by rintro w' ⟨s0, s1, s2, s3, s4, s5, s6, s7, s8, s9, s10, s11⟩; go_simp; with_reducible rfl) ?_
         refine pu_ 16 75 (bm_ 32 131071) HT_ ?_
         refine pu_ 17 76 (bm_ 32 262143) HT_ ?_
         refine pu_ 18 77 (bm_ 32 524287) HT_ ?_
         refine pu_ 19 78 (bm_ 32 1048575) HT_ ?_
         refine pn_ 20 79 (bm_ 32 2097151) HT_ ?_
         refine pn_ 21 80 (bm_ 32 4194303) HT_ ?_
         refine pn_ 22 81 (bm_ 32 8388607) HT_ ?_
         refine pn_ 23 82 (bm_ 32 16777215) HT_ ?_
         refine pu_ 24 83 (bm_ 32 33554431) HT_ ?_
         refine pu_ 25 84 (bm_ 32 67108863) HT_ ?_
         refine pn_ 26 85 (bm_ 32 134217727) HT_ ?_
         refine pn_ 27 86 (bm_ 32 268435455) HT_ ?_
         refine pn_ 28 87 (bm_ 32 536870911) HT_ ?_
         refine pn_ 29 88 (bm_ 32 1073741823) HT_ ?_
         refine pu_ 30 89 (bm_ 32 2147483647) HT_ ?_
         refine pu_ 31 6 (bm_ 32 4294967295) HT_ ?_
         refine done_ (done_of HT_.out (by kernel_rfl)) ?_
         try go_wp2
         go_ret
         exact ⟨by first | rfl | (simp [errW_none, errW_some] <;> rfl) | (simp [*, errW_none, errW_some] <;> first | rfl | exact given_isEmpty _ | exact (given_isEmpty _).symm), by repeat (first | (with_reducible first | exact HB.out | apply below_alloc | apply pw_below_drewN | apply below_drew1 | refine below_set ?_ GE304.out | refine below_set ?_ GE311.out | refine below_set ?_ GE315.out | refine below_set ?_ GE322.out | refine below_set ?_ GE341.out | refine below_set ?_ GE345.out) | exact HB.out)⟩
      ·rw [if_neg c68] at H
       have c68b0 : (t350 == t353 && (t351.toList == t354.toList && (t352 == t355))) = false := by simpa using c68
       (try (have c68b1 : decide (t350 = t353 && (t351.toList == t354.toList && (t352 == t355))) = false := by simpa using c68))
       (try (have c68b2 : (t350 == t353 && (t351.toList == t354.toList && (t352 == t355))) = false := by simpa using c68))
       (try (have c68b3 : ¬ (t350 = t353 && (t351.toList == t354.toList && (t352 == t355))) := by simpa using c68))
       clear c68
       obtain rfl := Option.some.inj H
       have hnb208 := NB311_304.out
       have hnc208 := NB304_311.out
       have hnb209 := NB311_315.out
       have hnc209 := NB315_311.out
       have hnb210 := NB311_322.out
       have hnc210 := NB322_311.out
       have hcz211_0 : wc.cell? ⟨gb311, 0, none⟩ = some (.bool t308) := bc_ BK311 0
       have hcz211_1 : wc.cell? ⟨gb311, 1, none⟩ = some (.string t309) := bc_ BK311 1
       have hcz211_2 : wc.cell? ⟨gb311, 2, none⟩ = some (.int .i64 t310) := bc_ BK311 2
       have hfz211_0 := blk_frozen BK311.out 0
       have hfz211_1 := blk_frozen BK311.out 1
       have hfz211_2 := blk_frozen BK311.out 2
       try go_wp2_with (first | ((with_reducible refine gate_callee (f := 13) rfl ?_); refine goesL_ (some 55) rfl rfl Tryd.func13 (by kernel_rfl) rfl #[.agg #[.bool t308, .string t309, .int .i64 t310], .int .i64 (wrap64 ((Int.tmod a1 60) - (wrap64 (Int.tdiv (Int.tmod a1 60) 2)))), .int .i64 6] rfl (by (try simp only [List.map_toArray, List.map_cons, List.map_nil]); first | done | rfl | (simp only [List.length_drop, List.length_take]; rfl) | (have z_ : ∀ s_ : ByteArray, s_.size ≤ 9223372036854775807 → -(s_.size : Int) = wrap64 (-(s_.size : Int)) := (fun s_ h_ => by unfold wrap64; omega); rw [← z_ _ (by omega)]; rfl) | (simp only [ByteArray.size_append]; rfl)) ?_; (with_reducible refine (round_At.calls kj12 t308 t309 t310 (wrap64 ((Int.tmod a1 60) - (wrap64 (Int.tdiv (Int.tmod a1 60) 2)))) 6 t338 t339 t340 _ A62.out).mono ?_); rintro e w212 ⟨rfl, hb⟩; refine ⟨_, rfl, ?_⟩; have n0_ := bb_ BK304 hb; have n1_ := bb_ BK311 hb; have n2_ := bb_ BK315 hb; have n3_ := bb_ BK322 hb; have n4_ := Aside0.mk (below_step (bl_ HB).out hb); clear BK304; clear BK311; clear BK315; clear BK322; clear HB; have BK304 := n0_; have BK311 := n1_; have BK315 := n2_; have BK322 := n3_; have HB := n4_; clear n0_ n1_ n2_ n3_ n4_; (try clear hb); (try clear hb2); (try clear hk); (try clear hi)) | ((with_reducible refine gate_dst (N := 11) rfl ?_); refine box_event ?hg (N := 11) ?hd (cs := #[.bool false, .string (⟨#[]⟩ : ByteArray), .int .i64 0]) (t := 30) ?hr ?_; (case hd => rfl); (case hg => rfl); (case hr => first | (go_simp; done) | (go_simp; rfl)); intro gb341 hg w213 hbox hb; have n0_ := bb_ BK304 hb; have n1_ := bb_ BK311 hb; have n2_ := bb_ BK315 hb; have n3_ := bb_ BK322 hb; have n4_ := Aside0.mk (below_step (bl_ HB).out hb); have n5_ := Aside0.mk (hbox); have n6_ := Aside0.mk ((by rw [hg]; exact (below_size (bl_ HB).out) : w.heap.size ≤ gb341)); have n7_ := Aside0.mk ((by rw [hg]; exact (below_size (bl_ HB).out) : w.heap.size ≤ gb341)); have n8_ := Aside0.mk ((by rw [hg]; exact Nat.ne_of_lt (blk_lt (g := gb304) (o := .cells #[.bool a0_0, .slice A0_1 l0_1.length c0_1, .int .i64 a0_2] 24 (0, 0)) (by (with_reducible repeat (first | refine blk_drewN ?_ _ | refine blk_drew ?_ | refine blk_alloc ?_ _)); exact BK304.out)) : gb304 ≠ gb341)); have n9_ := Aside0.mk ((by rw [hg]; exact Nat.ne_of_gt (blk_lt (g := gb304) (o := .cells #[.bool a0_0, .slice A0_1 l0_1.length c0_1, .int .i64 a0_2] 24 (0, 0)) (by (with_reducible repeat (first | refine blk_drewN ?_ _ | refine blk_drew ?_ | refine blk_alloc ?_ _)); exact BK304.out)) : gb341 ≠ gb304)); have n10_ := Aside0.mk ((by rw [hg]; exact Nat.ne_of_lt (blk_lt (g := gb311) (o := .cells #[.bool t308, .string t309, .int .i64 t310] 30 (0, 0)) (by (with_reducible repeat (first | refine blk_drewN ?_ _ | refine blk_drew ?_ | refine blk_alloc ?_ _)); exact BK311.out)) : gb311 ≠ gb341)); have n11_ := Aside0.mk ((by rw [hg]; exact Nat.ne_of_gt (blk_lt (g := gb311) (o := .cells #[.bool t308, .string t309, .int .i64 t310] 30 (0, 0)) (by (with_reducible repeat (first | refine blk_drewN ?_ _ | refine blk_drew ?_ | refine blk_alloc ?_ _)); exact BK311.out)) : gb341 ≠ gb311)); have n12_ := Aside0.mk ((by rw [hg]; exact Nat.ne_of_lt (blk_lt (g := gb315) (o := .cells #[.bool t312, .string t313, .int .i64 t314] 30 (0, 0)) (by (with_reducible repeat (first | refine blk_drewN ?_ _ | refine blk_drew ?_ | refine blk_alloc ?_ _)); exact BK315.out)) : gb315 ≠ gb341)); have n13_ := Aside0.mk ((by rw [hg]; exact Nat.ne_of_gt (blk_lt (g := gb315) (o := .cells #[.bool t312, .string t313, .int .i64 t314] 30 (0, 0)) (by (with_reducible repeat (first | refine blk_drewN ?_ _ | refine blk_drew ?_ | refine blk_alloc ?_ _)); exact BK315.out)) : gb341 ≠ gb315)); have n14_ := Aside0.mk ((by rw [hg]; exact Nat.ne_of_lt (blk_lt (g := gb322) (o := .cells #[.bool t319, .string t320, .int .i64 t321] 30 (0, 0)) (by (with_reducible repeat (first | refine blk_drewN ?_ _ | refine blk_drew ?_ | refine blk_alloc ?_ _)); exact BK322.out)) : gb322 ≠ gb341)); have n15_ := Aside0.mk ((by rw [hg]; exact Nat.ne_of_gt (blk_lt (g := gb322) (o := .cells #[.bool t319, .string t320, .int .i64 t321] 30 (0, 0)) (by (with_reducible repeat (first | refine blk_drewN ?_ _ | refine blk_drew ?_ | refine blk_alloc ?_ _)); exact BK322.out)) : gb341 ≠ gb322)); clear BK304; clear BK311; clear BK315; clear BK322; clear HB; have BK304 := n0_; have BK311 := n1_; have BK315 := n2_; have BK322 := n3_; have HB := n4_; have BK341 := n5_; have GW341 := n6_; have GE341 := n7_; have NB304_341 := n8_; have NB341_304 := n9_; have NB311_341 := n10_; have NB341_311 := n11_; have NB315_341 := n12_; have NB341_315 := n13_; have NB322_341 := n14_; have NB341_322 := n15_; clear n0_ n1_ n2_ n3_ n4_ n5_ n6_ n7_ n8_ n9_ n10_ n11_ n12_ n13_ n14_ n15_; clear hb hbox hg; have hnb214 := NB341_304.out; have hnc214 := NB304_341.out; have hnb215 := NB341_311.out; have hnc215 := NB311_341.out; have hnb216 := NB341_315.out; have hnc216 := NB315_341.out; have hnb217 := NB341_322.out; have hnc217 := NB322_341.out; have hcz218_0 : w213.cell? ⟨gb341, 0, none⟩ = some (.bool false) := bc_ BK341 0; have hcz218_1 : w213.cell? ⟨gb341, 1, none⟩ = some (.string (⟨#[]⟩ : ByteArray)) := bc_ BK341 1; have hcz218_2 : w213.cell? ⟨gb341, 2, none⟩ = some (.int .i64 0) := bc_ BK341 2; have hfz218_0 := blk_frozen BK341.out 0; have hfz218_1 := blk_frozen BK341.out 1; have hfz218_2 := blk_frozen BK341.out 2; have hcz219_0 : w213.cell? ⟨gb311, 0, none⟩ = some (.bool t308) := bc_ BK311 0; have hcz219_1 : w213.cell? ⟨gb311, 1, none⟩ = some (.string t309) := bc_ BK311 1; have hcz219_2 : w213.cell? ⟨gb311, 2, none⟩ = some (.int .i64 t310) := bc_ BK311 2; have hfz219_0 := blk_frozen BK311.out 0; have hfz219_1 := blk_frozen BK311.out 1; have hfz219_2 := blk_frozen BK311.out 2) | ((with_reducible refine gate_callee (f := 13) rfl ?_); refine goesL_ (some 58) rfl rfl Tryd.func13 (by kernel_rfl) rfl #[.agg #[.bool t308, .string t309, .int .i64 t310], .int .i64 (wrap64 ((Int.tmod a1 60) - (wrap64 (Int.tdiv (Int.tmod a1 60) 2)))), .int .i64 5] rfl (by (try simp only [List.map_toArray, List.map_cons, List.map_nil]); first | done | rfl | (simp only [List.length_drop, List.length_take]; rfl) | (have z_ : ∀ s_ : ByteArray, s_.size ≤ 9223372036854775807 → -(s_.size : Int) = wrap64 (-(s_.size : Int)) := (fun s_ h_ => by unfold wrap64; omega); rw [← z_ _ (by omega)]; rfl) | (simp only [ByteArray.size_append]; rfl)) ?_; (with_reducible refine (round_At.calls kj12 t308 t309 t310 (wrap64 ((Int.tmod a1 60) - (wrap64 (Int.tdiv (Int.tmod a1 60) 2)))) 5 t342 t343 t344 _ A63.out).mono ?_); rintro e w220 ⟨rfl, hb⟩; refine ⟨_, rfl, ?_⟩; have n0_ := Aside0.mk (blk_below (g := gb304) (o := .cells #[.bool a0_0, .slice A0_1 l0_1.length c0_1, .int .i64 a0_2] 24 (0, 0)) (by (with_reducible repeat (first | refine blk_drewN ?_ _ | refine blk_drew ?_ | refine blk_alloc ?_ _)); refine blk_far ?_ NB304_341.out _; (with_reducible repeat (first | refine blk_drewN ?_ _ | refine blk_drew ?_ | refine blk_alloc ?_ _)); refine blk_far ?_ NB304_341.out _; (with_reducible repeat (first | refine blk_drewN ?_ _ | refine blk_drew ?_ | refine blk_alloc ?_ _)); refine blk_far ?_ NB304_341.out _; (with_reducible repeat (first | refine blk_drewN ?_ _ | refine blk_drew ?_ | refine blk_alloc ?_ _)); exact BK304.out) hb); have n1_ := Aside0.mk (blk_below (g := gb311) (o := .cells #[.bool t308, .string t309, .int .i64 t310] 30 (0, 0)) (by (with_reducible repeat (first | refine blk_drewN ?_ _ | refine blk_drew ?_ | refine blk_alloc ?_ _)); refine blk_far ?_ NB311_341.out _; (with_reducible repeat (first | refine blk_drewN ?_ _ | refine blk_drew ?_ | refine blk_alloc ?_ _)); refine blk_far ?_ NB311_341.out _; (with_reducible repeat (first | refine blk_drewN ?_ _ | refine blk_drew ?_ | refine blk_alloc ?_ _)); refine blk_far ?_ NB311_341.out _; (with_reducible repeat (first | refine blk_drewN ?_ _ | refine blk_drew ?_ | refine blk_alloc ?_ _)); exact BK311.out) hb); have n2_ := Aside0.mk (blk_below (g := gb315) (o := .cells #[.bool t312, .string t313, .int .i64 t314] 30 (0, 0)) (by (with_reducible repeat (first | refine blk_drewN ?_ _ | refine blk_drew ?_ | refine blk_alloc ?_ _)); refine blk_far ?_ NB315_341.out _; (with_reducible repeat (first | refine blk_drewN ?_ _ | refine blk_drew ?_ | refine blk_alloc ?_ _)); refine blk_far ?_ NB315_341.out _; (with_reducible repeat (first | refine blk_drewN ?_ _ | refine blk_drew ?_ | refine blk_alloc ?_ _)); refine blk_far ?_ NB315_341.out _; (with_reducible repeat (first | refine blk_drewN ?_ _ | refine blk_drew ?_ | refine blk_alloc ?_ _)); exact BK315.out) hb); have n3_ := Aside0.mk (blk_below (g := gb322) (o := .cells #[.bool t319, .string t320, .int .i64 t321] 30 (0, 0)) (by (with_reducible repeat (first | refine blk_drewN ?_ _ | refine blk_drew ?_ | refine blk_alloc ?_ _)); refine blk_far ?_ NB322_341.out _; (with_reducible repeat (first | refine blk_drewN ?_ _ | refine blk_drew ?_ | refine blk_alloc ?_ _)); refine blk_far ?_ NB322_341.out _; (with_reducible repeat (first | refine blk_drewN ?_ _ | refine blk_drew ?_ | refine blk_alloc ?_ _)); refine blk_far ?_ NB322_341.out _; (with_reducible repeat (first | refine blk_drewN ?_ _ | refine blk_drew ?_ | refine blk_alloc ?_ _)); exact BK322.out) hb); have n4_ := Aside0.mk (blk_below (g := gb341) (o := .cells #[.bool t338, .string t339, .int .i64 t340] 30 (0, 0)) (by (with_reducible repeat (first | refine blk_drewN ?_ _ | refine blk_drew ?_ | refine blk_alloc ?_ _)); refine blk_put (cs := #[.bool t338, .string t339, .int .i64 0]) ?_ 2 _ rfl; (with_reducible repeat (first | refine blk_drewN ?_ _ | refine blk_drew ?_ | refine blk_alloc ?_ _)); refine blk_put (cs := #[.bool t338, .string (⟨#[]⟩ : ByteArray), .int .i64 0]) ?_ 1 _ rfl; (with_reducible repeat (first | refine blk_drewN ?_ _ | refine blk_drew ?_ | refine blk_alloc ?_ _)); refine blk_put (cs := #[.bool false, .string (⟨#[]⟩ : ByteArray), .int .i64 0]) ?_ 0 _ rfl; (with_reducible repeat (first | refine blk_drewN ?_ _ | refine blk_drew ?_ | refine blk_alloc ?_ _)); exact BK341.out) hb); have n5_ := Aside0.mk (below_step (bl_ HB).out hb); clear BK304; clear BK311; clear BK315; clear BK322; clear BK341; clear HB; have BK304 := n0_; have BK311 := n1_; have BK315 := n2_; have BK322 := n3_; have BK341 := n4_; have HB := n5_; clear n0_ n1_ n2_ n3_ n4_ n5_; (try clear hb); (try clear hb2); (try clear hk); (try clear hi)) | ((with_reducible refine gate_dst (N := 12) rfl ?_); refine box_event ?hg (N := 12) ?hd (cs := #[.bool false, .string (⟨#[]⟩ : ByteArray), .int .i64 0]) (t := 30) ?hr ?_; (case hd => rfl); (case hg => rfl); (case hr => first | (go_simp; done) | (go_simp; rfl)); intro gb345 hg w221 hbox hb; have n0_ := bb_ BK304 hb; have n1_ := bb_ BK311 hb; have n2_ := bb_ BK315 hb; have n3_ := bb_ BK322 hb; have n4_ := bb_ BK341 hb; have n5_ := Aside0.mk (below_step (bl_ HB).out hb); have n6_ := Aside0.mk (hbox); have n7_ := Aside0.mk ((by rw [hg]; exact (below_size (bl_ HB).out) : w.heap.size ≤ gb345)); have n8_ := Aside0.mk ((by rw [hg]; exact (below_size (bl_ HB).out) : w.heap.size ≤ gb345)); have n9_ := Aside0.mk ((by rw [hg]; exact Nat.ne_of_lt (blk_lt (g := gb304) (o := .cells #[.bool a0_0, .slice A0_1 l0_1.length c0_1, .int .i64 a0_2] 24 (0, 0)) (by (with_reducible repeat (first | refine blk_drewN ?_ _ | refine blk_drew ?_ | refine blk_alloc ?_ _)); exact BK304.out)) : gb304 ≠ gb345)); have n10_ := Aside0.mk ((by rw [hg]; exact Nat.ne_of_gt (blk_lt (g := gb304) (o := .cells #[.bool a0_0, .slice A0_1 l0_1.length c0_1, .int .i64 a0_2] 24 (0, 0)) (by (with_reducible repeat (first | refine blk_drewN ?_ _ | refine blk_drew ?_ | refine blk_alloc ?_ _)); exact BK304.out)) : gb345 ≠ gb304)); have n11_ := Aside0.mk ((by rw [hg]; exact Nat.ne_of_lt (blk_lt (g := gb311) (o := .cells #[.bool t308, .string t309, .int .i64 t310] 30 (0, 0)) (by (with_reducible repeat (first | refine blk_drewN ?_ _ | refine blk_drew ?_ | refine blk_alloc ?_ _)); exact BK311.out)) : gb311 ≠ gb345)); have n12_ := Aside0.mk ((by rw [hg]; exact Nat.ne_of_gt (blk_lt (g := gb311) (o := .cells #[.bool t308, .string t309, .int .i64 t310] 30 (0, 0)) (by (with_reducible repeat (first | refine blk_drewN ?_ _ | refine blk_drew ?_ | refine blk_alloc ?_ _)); exact BK311.out)) : gb345 ≠ gb311)); have n13_ := Aside0.mk ((by rw [hg]; exact Nat.ne_of_lt (blk_lt (g := gb315) (o := .cells #[.bool t312, .string t313, .int .i64 t314] 30 (0, 0)) (by (with_reducible repeat (first | refine blk_drewN ?_ _ | refine blk_drew ?_ | refine blk_alloc ?_ _)); exact BK315.out)) : gb315 ≠ gb345)); have n14_ := Aside0.mk ((by rw [hg]; exact Nat.ne_of_gt (blk_lt (g := gb315) (o := .cells #[.bool t312, .string t313, .int .i64 t314] 30 (0, 0)) (by (with_reducible repeat (first | refine blk_drewN ?_ _ | refine blk_drew ?_ | refine blk_alloc ?_ _)); exact BK315.out)) : gb345 ≠ gb315)); have n15_ := Aside0.mk ((by rw [hg]; exact Nat.ne_of_lt (blk_lt (g := gb322) (o := .cells #[.bool t319, .string t320, .int .i64 t321] 30 (0, 0)) (by (with_reducible repeat (first | refine blk_drewN ?_ _ | refine blk_drew ?_ | refine blk_alloc ?_ _)); exact BK322.out)) : gb322 ≠ gb345)); have n16_ := Aside0.mk ((by rw [hg]; exact Nat.ne_of_gt (blk_lt (g := gb322) (o := .cells #[.bool t319, .string t320, .int .i64 t321] 30 (0, 0)) (by (with_reducible repeat (first | refine blk_drewN ?_ _ | refine blk_drew ?_ | refine blk_alloc ?_ _)); exact BK322.out)) : gb345 ≠ gb322)); have n17_ := Aside0.mk ((by rw [hg]; exact Nat.ne_of_lt (blk_lt (g := gb341) (o := .cells #[.bool t338, .string t339, .int .i64 t340] 30 (0, 0)) (by (with_reducible repeat (first | refine blk_drewN ?_ _ | refine blk_drew ?_ | refine blk_alloc ?_ _)); exact BK341.out)) : gb341 ≠ gb345)); have n18_ := Aside0.mk ((by rw [hg]; exact Nat.ne_of_gt (blk_lt (g := gb341) (o := .cells #[.bool t338, .string t339, .int .i64 t340] 30 (0, 0)) (by (with_reducible repeat (first | refine blk_drewN ?_ _ | refine blk_drew ?_ | refine blk_alloc ?_ _)); exact BK341.out)) : gb345 ≠ gb341)); clear BK304; clear BK311; clear BK315; clear BK322; clear BK341; clear HB; have BK304 := n0_; have BK311 := n1_; have BK315 := n2_; have BK322 := n3_; have BK341 := n4_; have HB := n5_; have BK345 := n6_; have GW345 := n7_; have GE345 := n8_; have NB304_345 := n9_; have NB345_304 := n10_; have NB311_345 := n11_; have NB345_311 := n12_; have NB315_345 := n13_; have NB345_315 := n14_; have NB322_345 := n15_; have NB345_322 := n16_; have NB341_345 := n17_; have NB345_341 := n18_; clear n0_ n1_ n2_ n3_ n4_ n5_ n6_ n7_ n8_ n9_ n10_ n11_ n12_ n13_ n14_ n15_ n16_ n17_ n18_; clear hb hbox hg; have hnb222 := NB345_304.out; have hnc222 := NB304_345.out; have hnb223 := NB345_311.out; have hnc223 := NB311_345.out; have hnb224 := NB345_315.out; have hnc224 := NB315_345.out; have hnb225 := NB345_322.out; have hnc225 := NB322_345.out; have hnb226 := NB345_341.out; have hnc226 := NB341_345.out; have hcz227_0 : w221.cell? ⟨gb345, 0, none⟩ = some (.bool false) := bc_ BK345 0; have hcz227_1 : w221.cell? ⟨gb345, 1, none⟩ = some (.string (⟨#[]⟩ : ByteArray)) := bc_ BK345 1; have hcz227_2 : w221.cell? ⟨gb345, 2, none⟩ = some (.int .i64 0) := bc_ BK345 2; have hfz227_0 := blk_frozen BK345.out 0; have hfz227_1 := blk_frozen BK345.out 1; have hfz227_2 := blk_frozen BK345.out 2))
       have n0_ : Aside0 ((((w221.setCell ⟨gb345, 0, none⟩ (.bool t342)).setCell ⟨gb345, 1, none⟩ (.string t343)).setCell ⟨gb345, 2, none⟩ (.int .i64 t344)).heap[gb304]? = _) := bf_ BK304
       have n1_ : Aside0 ((((w221.setCell ⟨gb345, 0, none⟩ (.bool t342)).setCell ⟨gb345, 1, none⟩ (.string t343)).setCell ⟨gb345, 2, none⟩ (.int .i64 t344)).heap[gb311]? = _) := bf_ BK311
       have n2_ : Aside0 ((((w221.setCell ⟨gb345, 0, none⟩ (.bool t342)).setCell ⟨gb345, 1, none⟩ (.string t343)).setCell ⟨gb345, 2, none⟩ (.int .i64 t344)).heap[gb315]? = _) := bf_ BK315
       have n3_ : Aside0 ((((w221.setCell ⟨gb345, 0, none⟩ (.bool t342)).setCell ⟨gb345, 1, none⟩ (.string t343)).setCell ⟨gb345, 2, none⟩ (.int .i64 t344)).heap[gb322]? = _) := bf_ BK322
       have n4_ : Aside0 ((((w221.setCell ⟨gb345, 0, none⟩ (.bool t342)).setCell ⟨gb345, 1, none⟩ (.string t343)).setCell ⟨gb345, 2, none⟩ (.int .i64 t344)).heap[gb341]? = _) := bf_ BK341
       have n5_ : Aside0 ((((w221.setCell ⟨gb345, 0, none⟩ (.bool t342)).setCell ⟨gb345, 1, none⟩ (.string t343)).setCell ⟨gb345, 2, none⟩ (.int .i64 t344)).heap[gb345]? = some (.cells #[.bool t342, .string t343, .int .i64 t344] 30 (0, 0))) := ⟨by (with_reducible repeat (first | refine blk_drewN ?_ _ | refine blk_drew ?_ | refine blk_alloc ?_ _)); refine blk_put (cs := #[.bool t342, .string t343, .int .i64 0]) ?_ 2 _ rfl; (with_reducible repeat (first | refine blk_drewN ?_ _ | refine blk_drew ?_ | refine blk_alloc ?_ _)); refine blk_put (cs := #[.bool t342, .string (⟨#[]⟩ : ByteArray), .int .i64 0]) ?_ 1 _ rfl; (with_reducible repeat (first | refine blk_drewN ?_ _ | refine blk_drew ?_ | refine blk_alloc ?_ _)); refine blk_put (cs := #[.bool false, .string (⟨#[]⟩ : ByteArray), .int .i64 0]) ?_ 0 _ rfl; (with_reducible repeat (first | refine blk_drewN ?_ _ | refine blk_drew ?_ | refine blk_alloc ?_ _)); exact BK345.out⟩
       have n6_ : Aside0 (Below w.heap.size w (((w221.setCell ⟨gb345, 0, none⟩ (.bool t342)).setCell ⟨gb345, 1, none⟩ (.string t343)).setCell ⟨gb345, 2, none⟩ (.int .i64 t344))) := (bl_ HB)
       (try clear BK304)
       (try clear BK311)
       (try clear BK315)
       (try clear BK322)
       (try clear BK341)
       (try clear BK345)
       (try clear HB)
       generalize (((w221.setCell ⟨gb345, 0, none⟩ (.bool t342)).setCell ⟨gb345, 1, none⟩ (.string t343)).setCell ⟨gb345, 2, none⟩ (.int .i64 t344)) = w228 at n0_ n1_ n2_ n3_ n4_ n5_ n6_ ⊢
       have BK304 := n0_
       have BK311 := n1_
       have BK315 := n2_
       have BK322 := n3_
       have BK341 := n4_
       have BK345 := n5_
       have HB := n6_
       clear n0_ n1_ n2_ n3_ n4_ n5_ n6_
       replace BK304 := Aside0.mk (blk_drew BK304.out)
       replace BK311 := Aside0.mk (blk_drew BK311.out)
       replace BK315 := Aside0.mk (blk_drew BK315.out)
       replace BK322 := Aside0.mk (blk_drew BK322.out)
       replace BK341 := Aside0.mk (blk_drew BK341.out)
       replace BK345 := Aside0.mk (blk_drew BK345.out)
       replace HB := Aside0.mk (below_drew1 HB.out)
       refine start_ (n := 32) (S := fun w' => w'.cell? ⟨gb311, 0, none⟩ = some (.bool t308) ∧ w'.cell? ⟨gb311, 1, none⟩ = some (.string t309) ∧ w'.cell? ⟨gb311, 2, none⟩ = some (.int .i64 t310) ∧ w'.cell? ⟨gb315, 0, none⟩ = some (.bool t312) ∧ w'.cell? ⟨gb315, 1, none⟩ = some (.string t313) ∧ w'.cell? ⟨gb315, 2, none⟩ = some (.int .i64 t314)) (ds := []) #[false, false, false, false, false, false, false, false, false, false, false, false, false, false, false, false, false, false, false, false, false, false, false, false, false, false, false, false, false, false, false, false] (by kernel_rfl) rfl rfl ⟨bc_ BK311 0, bc_ BK311 1, bc_ BK311 2, bc_ BK315 0, bc_ BK315 1, bc_ BK315 2⟩ (fun hHeld => ?_); refine with_tabW florinlaw03_RoundSigns.tab14 florinlaw03_RoundSigns.bits14 (fun HT_ HW_ => ?_)
       generalize w228.drew = w229 at BK304 BK311 BK315 BK322 BK341 BK345 HB hHeld ⊢
       refine pu_ 2 61 (bm_ 32 4) HT_ ?_
       refine pu_ 3 62 (bm_ 32 12) HT_ ?_
       refine tk_ 0 59 (bm_ 32 13) HT_ HW_ hHeld rfl (by rintro w' ⟨s0, s1, s2, s3, s4, s5⟩; go_simp; with_reducible rfl) ?_
       refine tk_ 6 65 (bm_ 32 77) HT_ HW_ hHeld rfl (by rintro w' ⟨s0, s1, s2, s3, s4, s5⟩; go_simp; with_reducible rfl) ?_
       refine one_ (i := 1) (N := some 60) (bm_ 32 79) rfl rfl (one_of HT_.out (by kernel_rfl)) (by decide) (fun K hK => ?_)
       refine gs_ Tryd.func20 #[.agg #[.bool t308, .string t309, .int .i64 t310]] ?_
       with_reducible refine (dec_Dec_Minus.calls kj12 t308 t309 t310 t346 t347 t348 _ A64.out).mono ?_
       rintro e w230 ⟨rfl, hb⟩
       refine ⟨_, rfl, ?_⟩
       replace BK304 := bb_ BK304 hb
       replace BK311 := bb_ BK311 hb
       replace BK315 := bb_ BK315 hb
       replace BK322 := bb_ BK322 hb
       replace BK341 := bb_ BK341 hb
       replace BK345 := bb_ BK345 hb
       replace HB := Aside0.mk (below_step (bl_ HB).out hb)
       (try clear hb)
       (try clear hb2)
       (try clear hk)
       (try clear hi)
       refine hK.out _ _ ⟨bc_ BK311 0, bc_ BK311 1, bc_ BK311 2, bc_ BK315 0, bc_ BK315 1, bc_ BK315 2⟩ (fun hHeld => ?_)
       clear hK K
       refine nm_ 60 ?_
       refine one_ (i := 4) (N := some 63) (bm_ 32 95) rfl rfl (one_of HT_.out (by kernel_rfl)) (by decide) (fun K hK => ?_)
       refine gs_ Tryd.func21 #[.int .i64 t307] ?_
       with_reducible refine (florinlaw03_turned.calls t307 t349 _ A65.out).mono ?_
       rintro e w' ⟨rfl, ⟨nd, rfl⟩⟩
       refine ⟨_, rfl, ?_⟩
       refine hK.out _ _ ⟨bc_ BK311 0, bc_ BK311 1, bc_ BK311 2, bc_ BK315 0, bc_ BK315 1, bc_ BK315 2⟩ (fun hHeld => ?_)
       clear hK K
       refine nm_ 63 ?_
       refine one_ (i := 5) (N := some 64) (bm_ 32 127) rfl rfl (one_of HT_.out (by kernel_rfl)) (by decide) (fun K hK => ?_)
       refine gs_ Tryd.func13 #[.agg #[.bool t346, .string t347, .int .i64 t348], .int .i64 (wrap64 ((Int.tmod a1 60) - (wrap64 (Int.tdiv (Int.tmod a1 60) 2)))), .int .i64 t349] ?_
       with_reducible refine (round_At.calls kj12 t346 t347 t348 (wrap64 ((Int.tmod a1 60) - (wrap64 (Int.tdiv (Int.tmod a1 60) 2)))) t349 t350 t351 t352 _ A66.out).mono ?_
       rintro e w231 ⟨rfl, hb⟩
       refine ⟨_, rfl, ?_⟩
       replace BK304 := bb_ BK304 hb
       replace BK311 := bb_ BK311 hb
       replace BK315 := bb_ BK315 hb
       replace BK322 := bb_ BK322 hb
       replace BK341 := bb_ BK341 hb
       replace BK345 := bb_ BK345 hb
       replace HB := Aside0.mk (below_step (bl_ HB).out hb)
       (try clear hb)
       (try clear hb2)
       (try clear hk)
       (try clear hi)
       refine hK.out _ _ ⟨bc_ BK311 0, bc_ BK311 1, bc_ BK311 2, bc_ BK315 0, bc_ BK315 1, bc_ BK315 2⟩ (fun hHeld => ?_)
       clear hK K
       refine nm_ 64 ?_
       refine one_ (i := 7) (N := some 66) (bm_ 32 255) rfl rfl (one_of HT_.out (by kernel_rfl)) (by decide) (fun K hK => ?_)
       refine gs_ Tryd.func20 #[.agg #[.bool t312, .string t313, .int .i64 t314]] ?_
       with_reducible refine (dec_Dec_Minus.calls kj12 t312 t313 t314 t353 t354 t355 _ A67.out).mono ?_
       rintro e w232 ⟨rfl, hb⟩
       refine ⟨_, rfl, ?_⟩
       replace BK304 := bb_ BK304 hb
       replace BK311 := bb_ BK311 hb
       replace BK315 := bb_ BK315 hb
       replace BK322 := bb_ BK322 hb
       replace BK341 := bb_ BK341 hb
       replace BK345 := bb_ BK345 hb
       replace HB := Aside0.mk (below_step (bl_ HB).out hb)
       (try clear hb)
       (try clear hb2)
       (try clear hk)
       (try clear hi)
       refine hK.out _ _ ⟨bc_ BK311 0, bc_ BK311 1, bc_ BK311 2, bc_ BK315 0, bc_ BK315 1, bc_ BK315 2⟩ (fun hHeld => ?_)
       clear hK K
       refine nm_ 66 ?_
       refine pu_ 8 67 (bm_ 32 511) HT_ ?_
       refine pu_ 9 68 (bm_ 32 1023) HT_ ?_
       refine pn_ 10 69 (bm_ 32 2047) HT_ ?_
       refine pn_ 11 70 (bm_ 32 4095) HT_ ?_
       refine pn_ 12 71 (bm_ 32 8191) HT_ ?_
       refine pn_ 13 72 (bm_ 32 16383) HT_ ?_
       refine pn_ 14 73 (bm_ 32 32767) HT_ ?_
       refine pn_ 15 74 (bm_ 32 65535) HT_ ?_
       refine pn_ 16 75 (bm_ 32 131071) HT_ ?_
       refine pn_ 17 76 (bm_ 32 262143) HT_ ?_
       refine pu_ 18 77 (bm_ 32 524287) HT_ ?_
       refine pu_ 19 78 (bm_ 32 1048575) HT_ ?_
       refine pn_ 20 79 (bm_ 32 2097151) HT_ ?_
       refine pn_ 21 80 (bm_ 32 4194303) HT_ ?_
       refine pn_ 22 81 (bm_ 32 8388607) HT_ ?_
       refine pn_ 23 82 (bm_ 32 16777215) HT_ ?_
       refine pu_ 24 83 (bm_ 32 33554431) HT_ ?_
       refine pu_ 25 84 (bm_ 32 67108863) HT_ ?_
       refine pn_ 26 85 (bm_ 32 134217727) HT_ ?_
       refine pn_ 27 86 (bm_ 32 268435455) HT_ ?_
       refine pn_ 28 87 (bm_ 32 536870911) HT_ ?_
       refine pn_ 29 88 (bm_ 32 1073741823) HT_ ?_
       refine pu_ 30 89 (bm_ 32 2147483647) HT_ ?_
       refine pu_ 31 6 (bm_ 32 4294967295) HT_ ?_
       refine done_ (done_of HT_.out (by kernel_rfl)) ?_
       try go_wp2
       go_ret
       exact ⟨by first | rfl | (simp [errW_none, errW_some] <;> rfl) | (simp [*, errW_none, errW_some] <;> first | rfl | exact given_isEmpty _ | exact (given_isEmpty _).symm), by repeat (first | (with_reducible first | exact HB.out | apply below_alloc | apply pw_below_drewN | apply below_drew1 | refine below_set ?_ GE304.out | refine below_set ?_ GE311.out | refine below_set ?_ GE315.out | refine below_set ?_ GE322.out | refine below_set ?_ GE341.out | refine below_set ?_ GE345.out) | exact HB.out)⟩
  ·replace c7 := Bool.eq_false_iff.mpr c7
   subst c7
   have H1 : (some true) = some r := by rw [if_neg (show ¬ (false = true) by decide)] at H; exact H
   clear H
   have H := H1
   clear H1
   obtain rfl := Option.some.inj H
   go_enter Tryd.func4, Tryd.ntmps4
   go_wp2_with (first | ((with_reducible refine gate_dst (N := 3) rfl ?_); refine box_event ?hg (N := 3) ?hd (cs := #[.bool a0_0, .slice A0_1 l0_1.length c0_1, .int .i64 a0_2]) (t := 24) ?hr ?_; (case hd => rfl); (case hg => rfl); (case hr => first | (go_simp; done) | (go_simp; rfl)); intro gb304 hg w233 hbox hb; have n0_ := Aside0.mk (below_step (bl_ HB).out hb); have n1_ := Aside0.mk (hbox); have n2_ := Aside0.mk ((by rw [hg]; exact (below_size (bl_ HB).out) : w.heap.size ≤ gb304)); have n3_ := Aside0.mk ((by rw [hg]; exact (below_size (bl_ HB).out) : w.heap.size ≤ gb304)); clear HB; have HB := n0_; have BK304 := n1_; have GW304 := n2_; have GE304 := n3_; clear n0_ n1_ n2_ n3_; clear hb hbox hg) | ((with_reducible refine gate_callee (f := 10) rfl ?_); refine goesL_ (some 13) rfl rfl Tryd.func10 (by kernel_rfl) rfl #[] rfl (by (try simp only [List.map_toArray, List.map_cons, List.map_nil]); first | done | rfl | (simp only [List.length_drop, List.length_take]; rfl) | (have z_ : ∀ s_ : ByteArray, s_.size ≤ 9223372036854775807 → -(s_.size : Int) = wrap64 (-(s_.size : Int)) := (fun s_ h_ => by unfold wrap64; omega); rw [← z_ _ (by omega)]; rfl) | (simp only [ByteArray.size_append]; rfl)) ?_; (with_reducible refine (florinlaw03_head.calls k  true _ A4.out).mono ?_); rintro e w234 ⟨rfl, hb⟩; refine ⟨_, rfl, ?_⟩; have n0_ := bb_ BK304 hb; have n1_ := Aside0.mk (below_step (bl_ HB).out hb); clear BK304; clear HB; have BK304 := n0_; have HB := n1_; clear n0_ n1_; (try clear hb); (try clear hb2); (try clear hk); (try clear hi); have hcz235_0 : w234.cell? ⟨gb304, 0, none⟩ = some (.bool a0_0) := bc_ BK304 0; have hcz235_1 : w234.cell? ⟨gb304, 1, none⟩ = some (.slice A0_1 l0_1.length c0_1) := bc_ BK304 1; have hcz235_2 : w234.cell? ⟨gb304, 2, none⟩ = some (.int .i64 a0_2) := bc_ BK304 2; have hfz235_0 := blk_frozen BK304.out 0; have hfz235_1 := blk_frozen BK304.out 1; have hfz235_2 := blk_frozen BK304.out 2) | ((with_reducible refine gate_callee (f := 11) rfl ?_); refine goesL_ (some 16) rfl rfl Tryd.func11 (by kernel_rfl) rfl #[.agg #[.bool a0_0, .slice A0_1 l0_1.length c0_1, .int .i64 a0_2], .int .i64 40] rfl (by (try simp only [List.map_toArray, List.map_cons, List.map_nil]); first | done | rfl | (simp only [List.length_drop, List.length_take]; rfl) | (have z_ : ∀ s_ : ByteArray, s_.size ≤ 9223372036854775807 → -(s_.size : Int) = wrap64 (-(s_.size : Int)) := (fun s_ h_ => by unfold wrap64; omega); rw [← z_ _ (by omega)]; rfl) | (simp only [ByteArray.size_append]; rfl)) ?_; (with_reducible refine (florinlaw02_Raw_Few.calls a0_0 _ _ l0_1 a0_2 40 false _ ?side1 ?side2 A6.out).mono ?_); (case side1 => repeat (first | exact (Kd.C_below HR0_1.out HB.out) | (with_reducible refine Kd.C_alloc ?_ _) | (with_reducible refine Kd.C_drewN ?_ _) | (with_reducible refine Kd.C_drew ?_))); (case side2 => exact HC0_1.out); rintro e w236 ⟨rfl, hb⟩; refine ⟨_, rfl, ?_⟩; have n0_ := bb_ BK304 hb; have n1_ := Aside0.mk (below_step (bl_ HB).out hb); clear BK304; clear HB; have BK304 := n0_; have HB := n1_; clear n0_ n1_; (try clear hb); (try clear hb2); (try clear hk); (try clear hi)))
   go_ret
   exact ⟨by first | rfl | (simp [errW_none, errW_some] <;> rfl) | (simp [*, errW_none, errW_some] <;> first | rfl | exact given_isEmpty _ | exact (given_isEmpty _).symm), by repeat (first | (with_reducible first | exact HB.out | apply below_alloc | apply pw_below_drewN | apply below_drew1 | refine below_set ?_ GE304.out) | exact HB.out)⟩
 ·replace c5 := Bool.eq_false_iff.mpr c5
  subst c5
  have H1 : (some false) = some r := by rw [if_neg (show ¬ (false = true) by decide)] at H; exact H
  clear H
  have H := H1
  clear H1
  obtain rfl := Option.some.inj H
  go_enter Tryd.func4, Tryd.ntmps4
  go_wp2_with (first | ((with_reducible refine gate_dst (N := 3) rfl ?_); refine box_event ?hg (N := 3) ?hd (cs := #[.bool a0_0, .slice A0_1 l0_1.length c0_1, .int .i64 a0_2]) (t := 24) ?hr ?_; (case hd => rfl); (case hg => rfl); (case hr => first | (go_simp; done) | (go_simp; rfl)); intro gb304 hg w237 hbox hb; have n0_ := Aside0.mk (below_step (bl_ HB).out hb); have n1_ := Aside0.mk (hbox); have n2_ := Aside0.mk ((by rw [hg]; exact (below_size (bl_ HB).out) : w.heap.size ≤ gb304)); have n3_ := Aside0.mk ((by rw [hg]; exact (below_size (bl_ HB).out) : w.heap.size ≤ gb304)); clear HB; have HB := n0_; have BK304 := n1_; have GW304 := n2_; have GE304 := n3_; clear n0_ n1_ n2_ n3_; clear hb hbox hg) | ((with_reducible refine gate_callee (f := 10) rfl ?_); refine goesL_ (some 13) rfl rfl Tryd.func10 (by kernel_rfl) rfl #[] rfl (by (try simp only [List.map_toArray, List.map_cons, List.map_nil]); first | done | rfl | (simp only [List.length_drop, List.length_take]; rfl) | (have z_ : ∀ s_ : ByteArray, s_.size ≤ 9223372036854775807 → -(s_.size : Int) = wrap64 (-(s_.size : Int)) := (fun s_ h_ => by unfold wrap64; omega); rw [← z_ _ (by omega)]; rfl) | (simp only [ByteArray.size_append]; rfl)) ?_; (with_reducible refine (florinlaw03_head.calls k  false _ A4.out).mono ?_); rintro e w238 ⟨rfl, hb⟩; refine ⟨_, rfl, ?_⟩; have n0_ := bb_ BK304 hb; have n1_ := Aside0.mk (below_step (bl_ HB).out hb); clear BK304; clear HB; have BK304 := n0_; have HB := n1_; clear n0_ n1_; (try clear hb); (try clear hb2); (try clear hk); (try clear hi)))
  go_ret
  exact ⟨by first | rfl | (simp [errW_none, errW_some] <;> rfl) | (simp [*, errW_none, errW_some] <;> first | rfl | exact given_isEmpty _ | exact (given_isEmpty _).symm), by repeat (first | (with_reducible first | exact HB.out | apply below_alloc | apply pw_below_drewN | apply below_drew1 | refine below_set ?_ GE304.out) | exact HB.out)⟩

end Go.Proofs.YtoegmienlhgjnaaDoor.P
