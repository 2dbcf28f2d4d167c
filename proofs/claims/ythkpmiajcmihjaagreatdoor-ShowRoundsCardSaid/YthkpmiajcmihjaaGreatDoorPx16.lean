-- written by a program of this session (wip/p2)
import Derived.Test.YthkpmiajcmihjaaGreatDoorPx0
import Derived.Test.YthkpmiajcmihjaaGreatDoorPx1
import Derived.Test.YthkpmiajcmihjaaGreatDoorPx2
import Derived.Test.YthkpmiajcmihjaaGreatDoorPx4
import Derived.Test.YthkpmiajcmihjaaGreatDoorPx6
import Derived.Test.YthkpmiajcmihjaaGreatDoorPx7
import Derived.Test.YthkpmiajcmihjaaGreatDoorPx9
import Derived.Test.YthkpmiajcmihjaaGreatDoorPx11
import Derived.Test.YthkpmiajcmihjaaGreatDoorPx14
import Derived.Test.YthkpmiajcmihjaaGreatDoorPx15
namespace Go.Proofs.YthkpmiajcmihjaaGreatDoor.P
open Go.RowKit Go.Proofs.YthkpmiajcmihjaaGreatDoorW.PrintWords Go.Proofs.YthkpmiajcmihjaaGreatDoorW.PrintLast Go.Proofs.YthkpmiajcmihjaaGreatDoorW.PrintMore
attribute [local go_sem] max2_int min2_int max_two min_two max_three min_three max_four min_four   -- for this text's walks alone
set_option linter.unusedVariables false
set_option linter.unusedSimpArgs false

attribute [local go_sem high] eqA31
/-! ### florinlaw04_ShowRounds: function 3 -/
def florinlaw04_ShowRounds.j0 : Nat → Bool → Int → Int → Int → Bool → ByteArray → Int → Int → Int → Bool → ByteArray → Int → Bool → ByteArray → ByteArray → Option (Bool)
  | 0, _, _, _, _, _, _, _, _, _, _, _, _, _, _, _ => none
  | k + 1, x39, x469000, x469001, x469002, x469003, x469004, x469005, x469006, x469007, x476000, x476001, x476002, x481000, x481001, x481002 => if x39 = true then (some false) else ((dec_Dec_Zero.f k x476000 x476001 x476002).bind fun t488 => (if t488 = true then ((show_Vis_Value.f k x481000 x481001 x481002).bind fun bt489 => (some (!bt489.1 && (bt489.2.1.toList == ([] : List UInt8) && (bt489.2.2 == 0))))) else ((show_Vis_Value.f k x481000 x481001 x481002).bind fun bt492 => ((florinlaw04_unit.f k x469000 x469001 x469002 x469003 x469004 x469005 x469006 x469007 x476000 x476001 x476002).bind fun bt495 => ((florinlaw03_Rounded.f k x476000 x476001 x476002 bt492.1 bt492.2.1 bt492.2.2 bt495.1 bt495.2.1 bt495.2.2 x469006).bind fun t498 => (some t498))))))
def florinlaw04_ShowRounds.f (k : Nat) (a0_0 : Bool) (l0_1 : List Int) (a0_2 : Int) (a1_0 : Int) (a1_1 : Int) (a1_2 : Int) (a1_3 : Int) (a1_4 : Int) (a1_5 : Int) (a1_6 : Int) : Option (Bool) := (florinlaw04_head.f k).bind fun t458 => (if t458 = true then ((florinlaw02_Raw_Few.f a0_0 l0_1 a0_2 30).bind fun t459 => (if t459 = true then ((florinlaw04_Ask_Prec.f k a1_0 a1_1 a1_2 a1_3 a1_4 a1_5 a1_6).bind fun bt460 => ((florinlaw02_Raw_Make.f k a0_0 l0_1 a0_2).bind fun bt469 => ((dec_Dec_Norm.f k bt469.1 bt469.2.1 bt469.2.2).bind fun bt472 => ((show_Prec_Apply.f k bt460.1 bt460.2.1 bt460.2.2.1 bt460.2.2.2.1 bt460.2.2.2.2.1 bt460.2.2.2.2.2.1 bt460.2.2.2.2.2.2.1 bt460.2.2.2.2.2.2.2 bt472.1 bt472.2.1 bt472.2.2).bind fun bt476 => ((show_Prec_Valid.f k bt460.1 bt460.2.1 bt460.2.2.1 bt460.2.2.2.1 bt460.2.2.2.2.1 bt460.2.2.2.2.2.1 bt460.2.2.2.2.2.2.1 bt460.2.2.2.2.2.2.2).bind fun t481 => (if t481 = true then (if bt476.2.2.2 = 0 then ((show_Vis_Value.f k bt476.1 bt476.2.1 bt476.2.2.1).bind fun bt482 => ((show_Prec_Round.f k bt460.1 bt460.2.1 bt460.2.2.1 bt460.2.2.2.1 bt460.2.2.2.2.1 bt460.2.2.2.2.2.1 bt460.2.2.2.2.2.2.1 bt460.2.2.2.2.2.2.2 bt472.1 bt472.2.1 bt472.2.2).bind fun bt485 => (florinlaw04_ShowRounds.j0 k (!(bt482.1 == bt485.1) || (!(bt482.2.1.toList == bt485.2.1.toList) || (!(bt482.2.2 == bt485.2.2)))) bt460.1 bt460.2.1 bt460.2.2.1 bt460.2.2.2.1 bt460.2.2.2.2.1 bt460.2.2.2.2.2.1 bt460.2.2.2.2.2.2.1 bt460.2.2.2.2.2.2.2 bt472.1 bt472.2.1 bt472.2.2 bt476.1 bt476.2.1 bt476.2.2.1))) else (florinlaw04_ShowRounds.j0 k true bt460.1 bt460.2.1 bt460.2.2.1 bt460.2.2.2.1 bt460.2.2.2.2.1 bt460.2.2.2.2.2.1 bt460.2.2.2.2.2.2.1 bt460.2.2.2.2.2.2.2 bt472.1 bt472.2.1 bt472.2.2 bt476.1 bt476.2.1 bt476.2.2.1)) else (florinlaw04_ShowRounds.j0 k true bt460.1 bt460.2.1 bt460.2.2.1 bt460.2.2.2.1 bt460.2.2.2.2.1 bt460.2.2.2.2.2.1 bt460.2.2.2.2.2.2.1 bt460.2.2.2.2.2.2.2 bt472.1 bt472.2.1 bt472.2.2 bt476.1 bt476.2.1 bt476.2.2.1))))))) else (some true))) else (some false))
theorem florinlaw04_ShowRounds.mono_l : ∀ k, (∀ y0 y1 y2 y3 y4 y5 y6 y7 y8 y9 y10 y11 y12 y13 y14, LeO (florinlaw04_ShowRounds.j0 k y0 y1 y2 y3 y4 y5 y6 y7 y8 y9 y10 y11 y12 y13 y14) (florinlaw04_ShowRounds.j0 (k + 1) y0 y1 y2 y3 y4 y5 y6 y7 y8 y9 y10 y11 y12 y13 y14))
  | 0 => fun _ _ _ _ _ _ _ _ _ _ _ _ _ _ _ r h => by simp [florinlaw04_ShowRounds.j0] at h
  | k + 1 => by
    have ih0 := florinlaw04_ShowRounds.mono_l k
    · intro y0 y1 y2 y3 y4 y5 y6 y7 y8 y9 y10 y11 y12 y13 y14
      unfold florinlaw04_ShowRounds.j0
      repeat' first
      | (with_reducible exact ih0 _ _ _ _ _ _ _ _ _ _ _ _ _ _ _)
      | (with_reducible exact dec_Dec_Norm.mono _ _ _ _)
      | (with_reducible exact dec_Dec_Zero.mono _ _ _ _)
      | (with_reducible exact florinlaw02_Raw_Make.mono _ _ _ _)
      | (with_reducible exact florinlaw03_Rounded.mono _ _ _ _ _ _ _ _ _ _ _)
      | (with_reducible exact florinlaw04_Ask_Prec.mono _ _ _ _ _ _ _ _)
      | (with_reducible exact florinlaw04_head.mono _)
      | (with_reducible exact florinlaw04_unit.mono _ _ _ _ _ _ _ _ _ _ _ _)
      | (with_reducible exact show_Prec_Apply.mono _ _ _ _ _ _ _ _ _ _ _ _)
      | (with_reducible exact show_Prec_Round.mono _ _ _ _ _ _ _ _ _ _ _ _)
      | (with_reducible exact show_Prec_Valid.mono _ _ _ _ _ _ _ _ _)
      | (with_reducible exact show_Vis_Value.mono _ _ _ _)
      | (with_reducible exact LeO.refl _)
      | (with_reducible exact LeO.none _)
      | (with_reducible refine LeO.ite ?_ ?_)
      | (with_reducible refine LeO.bind ?_ (fun _ => ?_))
      | exact ih0 _ _ _ _ _ _ _ _ _ _ _ _ _ _ _
      | exact dec_Dec_Norm.mono _ _ _ _
      | exact dec_Dec_Zero.mono _ _ _ _
      | exact florinlaw02_Raw_Make.mono _ _ _ _
      | exact florinlaw03_Rounded.mono _ _ _ _ _ _ _ _ _ _ _
      | exact florinlaw04_Ask_Prec.mono _ _ _ _ _ _ _ _
      | exact florinlaw04_head.mono _
      | exact florinlaw04_unit.mono _ _ _ _ _ _ _ _ _ _ _ _
      | exact show_Prec_Apply.mono _ _ _ _ _ _ _ _ _ _ _ _
      | exact show_Prec_Round.mono _ _ _ _ _ _ _ _ _ _ _ _
      | exact show_Prec_Valid.mono _ _ _ _ _ _ _ _ _
      | exact show_Vis_Value.mono _ _ _ _
      | exact LeO.none _
      | refine LeO.ite ?_ ?_
      | refine LeO.bind ?_ (fun _ => ?_)
theorem florinlaw04_ShowRounds.mono : ∀ a0 a1 a2 a3 a4 a5 a6 a7 a8 a9 k, LeO (florinlaw04_ShowRounds.f k a0 a1 a2 a3 a4 a5 a6 a7 a8 a9) (florinlaw04_ShowRounds.f (k + 1) a0 a1 a2 a3 a4 a5 a6 a7 a8 a9) := by
  intro a0 a1 a2 a3 a4 a5 a6 a7 a8 a9 k
  have ih0 := florinlaw04_ShowRounds.mono_l k
  unfold florinlaw04_ShowRounds.f
  repeat' first
      | (with_reducible exact ih0 _ _ _ _ _ _ _ _ _ _ _ _ _ _ _)
      | (with_reducible exact dec_Dec_Norm.mono _ _ _ _)
      | (with_reducible exact dec_Dec_Zero.mono _ _ _ _)
      | (with_reducible exact florinlaw02_Raw_Make.mono _ _ _ _)
      | (with_reducible exact florinlaw03_Rounded.mono _ _ _ _ _ _ _ _ _ _ _)
      | (with_reducible exact florinlaw04_Ask_Prec.mono _ _ _ _ _ _ _ _)
      | (with_reducible exact florinlaw04_head.mono _)
      | (with_reducible exact florinlaw04_unit.mono _ _ _ _ _ _ _ _ _ _ _ _)
      | (with_reducible exact show_Prec_Apply.mono _ _ _ _ _ _ _ _ _ _ _ _)
      | (with_reducible exact show_Prec_Round.mono _ _ _ _ _ _ _ _ _ _ _ _)
      | (with_reducible exact show_Prec_Valid.mono _ _ _ _ _ _ _ _ _)
      | (with_reducible exact show_Vis_Value.mono _ _ _ _)
      | (with_reducible exact LeO.refl _)
      | (with_reducible exact LeO.none _)
      | (with_reducible refine LeO.ite ?_ ?_)
      | (with_reducible refine LeO.bind ?_ (fun _ => ?_))
      | exact ih0 _ _ _ _ _ _ _ _ _ _ _ _ _ _ _
      | exact dec_Dec_Norm.mono _ _ _ _
      | exact dec_Dec_Zero.mono _ _ _ _
      | exact florinlaw02_Raw_Make.mono _ _ _ _
      | exact florinlaw03_Rounded.mono _ _ _ _ _ _ _ _ _ _ _
      | exact florinlaw04_Ask_Prec.mono _ _ _ _ _ _ _ _
      | exact florinlaw04_head.mono _
      | exact florinlaw04_unit.mono _ _ _ _ _ _ _ _ _ _ _ _
      | exact show_Prec_Apply.mono _ _ _ _ _ _ _ _ _ _ _ _
      | exact show_Prec_Round.mono _ _ _ _ _ _ _ _ _ _ _ _
      | exact show_Prec_Valid.mono _ _ _ _ _ _ _ _ _
      | exact show_Vis_Value.mono _ _ _ _
      | exact LeO.none _
      | refine LeO.ite ?_ ?_
      | refine LeO.bind ?_ (fun _ => ?_)
def florinlaw04_ShowRounds.T8 : Bool × List (List Nat × List Nat) := (true, [([], []), ([0], [0]), ([1], [1]), ([2, 1], [2]), ([3], [3]), ([4, 3], [3, 4]), ([3, 5], [3, 5]), ([6, 3], [6]), ([7], [7]), ([8, 7, 7], [7, 8]), ([7], [7]), ([7], [7]), ([10, 11, 9, 7], [7, 10, 11]), ([9, 12, 7], [7, 9, 12]), ([7, 13], [7, 13])])
def florinlaw04_ShowRounds.B8 : List Nat := [0, 1, 3, 7, 15, 31, 63, 127, 255, 511, 255, 255, 4095, 8191, 16383]
theorem florinlaw04_ShowRounds.tab8 : rtab .any (opsOf Tryz.f3 8) = florinlaw04_ShowRounds.T8 := by kernel_rfl
theorem florinlaw04_ShowRounds.bits8 : waitsOk florinlaw04_ShowRounds.T8.2 florinlaw04_ShowRounds.B8 = true := by kernel_rfl
def florinlaw04_ShowRounds.T12 : Bool × List (List Nat × List Nat) := (true, [([], []), ([], []), ([1], [1]), ([], []), ([], []), ([3, 4, 2], [3, 4]), ([], []), ([6], [6]), ([0, 2, 5, 7, 5], [0, 2, 5, 7]), ([8, 8, 0, 1, 2, 3, 4, 5, 6, 7, 8], [8])])
def florinlaw04_ShowRounds.B12 : List Nat := [0, 0, 2, 0, 0, 30, 0, 64, 255, 511]
theorem florinlaw04_ShowRounds.tab12 : rtab .any (opsOf Tryz.f3 12) = florinlaw04_ShowRounds.T12 := by kernel_rfl
theorem florinlaw04_ShowRounds.bits12 : waitsOk florinlaw04_ShowRounds.T12.2 florinlaw04_ShowRounds.B12 = true := by kernel_rfl
set_option maxHeartbeats 8000000 in
set_option maxRecDepth 100000 in
theorem florinlaw04_ShowRounds.calls (k : Nat) (a0_0 : Bool) (A0_1 : Option Addr) (c0_1 : Nat) (l0_1 : List Int) (a0_2 : Int) (a1_0 : Int) (a1_1 : Int) (a1_2 : Int) (a1_3 : Int) (a1_4 : Int) (a1_5 : Int) (a1_6 : Int) (r : Bool) (w : World) (hr0_1 : Kd.C (Kd.int .u8) w A0_1 l0_1.length l0_1) (hc0_1 : l0_1.length ≤ c0_1) (h : florinlaw04_ShowRounds.f k a0_0 l0_1 a0_2 a1_0 a1_1 a1_2 a1_3 a1_4 a1_5 a1_6 = some r) :
    Calls Tryz.prog 3 #[.agg #[.bool a0_0, .slice A0_1 l0_1.length c0_1, .int .i64 a0_2], .agg #[.int .i64 a1_0, .int .i64 a1_1, .int .i64 a1_2, .int .i64 a1_3, .int .i64 a1_4, .int .i64 a1_5, .int .i64 a1_6]] w fun e w' => e = .returned (.bool r) ∧ Below w.heap.size w w' := by
  have hu24 := Tryz.underlying24
  have hu26 := Tryz.underlying26
  have hu34 := Tryz.underlying34
  have hu31 := Tryz.underlying31
  have hu38 := Tryz.underlying38
  have HR0_1 := Aside0.mk hr0_1
  have HC0_1 := Aside0.mk hc0_1
  clear hr0_1 hc0_1
  have HB := Aside0.mk (Below.refl w.heap.size w)
  have H : ((florinlaw04_head.f k).bind fun t458 => (if t458 = true then ((florinlaw02_Raw_Few.f a0_0 l0_1 a0_2 30).bind fun t459 => (if t459 = true then ((florinlaw04_Ask_Prec.f k a1_0 a1_1 a1_2 a1_3 a1_4 a1_5 a1_6).bind fun bt460 => ((florinlaw02_Raw_Make.f k a0_0 l0_1 a0_2).bind fun bt469 => ((dec_Dec_Norm.f k bt469.1 bt469.2.1 bt469.2.2).bind fun bt472 => ((show_Prec_Apply.f k bt460.1 bt460.2.1 bt460.2.2.1 bt460.2.2.2.1 bt460.2.2.2.2.1 bt460.2.2.2.2.2.1 bt460.2.2.2.2.2.2.1 bt460.2.2.2.2.2.2.2 bt472.1 bt472.2.1 bt472.2.2).bind fun bt476 => ((show_Prec_Valid.f k bt460.1 bt460.2.1 bt460.2.2.1 bt460.2.2.2.1 bt460.2.2.2.2.1 bt460.2.2.2.2.2.1 bt460.2.2.2.2.2.2.1 bt460.2.2.2.2.2.2.2).bind fun t481 => (if t481 = true then (if bt476.2.2.2 = 0 then ((show_Vis_Value.f k bt476.1 bt476.2.1 bt476.2.2.1).bind fun bt482 => ((show_Prec_Round.f k bt460.1 bt460.2.1 bt460.2.2.1 bt460.2.2.2.1 bt460.2.2.2.2.1 bt460.2.2.2.2.2.1 bt460.2.2.2.2.2.2.1 bt460.2.2.2.2.2.2.2 bt472.1 bt472.2.1 bt472.2.2).bind fun bt485 => (florinlaw04_ShowRounds.j0 k (!(bt482.1 == bt485.1) || (!(bt482.2.1.toList == bt485.2.1.toList) || (!(bt482.2.2 == bt485.2.2)))) bt460.1 bt460.2.1 bt460.2.2.1 bt460.2.2.2.1 bt460.2.2.2.2.1 bt460.2.2.2.2.2.1 bt460.2.2.2.2.2.2.1 bt460.2.2.2.2.2.2.2 bt472.1 bt472.2.1 bt472.2.2 bt476.1 bt476.2.1 bt476.2.2.1))) else (florinlaw04_ShowRounds.j0 k true bt460.1 bt460.2.1 bt460.2.2.1 bt460.2.2.2.1 bt460.2.2.2.2.1 bt460.2.2.2.2.2.1 bt460.2.2.2.2.2.2.1 bt460.2.2.2.2.2.2.2 bt472.1 bt472.2.1 bt472.2.2 bt476.1 bt476.2.1 bt476.2.2.1)) else (florinlaw04_ShowRounds.j0 k true bt460.1 bt460.2.1 bt460.2.2.1 bt460.2.2.2.1 bt460.2.2.2.2.1 bt460.2.2.2.2.2.1 bt460.2.2.2.2.2.2.1 bt460.2.2.2.2.2.2.2 bt472.1 bt472.2.1 bt472.2.2 bt476.1 bt476.2.1 bt476.2.2.1))))))) else (some true))) else (some false))) = some r := h
  clear h
  replace H := Option.bind_eq_some_iff.mp H
  obtain ⟨t458, A30, H⟩ := H
  replace H : (if t458 = true then ((florinlaw02_Raw_Few.f a0_0 l0_1 a0_2 30).bind fun t459 => (if t459 = true then ((florinlaw04_Ask_Prec.f k a1_0 a1_1 a1_2 a1_3 a1_4 a1_5 a1_6).bind fun bt460 => ((florinlaw02_Raw_Make.f k a0_0 l0_1 a0_2).bind fun bt469 => ((dec_Dec_Norm.f k bt469.1 bt469.2.1 bt469.2.2).bind fun bt472 => ((show_Prec_Apply.f k bt460.1 bt460.2.1 bt460.2.2.1 bt460.2.2.2.1 bt460.2.2.2.2.1 bt460.2.2.2.2.2.1 bt460.2.2.2.2.2.2.1 bt460.2.2.2.2.2.2.2 bt472.1 bt472.2.1 bt472.2.2).bind fun bt476 => ((show_Prec_Valid.f k bt460.1 bt460.2.1 bt460.2.2.1 bt460.2.2.2.1 bt460.2.2.2.2.1 bt460.2.2.2.2.2.1 bt460.2.2.2.2.2.2.1 bt460.2.2.2.2.2.2.2).bind fun t481 => (if t481 = true then (if bt476.2.2.2 = 0 then ((show_Vis_Value.f k bt476.1 bt476.2.1 bt476.2.2.1).bind fun bt482 => ((show_Prec_Round.f k bt460.1 bt460.2.1 bt460.2.2.1 bt460.2.2.2.1 bt460.2.2.2.2.1 bt460.2.2.2.2.2.1 bt460.2.2.2.2.2.2.1 bt460.2.2.2.2.2.2.2 bt472.1 bt472.2.1 bt472.2.2).bind fun bt485 => (florinlaw04_ShowRounds.j0 k (!(bt482.1 == bt485.1) || (!(bt482.2.1.toList == bt485.2.1.toList) || (!(bt482.2.2 == bt485.2.2)))) bt460.1 bt460.2.1 bt460.2.2.1 bt460.2.2.2.1 bt460.2.2.2.2.1 bt460.2.2.2.2.2.1 bt460.2.2.2.2.2.2.1 bt460.2.2.2.2.2.2.2 bt472.1 bt472.2.1 bt472.2.2 bt476.1 bt476.2.1 bt476.2.2.1))) else (florinlaw04_ShowRounds.j0 k true bt460.1 bt460.2.1 bt460.2.2.1 bt460.2.2.2.1 bt460.2.2.2.2.1 bt460.2.2.2.2.2.1 bt460.2.2.2.2.2.2.1 bt460.2.2.2.2.2.2.2 bt472.1 bt472.2.1 bt472.2.2 bt476.1 bt476.2.1 bt476.2.2.1)) else (florinlaw04_ShowRounds.j0 k true bt460.1 bt460.2.1 bt460.2.2.1 bt460.2.2.2.1 bt460.2.2.2.2.1 bt460.2.2.2.2.2.1 bt460.2.2.2.2.2.2.1 bt460.2.2.2.2.2.2.2 bt472.1 bt472.2.1 bt472.2.2 bt476.1 bt476.2.1 bt476.2.2.1))))))) else (some true))) else (some false)) = some r := H
  have A3 := Aside0.mk A30
  clear A30
  by_cases c4 : t458 = true
  · subst c4
    have H1 : ((florinlaw02_Raw_Few.f a0_0 l0_1 a0_2 30).bind fun t459 => (if t459 = true then ((florinlaw04_Ask_Prec.f k a1_0 a1_1 a1_2 a1_3 a1_4 a1_5 a1_6).bind fun bt460 => ((florinlaw02_Raw_Make.f k a0_0 l0_1 a0_2).bind fun bt469 => ((dec_Dec_Norm.f k bt469.1 bt469.2.1 bt469.2.2).bind fun bt472 => ((show_Prec_Apply.f k bt460.1 bt460.2.1 bt460.2.2.1 bt460.2.2.2.1 bt460.2.2.2.2.1 bt460.2.2.2.2.2.1 bt460.2.2.2.2.2.2.1 bt460.2.2.2.2.2.2.2 bt472.1 bt472.2.1 bt472.2.2).bind fun bt476 => ((show_Prec_Valid.f k bt460.1 bt460.2.1 bt460.2.2.1 bt460.2.2.2.1 bt460.2.2.2.2.1 bt460.2.2.2.2.2.1 bt460.2.2.2.2.2.2.1 bt460.2.2.2.2.2.2.2).bind fun t481 => (if t481 = true then (if bt476.2.2.2 = 0 then ((show_Vis_Value.f k bt476.1 bt476.2.1 bt476.2.2.1).bind fun bt482 => ((show_Prec_Round.f k bt460.1 bt460.2.1 bt460.2.2.1 bt460.2.2.2.1 bt460.2.2.2.2.1 bt460.2.2.2.2.2.1 bt460.2.2.2.2.2.2.1 bt460.2.2.2.2.2.2.2 bt472.1 bt472.2.1 bt472.2.2).bind fun bt485 => (florinlaw04_ShowRounds.j0 k (!(bt482.1 == bt485.1) || (!(bt482.2.1.toList == bt485.2.1.toList) || (!(bt482.2.2 == bt485.2.2)))) bt460.1 bt460.2.1 bt460.2.2.1 bt460.2.2.2.1 bt460.2.2.2.2.1 bt460.2.2.2.2.2.1 bt460.2.2.2.2.2.2.1 bt460.2.2.2.2.2.2.2 bt472.1 bt472.2.1 bt472.2.2 bt476.1 bt476.2.1 bt476.2.2.1))) else (florinlaw04_ShowRounds.j0 k true bt460.1 bt460.2.1 bt460.2.2.1 bt460.2.2.2.1 bt460.2.2.2.2.1 bt460.2.2.2.2.2.1 bt460.2.2.2.2.2.2.1 bt460.2.2.2.2.2.2.2 bt472.1 bt472.2.1 bt472.2.2 bt476.1 bt476.2.1 bt476.2.2.1)) else (florinlaw04_ShowRounds.j0 k true bt460.1 bt460.2.1 bt460.2.2.1 bt460.2.2.2.1 bt460.2.2.2.2.1 bt460.2.2.2.2.2.1 bt460.2.2.2.2.2.2.1 bt460.2.2.2.2.2.2.2 bt472.1 bt472.2.1 bt472.2.2 bt476.1 bt476.2.1 bt476.2.2.1))))))) else (some true))) = some r := by rw [if_pos rfl] at H; exact H
    clear H
    have H := H1
    clear H1
    replace H := Option.bind_eq_some_iff.mp H
    obtain ⟨t459, A50, H⟩ := H
    replace H : (if t459 = true then ((florinlaw04_Ask_Prec.f k a1_0 a1_1 a1_2 a1_3 a1_4 a1_5 a1_6).bind fun bt460 => ((florinlaw02_Raw_Make.f k a0_0 l0_1 a0_2).bind fun bt469 => ((dec_Dec_Norm.f k bt469.1 bt469.2.1 bt469.2.2).bind fun bt472 => ((show_Prec_Apply.f k bt460.1 bt460.2.1 bt460.2.2.1 bt460.2.2.2.1 bt460.2.2.2.2.1 bt460.2.2.2.2.2.1 bt460.2.2.2.2.2.2.1 bt460.2.2.2.2.2.2.2 bt472.1 bt472.2.1 bt472.2.2).bind fun bt476 => ((show_Prec_Valid.f k bt460.1 bt460.2.1 bt460.2.2.1 bt460.2.2.2.1 bt460.2.2.2.2.1 bt460.2.2.2.2.2.1 bt460.2.2.2.2.2.2.1 bt460.2.2.2.2.2.2.2).bind fun t481 => (if t481 = true then (if bt476.2.2.2 = 0 then ((show_Vis_Value.f k bt476.1 bt476.2.1 bt476.2.2.1).bind fun bt482 => ((show_Prec_Round.f k bt460.1 bt460.2.1 bt460.2.2.1 bt460.2.2.2.1 bt460.2.2.2.2.1 bt460.2.2.2.2.2.1 bt460.2.2.2.2.2.2.1 bt460.2.2.2.2.2.2.2 bt472.1 bt472.2.1 bt472.2.2).bind fun bt485 => (florinlaw04_ShowRounds.j0 k (!(bt482.1 == bt485.1) || (!(bt482.2.1.toList == bt485.2.1.toList) || (!(bt482.2.2 == bt485.2.2)))) bt460.1 bt460.2.1 bt460.2.2.1 bt460.2.2.2.1 bt460.2.2.2.2.1 bt460.2.2.2.2.2.1 bt460.2.2.2.2.2.2.1 bt460.2.2.2.2.2.2.2 bt472.1 bt472.2.1 bt472.2.2 bt476.1 bt476.2.1 bt476.2.2.1))) else (florinlaw04_ShowRounds.j0 k true bt460.1 bt460.2.1 bt460.2.2.1 bt460.2.2.2.1 bt460.2.2.2.2.1 bt460.2.2.2.2.2.1 bt460.2.2.2.2.2.2.1 bt460.2.2.2.2.2.2.2 bt472.1 bt472.2.1 bt472.2.2 bt476.1 bt476.2.1 bt476.2.2.1)) else (florinlaw04_ShowRounds.j0 k true bt460.1 bt460.2.1 bt460.2.2.1 bt460.2.2.2.1 bt460.2.2.2.2.1 bt460.2.2.2.2.2.1 bt460.2.2.2.2.2.2.1 bt460.2.2.2.2.2.2.2 bt472.1 bt472.2.1 bt472.2.2 bt476.1 bt476.2.1 bt476.2.2.1))))))) else (some true)) = some r := H
    have A5 := Aside0.mk A50
    clear A50
    by_cases c6 : t459 = true
    · subst c6
      have H1 : ((florinlaw04_Ask_Prec.f k a1_0 a1_1 a1_2 a1_3 a1_4 a1_5 a1_6).bind fun bt460 => ((florinlaw02_Raw_Make.f k a0_0 l0_1 a0_2).bind fun bt469 => ((dec_Dec_Norm.f k bt469.1 bt469.2.1 bt469.2.2).bind fun bt472 => ((show_Prec_Apply.f k bt460.1 bt460.2.1 bt460.2.2.1 bt460.2.2.2.1 bt460.2.2.2.2.1 bt460.2.2.2.2.2.1 bt460.2.2.2.2.2.2.1 bt460.2.2.2.2.2.2.2 bt472.1 bt472.2.1 bt472.2.2).bind fun bt476 => ((show_Prec_Valid.f k bt460.1 bt460.2.1 bt460.2.2.1 bt460.2.2.2.1 bt460.2.2.2.2.1 bt460.2.2.2.2.2.1 bt460.2.2.2.2.2.2.1 bt460.2.2.2.2.2.2.2).bind fun t481 => (if t481 = true then (if bt476.2.2.2 = 0 then ((show_Vis_Value.f k bt476.1 bt476.2.1 bt476.2.2.1).bind fun bt482 => ((show_Prec_Round.f k bt460.1 bt460.2.1 bt460.2.2.1 bt460.2.2.2.1 bt460.2.2.2.2.1 bt460.2.2.2.2.2.1 bt460.2.2.2.2.2.2.1 bt460.2.2.2.2.2.2.2 bt472.1 bt472.2.1 bt472.2.2).bind fun bt485 => (florinlaw04_ShowRounds.j0 k (!(bt482.1 == bt485.1) || (!(bt482.2.1.toList == bt485.2.1.toList) || (!(bt482.2.2 == bt485.2.2)))) bt460.1 bt460.2.1 bt460.2.2.1 bt460.2.2.2.1 bt460.2.2.2.2.1 bt460.2.2.2.2.2.1 bt460.2.2.2.2.2.2.1 bt460.2.2.2.2.2.2.2 bt472.1 bt472.2.1 bt472.2.2 bt476.1 bt476.2.1 bt476.2.2.1))) else (florinlaw04_ShowRounds.j0 k true bt460.1 bt460.2.1 bt460.2.2.1 bt460.2.2.2.1 bt460.2.2.2.2.1 bt460.2.2.2.2.2.1 bt460.2.2.2.2.2.2.1 bt460.2.2.2.2.2.2.2 bt472.1 bt472.2.1 bt472.2.2 bt476.1 bt476.2.1 bt476.2.2.1)) else (florinlaw04_ShowRounds.j0 k true bt460.1 bt460.2.1 bt460.2.2.1 bt460.2.2.2.1 bt460.2.2.2.2.1 bt460.2.2.2.2.2.1 bt460.2.2.2.2.2.2.1 bt460.2.2.2.2.2.2.2 bt472.1 bt472.2.1 bt472.2.2 bt476.1 bt476.2.1 bt476.2.2.1))))))) = some r := by rw [if_pos rfl] at H; exact H
      clear H
      have H := H1
      clear H1
      replace H := Option.bind_eq_some_iff.mp H
      obtain ⟨⟨t460, t461, t462, t463, t464, t465, t466, t467⟩, A70, H⟩ := H
      replace H : ((florinlaw02_Raw_Make.f k a0_0 l0_1 a0_2).bind fun bt469 => ((dec_Dec_Norm.f k bt469.1 bt469.2.1 bt469.2.2).bind fun bt472 => ((show_Prec_Apply.f k t460 t461 t462 t463 t464 t465 t466 t467 bt472.1 bt472.2.1 bt472.2.2).bind fun bt476 => ((show_Prec_Valid.f k t460 t461 t462 t463 t464 t465 t466 t467).bind fun t481 => (if t481 = true then (if bt476.2.2.2 = 0 then ((show_Vis_Value.f k bt476.1 bt476.2.1 bt476.2.2.1).bind fun bt482 => ((show_Prec_Round.f k t460 t461 t462 t463 t464 t465 t466 t467 bt472.1 bt472.2.1 bt472.2.2).bind fun bt485 => (florinlaw04_ShowRounds.j0 k (!(bt482.1 == bt485.1) || (!(bt482.2.1.toList == bt485.2.1.toList) || (!(bt482.2.2 == bt485.2.2)))) t460 t461 t462 t463 t464 t465 t466 t467 bt472.1 bt472.2.1 bt472.2.2 bt476.1 bt476.2.1 bt476.2.2.1))) else (florinlaw04_ShowRounds.j0 k true t460 t461 t462 t463 t464 t465 t466 t467 bt472.1 bt472.2.1 bt472.2.2 bt476.1 bt476.2.1 bt476.2.2.1)) else (florinlaw04_ShowRounds.j0 k true t460 t461 t462 t463 t464 t465 t466 t467 bt472.1 bt472.2.1 bt472.2.2 bt476.1 bt476.2.1 bt476.2.2.1)))))) = some r := H
      have A7 := Aside0.mk A70
      clear A70
      replace H := Option.bind_eq_some_iff.mp H
      obtain ⟨⟨t469, t470, t471⟩, A80, H⟩ := H
      replace H : ((dec_Dec_Norm.f k t469 t470 t471).bind fun bt472 => ((show_Prec_Apply.f k t460 t461 t462 t463 t464 t465 t466 t467 bt472.1 bt472.2.1 bt472.2.2).bind fun bt476 => ((show_Prec_Valid.f k t460 t461 t462 t463 t464 t465 t466 t467).bind fun t481 => (if t481 = true then (if bt476.2.2.2 = 0 then ((show_Vis_Value.f k bt476.1 bt476.2.1 bt476.2.2.1).bind fun bt482 => ((show_Prec_Round.f k t460 t461 t462 t463 t464 t465 t466 t467 bt472.1 bt472.2.1 bt472.2.2).bind fun bt485 => (florinlaw04_ShowRounds.j0 k (!(bt482.1 == bt485.1) || (!(bt482.2.1.toList == bt485.2.1.toList) || (!(bt482.2.2 == bt485.2.2)))) t460 t461 t462 t463 t464 t465 t466 t467 bt472.1 bt472.2.1 bt472.2.2 bt476.1 bt476.2.1 bt476.2.2.1))) else (florinlaw04_ShowRounds.j0 k true t460 t461 t462 t463 t464 t465 t466 t467 bt472.1 bt472.2.1 bt472.2.2 bt476.1 bt476.2.1 bt476.2.2.1)) else (florinlaw04_ShowRounds.j0 k true t460 t461 t462 t463 t464 t465 t466 t467 bt472.1 bt472.2.1 bt472.2.2 bt476.1 bt476.2.1 bt476.2.2.1))))) = some r := H
      have A8 := Aside0.mk A80
      clear A80
      replace H := Option.bind_eq_some_iff.mp H
      obtain ⟨⟨t472, t473, t474⟩, A90, H⟩ := H
      replace H : ((show_Prec_Apply.f k t460 t461 t462 t463 t464 t465 t466 t467 t472 t473 t474).bind fun bt476 => ((show_Prec_Valid.f k t460 t461 t462 t463 t464 t465 t466 t467).bind fun t481 => (if t481 = true then (if bt476.2.2.2 = 0 then ((show_Vis_Value.f k bt476.1 bt476.2.1 bt476.2.2.1).bind fun bt482 => ((show_Prec_Round.f k t460 t461 t462 t463 t464 t465 t466 t467 t472 t473 t474).bind fun bt485 => (florinlaw04_ShowRounds.j0 k (!(bt482.1 == bt485.1) || (!(bt482.2.1.toList == bt485.2.1.toList) || (!(bt482.2.2 == bt485.2.2)))) t460 t461 t462 t463 t464 t465 t466 t467 t472 t473 t474 bt476.1 bt476.2.1 bt476.2.2.1))) else (florinlaw04_ShowRounds.j0 k true t460 t461 t462 t463 t464 t465 t466 t467 t472 t473 t474 bt476.1 bt476.2.1 bt476.2.2.1)) else (florinlaw04_ShowRounds.j0 k true t460 t461 t462 t463 t464 t465 t466 t467 t472 t473 t474 bt476.1 bt476.2.1 bt476.2.2.1)))) = some r := H
      have A9 := Aside0.mk A90
      clear A90
      replace H := Option.bind_eq_some_iff.mp H
      obtain ⟨⟨t476, t477, t478, t479⟩, A100, H⟩ := H
      replace H : ((show_Prec_Valid.f k t460 t461 t462 t463 t464 t465 t466 t467).bind fun t481 => (if t481 = true then (if t479 = 0 then ((show_Vis_Value.f k t476 t477 t478).bind fun bt482 => ((show_Prec_Round.f k t460 t461 t462 t463 t464 t465 t466 t467 t472 t473 t474).bind fun bt485 => (florinlaw04_ShowRounds.j0 k (!(bt482.1 == bt485.1) || (!(bt482.2.1.toList == bt485.2.1.toList) || (!(bt482.2.2 == bt485.2.2)))) t460 t461 t462 t463 t464 t465 t466 t467 t472 t473 t474 t476 t477 t478))) else (florinlaw04_ShowRounds.j0 k true t460 t461 t462 t463 t464 t465 t466 t467 t472 t473 t474 t476 t477 t478)) else (florinlaw04_ShowRounds.j0 k true t460 t461 t462 t463 t464 t465 t466 t467 t472 t473 t474 t476 t477 t478))) = some r := H
      have A10 := Aside0.mk A100
      clear A100
      have HC11 := Aside0.mk H
      clear H
      go_enter Tryz.func3, Tryz.ntmps3
      go_upto_region 8 with (first | ((with_reducible refine gate_dst (N := 2) rfl ?_); refine be_ 2 #[.bool a0_0, .slice A0_1 l0_1.length c0_1, .int .i64 a0_2] 24 ?_; intro gb456 hg w12 hbox hb; have BK456 := Aside0.mk (hbox); have GW456 := sz_ HB hg; have GE456 := sz_ HB hg; replace HB := Aside0.mk (below_step (bl_ HB).out hb); clear hb hbox hg) | ((with_reducible refine gate_dst (N := 3) rfl ?_); refine be_ 3 #[.int .i64 a1_0, .int .i64 a1_1, .int .i64 a1_2, .int .i64 a1_3, .int .i64 a1_4, .int .i64 a1_5, .int .i64 a1_6] 26 ?_; intro gb457 hg w13 hbox hb; have BK457 := Aside0.mk (hbox); have GW457 := sz_ HB hg; have GE457 := sz_ HB hg; have NB456_457 := na_ BK456 hg; have NB457_456 := nb_ BK456 hg; replace BK456 := bb_ BK456 hb; replace HB := Aside0.mk (below_step (bl_ HB).out hb); clear hb hbox hg) | ((with_reducible refine gate_callee (f := 4) rfl ?_); refine gl_ (some 9) Tryz.func4 #[] ?_; (with_reducible refine (florinlaw04_head.calls k  true _ A3.out).mono ?_); rintro e w14 ⟨rfl, hb⟩; refine ⟨_, rfl, ?_⟩; replace BK456 := bb_ BK456 hb; replace BK457 := bb_ BK457 hb; replace HB := Aside0.mk (below_step (bl_ HB).out hb); (try clear hb); (try clear hb2); (try clear hk); (try clear hi); have hnb15 := NB456_457.out; have hnc15 := NB457_456.out; obtain ⟨hcz16_0, hcz16_1, hcz16_2, hfz16_0, hfz16_1, hfz16_2⟩ := bo3_ BK456) | ((with_reducible refine gate_callee (f := 5) rfl ?_); refine gl_ (some 12) Tryz.func5 #[.agg #[.bool a0_0, .slice A0_1 l0_1.length c0_1, .int .i64 a0_2], .int .i64 30] ?_; (with_reducible refine (florinlaw02_Raw_Few.calls a0_0 _ _ l0_1 a0_2 30 true _ ?side1 ?side2 A5.out).mono ?_); (case side1 => repeat (first | exact (Kd.C_below HR0_1.out HB.out) | (with_reducible refine Kd.C_alloc ?_ _) | (with_reducible refine Kd.C_drewN ?_ _) | (with_reducible refine Kd.C_drew ?_))); (case side2 => exact HC0_1.out); rintro e w17 ⟨rfl, hb⟩; refine ⟨_, rfl, ?_⟩; replace BK456 := bb_ BK456 hb; replace BK457 := bb_ BK457 hb; replace HB := Aside0.mk (below_step (bl_ HB).out hb); (try clear hb); (try clear hb2); (try clear hk); (try clear hi); obtain ⟨hcz18_0, hcz18_1, hcz18_2, hcz18_3, hcz18_4, hcz18_5, hcz18_6, hfz18_0, hfz18_1, hfz18_2, hfz18_3, hfz18_4, hfz18_5, hfz18_6⟩ := bo7_ BK457) | ((with_reducible refine gate_callee (f := 6) rfl ?_); refine gl_ (some 15) Tryz.func6 #[.agg #[.int .i64 a1_0, .int .i64 a1_1, .int .i64 a1_2, .int .i64 a1_3, .int .i64 a1_4, .int .i64 a1_5, .int .i64 a1_6]] ?_; (with_reducible refine (florinlaw04_Ask_Prec.calls k a1_0 a1_1 a1_2 a1_3 a1_4 a1_5 a1_6 t460 t461 t462 t463 t464 t465 t466 t467 _ A7.out).mono ?_); rintro e w19 ⟨rfl, hb⟩; refine ⟨_, rfl, ?_⟩; replace BK456 := bb_ BK456 hb; replace BK457 := bb_ BK457 hb; replace HB := Aside0.mk (below_step (bl_ HB).out hb); (try clear hb); (try clear hb2); (try clear hk); (try clear hi)) | ((with_reducible refine gate_dst (N := 5) rfl ?_); refine be_ 5 #[.int .i64 0, .int .i64 0, .int .i64 0, .bool false, .string (⟨#[]⟩ : ByteArray), .int .i64 0, .int .i64 0, .int .i64 0] 34 ?_; intro gb468 hg w20 hbox hb; have BK468 := Aside0.mk (hbox); have GW468 := sz_ HB hg; have GE468 := sz_ HB hg; have NB456_468 := na_ BK456 hg; have NB468_456 := nb_ BK456 hg; have NB457_468 := na_ BK457 hg; have NB468_457 := nb_ BK457 hg; replace BK456 := bb_ BK456 hb; replace BK457 := bb_ BK457 hb; replace HB := Aside0.mk (below_step (bl_ HB).out hb); clear hb hbox hg; have hnb21 := NB468_456.out; have hnc21 := NB456_468.out; have hnb22 := NB468_457.out; have hnc22 := NB457_468.out; obtain ⟨hcz23_0, hcz23_1, hcz23_2, hcz23_3, hcz23_4, hcz23_5, hcz23_6, hcz23_7, hfz23_0, hfz23_1, hfz23_2, hfz23_3, hfz23_4, hfz23_5, hfz23_6, hfz23_7⟩ := bo8_ BK468; obtain ⟨hcz24_0, hcz24_1, hcz24_2, hfz24_0, hfz24_1, hfz24_2⟩ := bo3_ BK456) | ((with_reducible refine gate_callee (f := 7) rfl ?_); refine gl_ (some 17) Tryz.func7 #[.agg #[.bool a0_0, .slice A0_1 l0_1.length c0_1, .int .i64 a0_2]] ?_; (with_reducible refine (florinlaw02_Raw_Make.calls k a0_0 _ _ l0_1 a0_2 t469 t470 t471 _ ?side1 ?side2 A8.out).mono ?_); (case side1 => exact Kd.C_below HR0_1.out (bl_ HB).out); (case side2 => exact HC0_1.out); rintro e w25 ⟨rfl, hb⟩; refine ⟨_, rfl, ?_⟩; have n0_ := Aside0.mk (blk_below (g := gb456) (o := .cells #[.bool a0_0, .slice A0_1 l0_1.length c0_1, .int .i64 a0_2] 24 (0, 0)) (by (with_reducible repeat (first | refine blk_drewN ?_ _ | refine blk_drew ?_ | refine blk_alloc ?_ _)); refine blk_far ?_ NB456_468.out _; (with_reducible repeat (first | refine blk_drewN ?_ _ | refine blk_drew ?_ | refine blk_alloc ?_ _)); refine blk_far ?_ NB456_468.out _; (with_reducible repeat (first | refine blk_drewN ?_ _ | refine blk_drew ?_ | refine blk_alloc ?_ _)); refine blk_far ?_ NB456_468.out _; (with_reducible repeat (first | refine blk_drewN ?_ _ | refine blk_drew ?_ | refine blk_alloc ?_ _)); refine blk_far ?_ NB456_468.out _; (with_reducible repeat (first | refine blk_drewN ?_ _ | refine blk_drew ?_ | refine blk_alloc ?_ _)); refine blk_far ?_ NB456_468.out _; (with_reducible repeat (first | refine blk_drewN ?_ _ | refine blk_drew ?_ | refine blk_alloc ?_ _)); refine blk_far ?_ NB456_468.out _; (with_reducible repeat (first | refine blk_drewN ?_ _ | refine blk_drew ?_ | refine blk_alloc ?_ _)); refine blk_far ?_ NB456_468.out _; (with_reducible repeat (first | refine blk_drewN ?_ _ | refine blk_drew ?_ | refine blk_alloc ?_ _)); refine blk_far ?_ NB456_468.out _; (with_reducible repeat (first | refine blk_drewN ?_ _ | refine blk_drew ?_ | refine blk_alloc ?_ _)); exact BK456.out) hb); have n1_ := Aside0.mk (blk_below (g := gb457) (o := .cells #[.int .i64 a1_0, .int .i64 a1_1, .int .i64 a1_2, .int .i64 a1_3, .int .i64 a1_4, .int .i64 a1_5, .int .i64 a1_6] 26 (0, 0)) (by (with_reducible repeat (first | refine blk_drewN ?_ _ | refine blk_drew ?_ | refine blk_alloc ?_ _)); refine blk_far ?_ NB457_468.out _; (with_reducible repeat (first | refine blk_drewN ?_ _ | refine blk_drew ?_ | refine blk_alloc ?_ _)); refine blk_far ?_ NB457_468.out _; (with_reducible repeat (first | refine blk_drewN ?_ _ | refine blk_drew ?_ | refine blk_alloc ?_ _)); refine blk_far ?_ NB457_468.out _; (with_reducible repeat (first | refine blk_drewN ?_ _ | refine blk_drew ?_ | refine blk_alloc ?_ _)); refine blk_far ?_ NB457_468.out _; (with_reducible repeat (first | refine blk_drewN ?_ _ | refine blk_drew ?_ | refine blk_alloc ?_ _)); refine blk_far ?_ NB457_468.out _; (with_reducible repeat (first | refine blk_drewN ?_ _ | refine blk_drew ?_ | refine blk_alloc ?_ _)); refine blk_far ?_ NB457_468.out _; (with_reducible repeat (first | refine blk_drewN ?_ _ | refine blk_drew ?_ | refine blk_alloc ?_ _)); refine blk_far ?_ NB457_468.out _; (with_reducible repeat (first | refine blk_drewN ?_ _ | refine blk_drew ?_ | refine blk_alloc ?_ _)); refine blk_far ?_ NB457_468.out _; (with_reducible repeat (first | refine blk_drewN ?_ _ | refine blk_drew ?_ | refine blk_alloc ?_ _)); exact BK457.out) hb); have n2_ := Aside0.mk (blk_below (g := gb468) (o := .cells #[.int .i64 t460, .int .i64 t461, .int .i64 t462, .bool t463, .string t464, .int .i64 t465, .int .i64 t466, .int .i64 t467] 34 (0, 0)) (by (with_reducible repeat (first | refine blk_drewN ?_ _ | refine blk_drew ?_ | refine blk_alloc ?_ _)); refine blk_put (cs := #[.int .i64 t460, .int .i64 t461, .int .i64 t462, .bool t463, .string t464, .int .i64 t465, .int .i64 t466, .int .i64 0]) ?_ 7 _ rfl; (with_reducible repeat (first | refine blk_drewN ?_ _ | refine blk_drew ?_ | refine blk_alloc ?_ _)); refine blk_put (cs := #[.int .i64 t460, .int .i64 t461, .int .i64 t462, .bool t463, .string t464, .int .i64 t465, .int .i64 0, .int .i64 0]) ?_ 6 _ rfl; (with_reducible repeat (first | refine blk_drewN ?_ _ | refine blk_drew ?_ | refine blk_alloc ?_ _)); refine blk_put (cs := #[.int .i64 t460, .int .i64 t461, .int .i64 t462, .bool t463, .string t464, .int .i64 0, .int .i64 0, .int .i64 0]) ?_ 5 _ rfl; (with_reducible repeat (first | refine blk_drewN ?_ _ | refine blk_drew ?_ | refine blk_alloc ?_ _)); refine blk_put (cs := #[.int .i64 t460, .int .i64 t461, .int .i64 t462, .bool t463, .string (⟨#[]⟩ : ByteArray), .int .i64 0, .int .i64 0, .int .i64 0]) ?_ 4 _ rfl; (with_reducible repeat (first | refine blk_drewN ?_ _ | refine blk_drew ?_ | refine blk_alloc ?_ _)); refine blk_put (cs := #[.int .i64 t460, .int .i64 t461, .int .i64 t462, .bool false, .string (⟨#[]⟩ : ByteArray), .int .i64 0, .int .i64 0, .int .i64 0]) ?_ 3 _ rfl; (with_reducible repeat (first | refine blk_drewN ?_ _ | refine blk_drew ?_ | refine blk_alloc ?_ _)); refine blk_put (cs := #[.int .i64 t460, .int .i64 t461, .int .i64 0, .bool false, .string (⟨#[]⟩ : ByteArray), .int .i64 0, .int .i64 0, .int .i64 0]) ?_ 2 _ rfl; (with_reducible repeat (first | refine blk_drewN ?_ _ | refine blk_drew ?_ | refine blk_alloc ?_ _)); refine blk_put (cs := #[.int .i64 t460, .int .i64 0, .int .i64 0, .bool false, .string (⟨#[]⟩ : ByteArray), .int .i64 0, .int .i64 0, .int .i64 0]) ?_ 1 _ rfl; (with_reducible repeat (first | refine blk_drewN ?_ _ | refine blk_drew ?_ | refine blk_alloc ?_ _)); refine blk_put (cs := #[.int .i64 0, .int .i64 0, .int .i64 0, .bool false, .string (⟨#[]⟩ : ByteArray), .int .i64 0, .int .i64 0, .int .i64 0]) ?_ 0 _ rfl; (with_reducible repeat (first | refine blk_drewN ?_ _ | refine blk_drew ?_ | refine blk_alloc ?_ _)); exact BK468.out) hb); have n3_ := Aside0.mk (below_step (bl_ HB).out hb); clear BK456; clear BK457; clear BK468; clear HB; have BK456 := n0_; have BK457 := n1_; have BK468 := n2_; have HB := n3_; clear n0_ n1_ n2_ n3_; (try clear hb); (try clear hb2); (try clear hk); (try clear hi)) | ((with_reducible refine gate_callee (f := 8) rfl ?_); refine gl_ (some 18) Tryz.func8 #[.agg #[.bool t469, .string t470, .int .i64 t471]] ?_; (with_reducible refine (dec_Dec_Norm.calls k t469 t470 t471 t472 t473 t474 _ A9.out).mono ?_); rintro e w26 ⟨rfl, hb⟩; refine ⟨_, rfl, ?_⟩; replace BK456 := bb_ BK456 hb; replace BK457 := bb_ BK457 hb; replace BK468 := bb_ BK468 hb; replace HB := Aside0.mk (below_step (bl_ HB).out hb); (try clear hb); (try clear hb2); (try clear hk); (try clear hi)) | ((with_reducible refine gate_dst (N := 6) rfl ?_); refine be_ 6 #[.bool false, .string (⟨#[]⟩ : ByteArray), .int .i64 0] 31 ?_; intro gb475 hg w27 hbox hb; have BK475 := Aside0.mk (hbox); have GW475 := sz_ HB hg; have GE475 := sz_ HB hg; have NB456_475 := na_ BK456 hg; have NB475_456 := nb_ BK456 hg; have NB457_475 := na_ BK457 hg; have NB475_457 := nb_ BK457 hg; have NB468_475 := na_ BK468 hg; have NB475_468 := nb_ BK468 hg; replace BK456 := bb_ BK456 hb; replace BK457 := bb_ BK457 hb; replace BK468 := bb_ BK468 hb; replace HB := Aside0.mk (below_step (bl_ HB).out hb); clear hb hbox hg; have hnb28 := NB475_456.out; have hnc28 := NB456_475.out; have hnb29 := NB475_457.out; have hnc29 := NB457_475.out; have hnb30 := NB475_468.out; have hnc30 := NB468_475.out; obtain ⟨hcz31_0, hcz31_1, hcz31_2, hfz31_0, hfz31_1, hfz31_2⟩ := bo3_ BK475; obtain ⟨hcz32_0, hcz32_1, hcz32_2, hcz32_3, hcz32_4, hcz32_5, hcz32_6, hcz32_7, hfz32_0, hfz32_1, hfz32_2, hfz32_3, hfz32_4, hfz32_5, hfz32_6, hfz32_7⟩ := bo8_ BK468) | ((with_reducible refine gate_callee (f := 9) rfl ?_); refine gl_ (some 22) Tryz.func9 #[.agg #[.int .i64 t460, .int .i64 t461, .int .i64 t462, .bool t463, .string t464, .int .i64 t465, .int .i64 t466, .int .i64 t467], .agg #[.bool t472, .string t473, .int .i64 t474]] ?_; (with_reducible refine (show_Prec_Apply.calls k t460 t461 t462 t463 t464 t465 t466 t467 t472 t473 t474 t476 t477 t478 t479 _ A10.out).mono ?_); rintro e w33 ⟨rfl, hb⟩; refine ⟨_, rfl, ?_⟩; have n0_ := Aside0.mk (blk_below (g := gb456) (o := .cells #[.bool a0_0, .slice A0_1 l0_1.length c0_1, .int .i64 a0_2] 24 (0, 0)) (by (with_reducible repeat (first | refine blk_drewN ?_ _ | refine blk_drew ?_ | refine blk_alloc ?_ _)); refine blk_far ?_ NB456_475.out _; (with_reducible repeat (first | refine blk_drewN ?_ _ | refine blk_drew ?_ | refine blk_alloc ?_ _)); refine blk_far ?_ NB456_475.out _; (with_reducible repeat (first | refine blk_drewN ?_ _ | refine blk_drew ?_ | refine blk_alloc ?_ _)); refine blk_far ?_ NB456_475.out _; (with_reducible repeat (first | refine blk_drewN ?_ _ | refine blk_drew ?_ | refine blk_alloc ?_ _)); exact BK456.out) hb); have n1_ := Aside0.mk (blk_below (g := gb457) (o := .cells #[.int .i64 a1_0, .int .i64 a1_1, .int .i64 a1_2, .int .i64 a1_3, .int .i64 a1_4, .int .i64 a1_5, .int .i64 a1_6] 26 (0, 0)) (by (with_reducible repeat (first | refine blk_drewN ?_ _ | refine blk_drew ?_ | refine blk_alloc ?_ _)); refine blk_far ?_ NB457_475.out _; (with_reducible repeat (first | refine blk_drewN ?_ _ | refine blk_drew ?_ | refine blk_alloc ?_ _)); refine blk_far ?_ NB457_475.out _; (with_reducible repeat (first | refine blk_drewN ?_ _ | refine blk_drew ?_ | refine blk_alloc ?_ _)); refine blk_far ?_ NB457_475.out _; (with_reducible repeat (first | refine blk_drewN ?_ _ | refine blk_drew ?_ | refine blk_alloc ?_ _)); exact BK457.out) hb); have n2_ := Aside0.mk (blk_below (g := gb468) (o := .cells #[.int .i64 t460, .int .i64 t461, .int .i64 t462, .bool t463, .string t464, .int .i64 t465, .int .i64 t466, .int .i64 t467] 34 (0, 0)) (by (with_reducible repeat (first | refine blk_drewN ?_ _ | refine blk_drew ?_ | refine blk_alloc ?_ _)); refine blk_far ?_ NB468_475.out _; (with_reducible repeat (first | refine blk_drewN ?_ _ | refine blk_drew ?_ | refine blk_alloc ?_ _)); refine blk_far ?_ NB468_475.out _; (with_reducible repeat (first | refine blk_drewN ?_ _ | refine blk_drew ?_ | refine blk_alloc ?_ _)); refine blk_far ?_ NB468_475.out _; (with_reducible repeat (first | refine blk_drewN ?_ _ | refine blk_drew ?_ | refine blk_alloc ?_ _)); exact BK468.out) hb); have n3_ := Aside0.mk (blk_below (g := gb475) (o := .cells #[.bool t472, .string t473, .int .i64 t474] 31 (0, 0)) (by (with_reducible repeat (first | refine blk_drewN ?_ _ | refine blk_drew ?_ | refine blk_alloc ?_ _)); refine blk_put (cs := #[.bool t472, .string t473, .int .i64 0]) ?_ 2 _ rfl; (with_reducible repeat (first | refine blk_drewN ?_ _ | refine blk_drew ?_ | refine blk_alloc ?_ _)); refine blk_put (cs := #[.bool t472, .string (⟨#[]⟩ : ByteArray), .int .i64 0]) ?_ 1 _ rfl; (with_reducible repeat (first | refine blk_drewN ?_ _ | refine blk_drew ?_ | refine blk_alloc ?_ _)); refine blk_put (cs := #[.bool false, .string (⟨#[]⟩ : ByteArray), .int .i64 0]) ?_ 0 _ rfl; (with_reducible repeat (first | refine blk_drewN ?_ _ | refine blk_drew ?_ | refine blk_alloc ?_ _)); exact BK475.out) hb); have n4_ := Aside0.mk (below_step (bl_ HB).out hb); clear BK456; clear BK457; clear BK468; clear BK475; clear HB; have BK456 := n0_; have BK457 := n1_; have BK468 := n2_; have BK475 := n3_; have HB := n4_; clear n0_ n1_ n2_ n3_ n4_; (try clear hb); (try clear hb2); (try clear hk); (try clear hi)) | ((with_reducible refine gate_dst (N := 7) rfl ?_); refine be_ 7 #[.bool false, .string (⟨#[]⟩ : ByteArray), .string (⟨#[]⟩ : ByteArray)] 38 ?_; intro gb480 hg w34 hbox hb; have BK480 := Aside0.mk (hbox); have GW480 := sz_ HB hg; have GE480 := sz_ HB hg; have NB456_480 := na_ BK456 hg; have NB480_456 := nb_ BK456 hg; have NB457_480 := na_ BK457 hg; have NB480_457 := nb_ BK457 hg; have NB468_480 := na_ BK468 hg; have NB480_468 := nb_ BK468 hg; have NB475_480 := na_ BK475 hg; have NB480_475 := nb_ BK475 hg; replace BK456 := bb_ BK456 hb; replace BK457 := bb_ BK457 hb; replace BK468 := bb_ BK468 hb; replace BK475 := bb_ BK475 hb; replace HB := Aside0.mk (below_step (bl_ HB).out hb); clear hb hbox hg; have hnb35 := NB480_456.out; have hnc35 := NB456_480.out; have hnb36 := NB480_457.out; have hnc36 := NB457_480.out; have hnb37 := NB480_468.out; have hnc37 := NB468_480.out; have hnb38 := NB480_475.out; have hnc38 := NB475_480.out; obtain ⟨hcz39_0, hcz39_1, hcz39_2, hfz39_0, hfz39_1, hfz39_2⟩ := bo3_ BK480))
      (try simp only [Act.put, List.setIfInBounds_toArray, List.set_cons_zero, List.set_cons_succ])
      go_cut [39] (fun v39 wc => ∃ (kq : Nat) (x39_10 : Bool), v39 = .bool x39_10 ∧ Aside0 (florinlaw04_ShowRounds.j0 kq x39_10 t460 t461 t462 t463 t464 t465 t466 t467 t472 t473 t474 t476 t477 t478 = some r) ∧ Aside0 (kq ≤ k) ∧ Aside0 (wc.heap[gb456]? = some (.cells #[.bool a0_0, (.slice A0_1 l0_1.length c0_1), .int .i64 a0_2] 24 (0, 0))) ∧ Aside0 (wc.heap[gb457]? = some (.cells #[.int .i64 a1_0, .int .i64 a1_1, .int .i64 a1_2, .int .i64 a1_3, .int .i64 a1_4, .int .i64 a1_5, .int .i64 a1_6] 26 (0, 0))) ∧ Aside0 (wc.heap[gb468]? = some (.cells #[.int .i64 t460, .int .i64 t461, .int .i64 t462, .bool t463, .string t464, .int .i64 t465, .int .i64 t466, .int .i64 t467] 34 (0, 0))) ∧ Aside0 (wc.heap[gb475]? = some (.cells #[.bool t472, .string t473, .int .i64 t474] 31 (0, 0))) ∧ Aside0 (wc.heap[gb480]? = some (.cells #[.bool t476, .string t477, .string t478] 38 (0, 0))) ∧ Aside0 (Below w.heap.size w wc))
      case first =>
        have H := HC11.out
        clear HC11
        replace H := Option.bind_eq_some_iff.mp H
        obtain ⟨t481, A400, H⟩ := H
        replace H : (if t481 = true then (if t479 = 0 then ((show_Vis_Value.f k t476 t477 t478).bind fun bt482 => ((show_Prec_Round.f k t460 t461 t462 t463 t464 t465 t466 t467 t472 t473 t474).bind fun bt485 => (florinlaw04_ShowRounds.j0 k (!(bt482.1 == bt485.1) || (!(bt482.2.1.toList == bt485.2.1.toList) || (!(bt482.2.2 == bt485.2.2)))) t460 t461 t462 t463 t464 t465 t466 t467 t472 t473 t474 t476 t477 t478))) else (florinlaw04_ShowRounds.j0 k true t460 t461 t462 t463 t464 t465 t466 t467 t472 t473 t474 t476 t477 t478)) else (florinlaw04_ShowRounds.j0 k true t460 t461 t462 t463 t464 t465 t466 t467 t472 t473 t474 t476 t477 t478)) = some r := H
        have A40 := Aside0.mk A400
        clear A400
        by_cases c41 : t481 = true
        · subst c41
          have H1 : (if t479 = 0 then ((show_Vis_Value.f k t476 t477 t478).bind fun bt482 => ((show_Prec_Round.f k t460 t461 t462 t463 t464 t465 t466 t467 t472 t473 t474).bind fun bt485 => (florinlaw04_ShowRounds.j0 k (!(bt482.1 == bt485.1) || (!(bt482.2.1.toList == bt485.2.1.toList) || (!(bt482.2.2 == bt485.2.2)))) t460 t461 t462 t463 t464 t465 t466 t467 t472 t473 t474 t476 t477 t478))) else (florinlaw04_ShowRounds.j0 k true t460 t461 t462 t463 t464 t465 t466 t467 t472 t473 t474 t476 t477 t478)) = some r := by rw [if_pos rfl] at H; exact H
          clear H
          have H := H1
          clear H1
          by_cases c42 : t479 = 0
          · rw [if_pos c42] at H
            have c42b0 : (t479 == 0) = true := beq_iff_eq.mpr c42
            have c42b1 : (t479 != 0) = false := bne_eq_false_iff_eq.mpr c42
            clear c42
            (first | rw [c42b0] | (simp only [i64_w, i32_w]; rw [c42b0]) | skip)
            replace H := Option.bind_eq_some_iff.mp H
            obtain ⟨⟨t482, t483, t484⟩, A430, H⟩ := H
            replace H : ((show_Prec_Round.f k t460 t461 t462 t463 t464 t465 t466 t467 t472 t473 t474).bind fun bt485 => (florinlaw04_ShowRounds.j0 k (!(t482 == bt485.1) || (!(t483.toList == bt485.2.1.toList) || (!(t484 == bt485.2.2)))) t460 t461 t462 t463 t464 t465 t466 t467 t472 t473 t474 t476 t477 t478)) = some r := H
            have A43 := Aside0.mk A430
            clear A430
            replace H := Option.bind_eq_some_iff.mp H
            obtain ⟨⟨t485, t486, t487⟩, A440, H⟩ := H
            replace H : (florinlaw04_ShowRounds.j0 k (!(t482 == t485) || (!(t483.toList == t486.toList) || (!(t484 == t487)))) t460 t461 t462 t463 t464 t465 t466 t467 t472 t473 t474 t476 t477 t478) = some r := H
            have A44 := Aside0.mk A440
            clear A440
            have H' := Aside0.mk H
            clear H
            try go_wp2
            have n0_ : Aside0 ((((w34.setCell ⟨gb480, 0, none⟩ (.bool t476)).setCell ⟨gb480, 1, none⟩ (.string t477)).setCell ⟨gb480, 2, none⟩ (.string t478)).heap[gb456]? = _) := bf_ BK456
            have n1_ : Aside0 ((((w34.setCell ⟨gb480, 0, none⟩ (.bool t476)).setCell ⟨gb480, 1, none⟩ (.string t477)).setCell ⟨gb480, 2, none⟩ (.string t478)).heap[gb457]? = _) := bf_ BK457
            have n2_ : Aside0 ((((w34.setCell ⟨gb480, 0, none⟩ (.bool t476)).setCell ⟨gb480, 1, none⟩ (.string t477)).setCell ⟨gb480, 2, none⟩ (.string t478)).heap[gb468]? = _) := bf_ BK468
            have n3_ : Aside0 ((((w34.setCell ⟨gb480, 0, none⟩ (.bool t476)).setCell ⟨gb480, 1, none⟩ (.string t477)).setCell ⟨gb480, 2, none⟩ (.string t478)).heap[gb475]? = _) := bf_ BK475
            have n4_ : Aside0 ((((w34.setCell ⟨gb480, 0, none⟩ (.bool t476)).setCell ⟨gb480, 1, none⟩ (.string t477)).setCell ⟨gb480, 2, none⟩ (.string t478)).heap[gb480]? = some (.cells #[.bool t476, .string t477, .string t478] 38 (0, 0))) := ⟨by (with_reducible repeat (first | refine blk_drewN ?_ _ | refine blk_drew ?_ | refine blk_alloc ?_ _)); refine blk_put (cs := #[.bool t476, .string t477, .string (⟨#[]⟩ : ByteArray)]) ?_ 2 _ rfl; (with_reducible repeat (first | refine blk_drewN ?_ _ | refine blk_drew ?_ | refine blk_alloc ?_ _)); refine blk_put (cs := #[.bool t476, .string (⟨#[]⟩ : ByteArray), .string (⟨#[]⟩ : ByteArray)]) ?_ 1 _ rfl; (with_reducible repeat (first | refine blk_drewN ?_ _ | refine blk_drew ?_ | refine blk_alloc ?_ _)); refine blk_put (cs := #[.bool false, .string (⟨#[]⟩ : ByteArray), .string (⟨#[]⟩ : ByteArray)]) ?_ 0 _ rfl; (with_reducible repeat (first | refine blk_drewN ?_ _ | refine blk_drew ?_ | refine blk_alloc ?_ _)); exact BK480.out⟩
            have n5_ : Aside0 (Below w.heap.size w (((w34.setCell ⟨gb480, 0, none⟩ (.bool t476)).setCell ⟨gb480, 1, none⟩ (.string t477)).setCell ⟨gb480, 2, none⟩ (.string t478))) := (bl_ HB)
            (try clear BK456)
            (try clear BK457)
            (try clear BK468)
            (try clear BK475)
            (try clear BK480)
            (try clear HB)
            generalize (((w34.setCell ⟨gb480, 0, none⟩ (.bool t476)).setCell ⟨gb480, 1, none⟩ (.string t477)).setCell ⟨gb480, 2, none⟩ (.string t478)) = w45 at n0_ n1_ n2_ n3_ n4_ n5_ ⊢
            have BK456 := n0_
            have BK457 := n1_
            have BK468 := n2_
            have BK475 := n3_
            have BK480 := n4_
            have HB := n5_
            clear n0_ n1_ n2_ n3_ n4_ n5_
            replace BK456 := Aside0.mk (blk_drew BK456.out)
            replace BK457 := Aside0.mk (blk_drew BK457.out)
            replace BK468 := Aside0.mk (blk_drew BK468.out)
            replace BK475 := Aside0.mk (blk_drew BK475.out)
            replace BK480 := Aside0.mk (blk_drew BK480.out)
            replace HB := Aside0.mk (below_drew1 HB.out)
            refine start_ (n := 15) (S := fun w' => w'.cell? ⟨gb468, 0, none⟩ = some (.int .i64 t460) ∧ w'.cell? ⟨gb468, 1, none⟩ = some (.int .i64 t461) ∧ w'.cell? ⟨gb468, 2, none⟩ = some (.int .i64 t462) ∧ w'.cell? ⟨gb468, 3, none⟩ = some (.bool t463) ∧ w'.cell? ⟨gb468, 4, none⟩ = some (.string t464) ∧ w'.cell? ⟨gb468, 5, none⟩ = some (.int .i64 t465) ∧ w'.cell? ⟨gb468, 6, none⟩ = some (.int .i64 t466) ∧ w'.cell? ⟨gb468, 7, none⟩ = some (.int .i64 t467) ∧ w'.cell? ⟨gb480, 0, none⟩ = some (.bool t476) ∧ w'.cell? ⟨gb480, 1, none⟩ = some (.string t477) ∧ w'.cell? ⟨gb480, 2, none⟩ = some (.string t478) ∧ w'.cell? ⟨gb475, 0, none⟩ = some (.bool t472) ∧ w'.cell? ⟨gb475, 1, none⟩ = some (.string t473) ∧ w'.cell? ⟨gb475, 2, none⟩ = some (.int .i64 t474)) (ds := []) #[false, false, false, false, false, false, false, false, false, false, false, false, false, false, false] (by kernel_rfl) rfl rfl ⟨bc_ BK468 0, bc_ BK468 1, bc_ BK468 2, bc_ BK468 3, bc_ BK468 4, bc_ BK468 5, bc_ BK468 6, bc_ BK468 7, bc_ BK480 0, bc_ BK480 1, bc_ BK480 2, bc_ BK475 0, bc_ BK475 1, bc_ BK475 2⟩ (fun hHeld => ?_); refine with_tabW florinlaw04_ShowRounds.tab8 florinlaw04_ShowRounds.bits8 (fun HT_ HW_ => ?_)
            generalize w45.drew = w46 at BK456 BK457 BK468 BK475 BK480 HB hHeld ⊢
            refine tk_ 0 25 (bm_ 15 1) HT_ HW_ hHeld rfl (by rintro w' ⟨s0, s1, s2, s3, s4, s5, s6, s7, s8, s9, s10, s11, s12, s13⟩; go_simp; with_reducible rfl) ?_
            refine one_ (i := 1) (N := some 26) (bm_ 15 3) rfl rfl (one_of HT_.out (by kernel_rfl)) (by decide) (fun K hK => ?_)
            refine gs_ Tryz.func10 #[.agg #[.int .i64 t460, .int .i64 t461, .int .i64 t462, .bool t463, .string t464, .int .i64 t465, .int .i64 t466, .int .i64 t467]] ?_
            with_reducible refine (show_Prec_Valid.calls k t460 t461 t462 t463 t464 t465 t466 t467 true _ A40.out).mono ?_
            rintro e w47 ⟨rfl, hb⟩
            refine ⟨_, rfl, ?_⟩
            replace BK456 := bb_ BK456 hb
            replace BK457 := bb_ BK457 hb
            replace BK468 := bb_ BK468 hb
            replace BK475 := bb_ BK475 hb
            replace BK480 := bb_ BK480 hb
            replace HB := Aside0.mk (below_step (bl_ HB).out hb)
            (try clear hb)
            (try clear hb2)
            (try clear hk)
            (try clear hi)
            refine hK.out _ _ ⟨bc_ BK468 0, bc_ BK468 1, bc_ BK468 2, bc_ BK468 3, bc_ BK468 4, bc_ BK468 5, bc_ BK468 6, bc_ BK468 7, bc_ BK480 0, bc_ BK480 1, bc_ BK480 2, bc_ BK475 0, bc_ BK475 1, bc_ BK475 2⟩ (fun hHeld => ?_)
            clear hK K
            refine nm_ 26 ?_
            refine pu_ 2 27 (bm_ 15 7) HT_ ?_
            refine pu_ 3 28 (bm_ 15 15) HT_ ?_
            refine pu_ 4 29 (bm_ 15 31) HT_ ?_
            refine pu_ 5 30 (bm_ 15 63) HT_ ?_
            refine pu_ 6 31 (bm_ 15 127) HT_ ?_
            refine pu_ 7 32 (bm_ 15 255) HT_ ?_
            refine tk_ 8 33 (bm_ 15 511) HT_ HW_ hHeld rfl (by rintro w' ⟨s0, s1, s2, s3, s4, s5, s6, s7, s8, s9, s10, s11, s12, s13⟩; go_simp; with_reducible rfl) ?_
            refine tk_ 10 35 (bm_ 15 1535) HT_ HW_ hHeld rfl (by rintro w' ⟨s0, s1, s2, s3, s4, s5, s6, s7, s8, s9, s10, s11, s12, s13⟩; go_simp; with_reducible rfl) ?_
            refine tk_ 11 36 (bm_ 15 3583) HT_ HW_ hHeld rfl (by rintro w' ⟨s0, s1, s2, s3, s4, s5, s6, s7, s8, s9, s10, s11, s12, s13⟩; go_simp; with_reducible rfl) ?_
            refine one_ (i := 9) (N := some 34) (bm_ 15 4095) rfl rfl (one_of HT_.out (by kernel_rfl)) (by decide) (fun K hK => ?_)
            refine gs_ Tryz.func11 #[.agg #[.bool t476, .string t477, .string t478]] ?_
            with_reducible refine (show_Vis_Value.calls k t476 t477 t478 t482 t483 t484 _ A43.out).mono ?_
            rintro e w48 ⟨rfl, hb⟩
            refine ⟨_, rfl, ?_⟩
            replace BK456 := bb_ BK456 hb
            replace BK457 := bb_ BK457 hb
            replace BK468 := bb_ BK468 hb
            replace BK475 := bb_ BK475 hb
            replace BK480 := bb_ BK480 hb
            replace HB := Aside0.mk (below_step (bl_ HB).out hb)
            (try clear hb)
            (try clear hb2)
            (try clear hk)
            (try clear hi)
            refine hK.out _ _ ⟨bc_ BK468 0, bc_ BK468 1, bc_ BK468 2, bc_ BK468 3, bc_ BK468 4, bc_ BK468 5, bc_ BK468 6, bc_ BK468 7, bc_ BK480 0, bc_ BK480 1, bc_ BK480 2, bc_ BK475 0, bc_ BK475 1, bc_ BK475 2⟩ (fun hHeld => ?_)
            clear hK K
            refine nm_ 34 ?_
            refine one_ (i := 12) (N := some 37) (bm_ 15 8191) rfl rfl (one_of HT_.out (by kernel_rfl)) (by decide) (fun K hK => ?_)
            refine gs_ Tryz.func12 #[.agg #[.int .i64 t460, .int .i64 t461, .int .i64 t462, .bool t463, .string t464, .int .i64 t465, .int .i64 t466, .int .i64 t467], .agg #[.bool t472, .string t473, .int .i64 t474]] ?_
            with_reducible refine (show_Prec_Round.calls k t460 t461 t462 t463 t464 t465 t466 t467 t472 t473 t474 t485 t486 t487 _ A44.out).mono ?_
            rintro e w49 ⟨rfl, hb⟩
            refine ⟨_, rfl, ?_⟩
            replace BK456 := bb_ BK456 hb
            replace BK457 := bb_ BK457 hb
            replace BK468 := bb_ BK468 hb
            replace BK475 := bb_ BK475 hb
            replace BK480 := bb_ BK480 hb
            replace HB := Aside0.mk (below_step (bl_ HB).out hb)
            (try clear hb)
            (try clear hb2)
            (try clear hk)
            (try clear hi)
            refine hK.out _ _ ⟨bc_ BK468 0, bc_ BK468 1, bc_ BK468 2, bc_ BK468 3, bc_ BK468 4, bc_ BK468 5, bc_ BK468 6, bc_ BK468 7, bc_ BK480 0, bc_ BK480 1, bc_ BK480 2, bc_ BK475 0, bc_ BK475 1, bc_ BK475 2⟩ (fun hHeld => ?_)
            clear hK K
            refine nm_ 37 ?_
            refine pu_ 13 38 (bm_ 15 16383) HT_ ?_
            refine pu_ 14 39 (bm_ 15 32767) HT_ ?_
            refine done_ (done_of HT_.out (by kernel_rfl)) ?_
            try go_wp2
            go_meet
            case rel => exact ⟨_, ((!(t482 == t485) || (!(t483.toList == t486.toList) || (!(t484 == t487))))), eq_, H', ⟨by first | omega | exact Nat.le_refl _⟩, (bk_ BK456), (bk_ BK457), (bk_ BK468), (bk_ BK475), (bk_ BK480), (bl_ HB)⟩
          · rw [if_neg c42] at H
            have c42b0 : (t479 == 0) = false := beq_eq_false_iff_ne.mpr c42
            have c42b1 : (t479 != 0) = true := bne_iff_ne.mpr c42
            (first | rw [c42b0] | (simp only [i64_w, i32_w]; rw [c42b0]) | skip)
            have H' := Aside0.mk H
            clear H
            try go_wp2
            have n0_ : Aside0 ((((w34.setCell ⟨gb480, 0, none⟩ (.bool t476)).setCell ⟨gb480, 1, none⟩ (.string t477)).setCell ⟨gb480, 2, none⟩ (.string t478)).heap[gb456]? = _) := bf_ BK456
            have n1_ : Aside0 ((((w34.setCell ⟨gb480, 0, none⟩ (.bool t476)).setCell ⟨gb480, 1, none⟩ (.string t477)).setCell ⟨gb480, 2, none⟩ (.string t478)).heap[gb457]? = _) := bf_ BK457
            have n2_ : Aside0 ((((w34.setCell ⟨gb480, 0, none⟩ (.bool t476)).setCell ⟨gb480, 1, none⟩ (.string t477)).setCell ⟨gb480, 2, none⟩ (.string t478)).heap[gb468]? = _) := bf_ BK468
            have n3_ : Aside0 ((((w34.setCell ⟨gb480, 0, none⟩ (.bool t476)).setCell ⟨gb480, 1, none⟩ (.string t477)).setCell ⟨gb480, 2, none⟩ (.string t478)).heap[gb475]? = _) := bf_ BK475
            have n4_ : Aside0 ((((w34.setCell ⟨gb480, 0, none⟩ (.bool t476)).setCell ⟨gb480, 1, none⟩ (.string t477)).setCell ⟨gb480, 2, none⟩ (.string t478)).heap[gb480]? = some (.cells #[.bool t476, .string t477, .string t478] 38 (0, 0))) := ⟨by (with_reducible repeat (first | refine blk_drewN ?_ _ | refine blk_drew ?_ | refine blk_alloc ?_ _)); refine blk_put (cs := #[.bool t476, .string t477, .string (⟨#[]⟩ : ByteArray)]) ?_ 2 _ rfl; (with_reducible repeat (first | refine blk_drewN ?_ _ | refine blk_drew ?_ | refine blk_alloc ?_ _)); refine blk_put (cs := #[.bool t476, .string (⟨#[]⟩ : ByteArray), .string (⟨#[]⟩ : ByteArray)]) ?_ 1 _ rfl; (with_reducible repeat (first | refine blk_drewN ?_ _ | refine blk_drew ?_ | refine blk_alloc ?_ _)); refine blk_put (cs := #[.bool false, .string (⟨#[]⟩ : ByteArray), .string (⟨#[]⟩ : ByteArray)]) ?_ 0 _ rfl; (with_reducible repeat (first | refine blk_drewN ?_ _ | refine blk_drew ?_ | refine blk_alloc ?_ _)); exact BK480.out⟩
            have n5_ : Aside0 (Below w.heap.size w (((w34.setCell ⟨gb480, 0, none⟩ (.bool t476)).setCell ⟨gb480, 1, none⟩ (.string t477)).setCell ⟨gb480, 2, none⟩ (.string t478))) := (bl_ HB)
            (try clear BK456)
            (try clear BK457)
            (try clear BK468)
            (try clear BK475)
            (try clear BK480)
            (try clear HB)
            generalize (((w34.setCell ⟨gb480, 0, none⟩ (.bool t476)).setCell ⟨gb480, 1, none⟩ (.string t477)).setCell ⟨gb480, 2, none⟩ (.string t478)) = w50 at n0_ n1_ n2_ n3_ n4_ n5_ ⊢
            have BK456 := n0_
            have BK457 := n1_
            have BK468 := n2_
            have BK475 := n3_
            have BK480 := n4_
            have HB := n5_
            clear n0_ n1_ n2_ n3_ n4_ n5_
            replace BK456 := Aside0.mk (blk_drew BK456.out)
            replace BK457 := Aside0.mk (blk_drew BK457.out)
            replace BK468 := Aside0.mk (blk_drew BK468.out)
            replace BK475 := Aside0.mk (blk_drew BK475.out)
            replace BK480 := Aside0.mk (blk_drew BK480.out)
            replace HB := Aside0.mk (below_drew1 HB.out)
            refine start_ (n := 15) (S := fun w' => w'.cell? ⟨gb468, 0, none⟩ = some (.int .i64 t460) ∧ w'.cell? ⟨gb468, 1, none⟩ = some (.int .i64 t461) ∧ w'.cell? ⟨gb468, 2, none⟩ = some (.int .i64 t462) ∧ w'.cell? ⟨gb468, 3, none⟩ = some (.bool t463) ∧ w'.cell? ⟨gb468, 4, none⟩ = some (.string t464) ∧ w'.cell? ⟨gb468, 5, none⟩ = some (.int .i64 t465) ∧ w'.cell? ⟨gb468, 6, none⟩ = some (.int .i64 t466) ∧ w'.cell? ⟨gb468, 7, none⟩ = some (.int .i64 t467)) (ds := []) #[false, false, false, false, false, false, false, false, false, false, false, false, false, false, false] (by kernel_rfl) rfl rfl ⟨bc_ BK468 0, bc_ BK468 1, bc_ BK468 2, bc_ BK468 3, bc_ BK468 4, bc_ BK468 5, bc_ BK468 6, bc_ BK468 7⟩ (fun hHeld => ?_); refine with_tabW florinlaw04_ShowRounds.tab8 florinlaw04_ShowRounds.bits8 (fun HT_ HW_ => ?_)
            generalize w50.drew = w51 at BK456 BK457 BK468 BK475 BK480 HB hHeld ⊢
            refine tk_ 0 25 (bm_ 15 1) HT_ HW_ hHeld rfl (by rintro w' ⟨s0, s1, s2, s3, s4, s5, s6, s7⟩; go_simp; with_reducible rfl) ?_
            refine one_ (i := 1) (N := some 26) (bm_ 15 3) rfl rfl (one_of HT_.out (by kernel_rfl)) (by decide) (fun K hK => ?_)
            refine gs_ Tryz.func10 #[.agg #[.int .i64 t460, .int .i64 t461, .int .i64 t462, .bool t463, .string t464, .int .i64 t465, .int .i64 t466, .int .i64 t467]] ?_
            with_reducible refine (show_Prec_Valid.calls k t460 t461 t462 t463 t464 t465 t466 t467 true _ A40.out).mono ?_
            rintro e w52 ⟨rfl, hb⟩
            refine ⟨_, rfl, ?_⟩
            replace BK456 := bb_ BK456 hb
            replace BK457 := bb_ BK457 hb
            replace BK468 := bb_ BK468 hb
            replace BK475 := bb_ BK475 hb
            replace BK480 := bb_ BK480 hb
            replace HB := Aside0.mk (below_step (bl_ HB).out hb)
            (try clear hb)
            (try clear hb2)
            (try clear hk)
            (try clear hi)
            refine hK.out _ _ ⟨bc_ BK468 0, bc_ BK468 1, bc_ BK468 2, bc_ BK468 3, bc_ BK468 4, bc_ BK468 5, bc_ BK468 6, bc_ BK468 7⟩ (fun hHeld => ?_)
            clear hK K
            refine nm_ 26 ?_
            refine pu_ 2 27 (bm_ 15 7) HT_ ?_
            refine pu_ 3 28 (bm_ 15 15) HT_ ?_
            refine pu_ 4 29 (bm_ 15 31) HT_ ?_
            refine pu_ 5 30 (bm_ 15 63) HT_ ?_
            refine pu_ 6 31 (bm_ 15 127) HT_ ?_
            refine pu_ 7 32 (bm_ 15 255) HT_ ?_
            refine pn_ 8 33 (bm_ 15 511) HT_ ?_
            refine pn_ 9 34 (bm_ 15 1023) HT_ ?_
            refine pn_ 10 35 (bm_ 15 2047) HT_ ?_
            refine pn_ 11 36 (bm_ 15 4095) HT_ ?_
            refine pn_ 12 37 (bm_ 15 8191) HT_ ?_
            refine pn_ 13 38 (bm_ 15 16383) HT_ ?_
            refine pu_ 14 39 (bm_ 15 32767) HT_ ?_
            refine done_ (done_of HT_.out (by kernel_rfl)) ?_
            try go_wp2
            go_meet
            case rel => exact ⟨_, (true), eq_, H', ⟨by first | omega | exact Nat.le_refl _⟩, (bk_ BK456), (bk_ BK457), (bk_ BK468), (bk_ BK475), (bk_ BK480), (bl_ HB)⟩
        · replace c41 := Bool.eq_false_iff.mpr c41
          subst c41
          have H1 : (florinlaw04_ShowRounds.j0 k true t460 t461 t462 t463 t464 t465 t466 t467 t472 t473 t474 t476 t477 t478) = some r := by rw [if_neg (show ¬ (false = true) by decide)] at H; exact H
          clear H
          have H := H1
          clear H1
          have H' := Aside0.mk H
          clear H
          try go_wp2
          have n0_ : Aside0 ((((w34.setCell ⟨gb480, 0, none⟩ (.bool t476)).setCell ⟨gb480, 1, none⟩ (.string t477)).setCell ⟨gb480, 2, none⟩ (.string t478)).heap[gb456]? = _) := bf_ BK456
          have n1_ : Aside0 ((((w34.setCell ⟨gb480, 0, none⟩ (.bool t476)).setCell ⟨gb480, 1, none⟩ (.string t477)).setCell ⟨gb480, 2, none⟩ (.string t478)).heap[gb457]? = _) := bf_ BK457
          have n2_ : Aside0 ((((w34.setCell ⟨gb480, 0, none⟩ (.bool t476)).setCell ⟨gb480, 1, none⟩ (.string t477)).setCell ⟨gb480, 2, none⟩ (.string t478)).heap[gb468]? = _) := bf_ BK468
          have n3_ : Aside0 ((((w34.setCell ⟨gb480, 0, none⟩ (.bool t476)).setCell ⟨gb480, 1, none⟩ (.string t477)).setCell ⟨gb480, 2, none⟩ (.string t478)).heap[gb475]? = _) := bf_ BK475
          have n4_ : Aside0 ((((w34.setCell ⟨gb480, 0, none⟩ (.bool t476)).setCell ⟨gb480, 1, none⟩ (.string t477)).setCell ⟨gb480, 2, none⟩ (.string t478)).heap[gb480]? = some (.cells #[.bool t476, .string t477, .string t478] 38 (0, 0))) := ⟨by (with_reducible repeat (first | refine blk_drewN ?_ _ | refine blk_drew ?_ | refine blk_alloc ?_ _)); refine blk_put (cs := #[.bool t476, .string t477, .string (⟨#[]⟩ : ByteArray)]) ?_ 2 _ rfl; (with_reducible repeat (first | refine blk_drewN ?_ _ | refine blk_drew ?_ | refine blk_alloc ?_ _)); refine blk_put (cs := #[.bool t476, .string (⟨#[]⟩ : ByteArray), .string (⟨#[]⟩ : ByteArray)]) ?_ 1 _ rfl; (with_reducible repeat (first | refine blk_drewN ?_ _ | refine blk_drew ?_ | refine blk_alloc ?_ _)); refine blk_put (cs := #[.bool false, .string (⟨#[]⟩ : ByteArray), .string (⟨#[]⟩ : ByteArray)]) ?_ 0 _ rfl; (with_reducible repeat (first | refine blk_drewN ?_ _ | refine blk_drew ?_ | refine blk_alloc ?_ _)); exact BK480.out⟩
          have n5_ : Aside0 (Below w.heap.size w (((w34.setCell ⟨gb480, 0, none⟩ (.bool t476)).setCell ⟨gb480, 1, none⟩ (.string t477)).setCell ⟨gb480, 2, none⟩ (.string t478))) := (bl_ HB)
          (try clear BK456)
          (try clear BK457)
          (try clear BK468)
          (try clear BK475)
          (try clear BK480)
          (try clear HB)
          generalize (((w34.setCell ⟨gb480, 0, none⟩ (.bool t476)).setCell ⟨gb480, 1, none⟩ (.string t477)).setCell ⟨gb480, 2, none⟩ (.string t478)) = w53 at n0_ n1_ n2_ n3_ n4_ n5_ ⊢
          have BK456 := n0_
          have BK457 := n1_
          have BK468 := n2_
          have BK475 := n3_
          have BK480 := n4_
          have HB := n5_
          clear n0_ n1_ n2_ n3_ n4_ n5_
          replace BK456 := Aside0.mk (blk_drew BK456.out)
          replace BK457 := Aside0.mk (blk_drew BK457.out)
          replace BK468 := Aside0.mk (blk_drew BK468.out)
          replace BK475 := Aside0.mk (blk_drew BK475.out)
          replace BK480 := Aside0.mk (blk_drew BK480.out)
          replace HB := Aside0.mk (below_drew1 HB.out)
          refine start_ (n := 15) (S := fun w' => w'.cell? ⟨gb468, 0, none⟩ = some (.int .i64 t460) ∧ w'.cell? ⟨gb468, 1, none⟩ = some (.int .i64 t461) ∧ w'.cell? ⟨gb468, 2, none⟩ = some (.int .i64 t462) ∧ w'.cell? ⟨gb468, 3, none⟩ = some (.bool t463) ∧ w'.cell? ⟨gb468, 4, none⟩ = some (.string t464) ∧ w'.cell? ⟨gb468, 5, none⟩ = some (.int .i64 t465) ∧ w'.cell? ⟨gb468, 6, none⟩ = some (.int .i64 t466) ∧ w'.cell? ⟨gb468, 7, none⟩ = some (.int .i64 t467)) (ds := []) #[false, false, false, false, false, false, false, false, false, false, false, false, false, false, false] (by kernel_rfl) rfl rfl ⟨bc_ BK468 0, bc_ BK468 1, bc_ BK468 2, bc_ BK468 3, bc_ BK468 4, bc_ BK468 5, bc_ BK468 6, bc_ BK468 7⟩ (fun hHeld => ?_); refine with_tabW florinlaw04_ShowRounds.tab8 florinlaw04_ShowRounds.bits8 (fun HT_ HW_ => ?_)
          generalize w53.drew = w54 at BK456 BK457 BK468 BK475 BK480 HB hHeld ⊢
          refine tk_ 0 25 (bm_ 15 1) HT_ HW_ hHeld rfl (by rintro w' ⟨s0, s1, s2, s3, s4, s5, s6, s7⟩; go_simp; with_reducible rfl) ?_
          refine one_ (i := 1) (N := some 26) (bm_ 15 3) rfl rfl (one_of HT_.out (by kernel_rfl)) (by decide) (fun K hK => ?_)
          refine gs_ Tryz.func10 #[.agg #[.int .i64 t460, .int .i64 t461, .int .i64 t462, .bool t463, .string t464, .int .i64 t465, .int .i64 t466, .int .i64 t467]] ?_
          with_reducible refine (show_Prec_Valid.calls k t460 t461 t462 t463 t464 t465 t466 t467 false _ A40.out).mono ?_
          rintro e w55 ⟨rfl, hb⟩
          refine ⟨_, rfl, ?_⟩
          replace BK456 := bb_ BK456 hb
          replace BK457 := bb_ BK457 hb
          replace BK468 := bb_ BK468 hb
          replace BK475 := bb_ BK475 hb
          replace BK480 := bb_ BK480 hb
          replace HB := Aside0.mk (below_step (bl_ HB).out hb)
          (try clear hb)
          (try clear hb2)
          (try clear hk)
          (try clear hi)
          refine hK.out _ _ ⟨bc_ BK468 0, bc_ BK468 1, bc_ BK468 2, bc_ BK468 3, bc_ BK468 4, bc_ BK468 5, bc_ BK468 6, bc_ BK468 7⟩ (fun hHeld => ?_)
          clear hK K
          refine nm_ 26 ?_
          refine pu_ 2 27 (bm_ 15 7) HT_ ?_
          refine pu_ 3 28 (bm_ 15 15) HT_ ?_
          refine pn_ 4 29 (bm_ 15 31) HT_ ?_
          refine pn_ 5 30 (bm_ 15 63) HT_ ?_
          refine pu_ 6 31 (bm_ 15 127) HT_ ?_
          refine pu_ 7 32 (bm_ 15 255) HT_ ?_
          refine pn_ 8 33 (bm_ 15 511) HT_ ?_
          refine pn_ 9 34 (bm_ 15 1023) HT_ ?_
          refine pn_ 10 35 (bm_ 15 2047) HT_ ?_
          refine pn_ 11 36 (bm_ 15 4095) HT_ ?_
          refine pn_ 12 37 (bm_ 15 8191) HT_ ?_
          refine pn_ 13 38 (bm_ 15 16383) HT_ ?_
          refine pu_ 14 39 (bm_ 15 32767) HT_ ?_
          refine done_ (done_of HT_.out (by kernel_rfl)) ?_
          try go_wp2
          go_meet
          case rel => exact ⟨_, (true), eq_, H', ⟨by first | omega | exact Nat.le_refl _⟩, (bk_ BK456), (bk_ BK457), (bk_ BK468), (bk_ BK475), (bk_ BK480), (bl_ HB)⟩
      case rest =>
        clear HC11
        try clear c1
        try clear p2
        try clear c4
        try clear p6
        try clear c10
        try clear c11
        try clear c12
        try clear c41
        try clear c42
        try clear c42b0
        try clear c42b1
        obtain ⟨kq, x39_10, rfl, HA, HJ10, BK456, BK457, BK468, BK475, BK480, HB⟩ := hcut
        cases kq with
        | zero => exact absurd HA.out (by simp [florinlaw04_ShowRounds.j0])
        | succ kj10 =>
          have H := HA.out
          clear HA
          simp only [florinlaw04_ShowRounds.j0] at H
          by_cases c56 : x39_10 = true
          · subst c56
            have H1 : (some false) = some r := by rw [if_pos rfl] at H; exact H
            clear H
            have H := H1
            clear H1
            obtain rfl := Option.some.inj H
            go_wp2
            go_ret
            exact ⟨ew_, (bl_ HB).out⟩
          · replace c56 := Bool.eq_false_iff.mpr c56
            subst c56
            have H1 : ((dec_Dec_Zero.f kj10 t472 t473 t474).bind fun t488 => (if t488 = true then ((show_Vis_Value.f kj10 t476 t477 t478).bind fun bt489 => (some (!bt489.1 && (bt489.2.1.toList == ([] : List UInt8) && (bt489.2.2 == 0))))) else ((show_Vis_Value.f kj10 t476 t477 t478).bind fun bt492 => ((florinlaw04_unit.f kj10 t460 t461 t462 t463 t464 t465 t466 t467 t472 t473 t474).bind fun bt495 => ((florinlaw03_Rounded.f kj10 t472 t473 t474 bt492.1 bt492.2.1 bt492.2.2 bt495.1 bt495.2.1 bt495.2.2 t466).bind fun t498 => (some t498)))))) = some r := by rw [if_neg (show ¬ (false = true) by decide)] at H; exact H
            clear H
            have H := H1
            clear H1
            replace H := Option.bind_eq_some_iff.mp H
            obtain ⟨t488, A570, H⟩ := H
            replace H : (if t488 = true then ((show_Vis_Value.f kj10 t476 t477 t478).bind fun bt489 => (some (!bt489.1 && (bt489.2.1.toList == ([] : List UInt8) && (bt489.2.2 == 0))))) else ((show_Vis_Value.f kj10 t476 t477 t478).bind fun bt492 => ((florinlaw04_unit.f kj10 t460 t461 t462 t463 t464 t465 t466 t467 t472 t473 t474).bind fun bt495 => ((florinlaw03_Rounded.f kj10 t472 t473 t474 bt492.1 bt492.2.1 bt492.2.2 bt495.1 bt495.2.1 bt495.2.2 t466).bind fun t498 => (some t498))))) = some r := H
            have A57 := Aside0.mk A570
            clear A570
            by_cases c58 : t488 = true
            · subst c58
              have H1 : ((show_Vis_Value.f kj10 t476 t477 t478).bind fun bt489 => (some (!bt489.1 && (bt489.2.1.toList == ([] : List UInt8) && (bt489.2.2 == 0))))) = some r := by rw [if_pos rfl] at H; exact H
              clear H
              have H := H1
              clear H1
              replace H := Option.bind_eq_some_iff.mp H
              obtain ⟨⟨t489, t490, t491⟩, A590, H⟩ := H
              replace H : (some (!t489 && (t490.toList == ([] : List UInt8) && (t491 == 0)))) = some r := H
              have A59 := Aside0.mk A590
              clear A590
              obtain rfl := Option.some.inj H
              have hnb60 := NB475_456.out
              have hnc60 := NB456_475.out
              have hnb61 := NB475_457.out
              have hnc61 := NB457_475.out
              have hnb62 := NB475_468.out
              have hnc62 := NB468_475.out
              have hnb63 := NB475_480.out
              have hnc63 := NB480_475.out
              obtain ⟨hcz64_0, hcz64_1, hcz64_2, hfz64_0, hfz64_1, hfz64_2⟩ := bo3_ BK475
              go_wp2_with (first | ((with_reducible refine gate_callee (f := 13) rfl ?_); refine gl_ (some 41) Tryz.func13 #[.agg #[.bool t472, .string t473, .int .i64 t474]] ?_; (with_reducible refine (dec_Dec_Zero.calls kj10 t472 t473 t474 true _ A57.out).mono ?_); rintro e w65 ⟨rfl, hb⟩; refine ⟨_, rfl, ?_⟩; replace BK456 := bb_ BK456 hb; replace BK457 := bb_ BK457 hb; replace BK468 := bb_ BK468 hb; replace BK475 := bb_ BK475 hb; replace BK480 := bb_ BK480 hb; replace HB := Aside0.mk (below_step (bl_ HB).out hb); (try clear hb); (try clear hb2); (try clear hk); (try clear hi); have hnb66 := NB480_456.out; have hnc66 := NB456_480.out; have hnb67 := NB480_457.out; have hnc67 := NB457_480.out; have hnb68 := NB480_468.out; have hnc68 := NB468_480.out; obtain ⟨hcz69_0, hcz69_1, hcz69_2, hfz69_0, hfz69_1, hfz69_2⟩ := bo3_ BK480) | ((with_reducible refine gate_callee (f := 11) rfl ?_); refine gl_ (some 43) Tryz.func11 #[.agg #[.bool t476, .string t477, .string t478]] ?_; (with_reducible refine (show_Vis_Value.calls kj10 t476 t477 t478 t489 t490 t491 _ A59.out).mono ?_); rintro e w70 ⟨rfl, hb⟩; refine ⟨_, rfl, ?_⟩; replace BK456 := bb_ BK456 hb; replace BK457 := bb_ BK457 hb; replace BK468 := bb_ BK468 hb; replace BK475 := bb_ BK475 hb; replace BK480 := bb_ BK480 hb; replace HB := Aside0.mk (below_step (bl_ HB).out hb); (try clear hb); (try clear hb2); (try clear hk); (try clear hi)))
              go_ret
              exact ⟨ew_, (bl_ HB).out⟩
            · replace c58 := Bool.eq_false_iff.mpr c58
              subst c58
              have H1 : ((show_Vis_Value.f kj10 t476 t477 t478).bind fun bt492 => ((florinlaw04_unit.f kj10 t460 t461 t462 t463 t464 t465 t466 t467 t472 t473 t474).bind fun bt495 => ((florinlaw03_Rounded.f kj10 t472 t473 t474 bt492.1 bt492.2.1 bt492.2.2 bt495.1 bt495.2.1 bt495.2.2 t466).bind fun t498 => (some t498)))) = some r := by rw [if_neg (show ¬ (false = true) by decide)] at H; exact H
              clear H
              have H := H1
              clear H1
              replace H := Option.bind_eq_some_iff.mp H
              obtain ⟨⟨t492, t493, t494⟩, A710, H⟩ := H
              replace H : ((florinlaw04_unit.f kj10 t460 t461 t462 t463 t464 t465 t466 t467 t472 t473 t474).bind fun bt495 => ((florinlaw03_Rounded.f kj10 t472 t473 t474 t492 t493 t494 bt495.1 bt495.2.1 bt495.2.2 t466).bind fun t498 => (some t498))) = some r := H
              have A71 := Aside0.mk A710
              clear A710
              replace H := Option.bind_eq_some_iff.mp H
              obtain ⟨⟨t495, t496, t497⟩, A720, H⟩ := H
              replace H : ((florinlaw03_Rounded.f kj10 t472 t473 t474 t492 t493 t494 t495 t496 t497 t466).bind fun t498 => (some t498)) = some r := H
              have A72 := Aside0.mk A720
              clear A720
              replace H := Option.bind_eq_some_iff.mp H
              obtain ⟨t498, A730, H⟩ := H
              replace H : (some t498) = some r := H
              have A73 := Aside0.mk A730
              clear A730
              obtain rfl := Option.some.inj H
              have hnb74 := NB475_456.out
              have hnc74 := NB456_475.out
              have hnb75 := NB475_457.out
              have hnc75 := NB457_475.out
              have hnb76 := NB475_468.out
              have hnc76 := NB468_475.out
              have hnb77 := NB475_480.out
              have hnc77 := NB480_475.out
              obtain ⟨hcz78_0, hcz78_1, hcz78_2, hfz78_0, hfz78_1, hfz78_2⟩ := bo3_ BK475
              try go_wp2_with (first | ((with_reducible refine gate_callee (f := 13) rfl ?_); refine gl_ (some 41) Tryz.func13 #[.agg #[.bool t472, .string t473, .int .i64 t474]] ?_; (with_reducible refine (dec_Dec_Zero.calls kj10 t472 t473 t474 false _ A57.out).mono ?_); rintro e w79 ⟨rfl, hb⟩; refine ⟨_, rfl, ?_⟩; replace BK456 := bb_ BK456 hb; replace BK457 := bb_ BK457 hb; replace BK468 := bb_ BK468 hb; replace BK475 := bb_ BK475 hb; replace BK480 := bb_ BK480 hb; replace HB := Aside0.mk (below_step (bl_ HB).out hb); (try clear hb); (try clear hb2); (try clear hk); (try clear hi)))
              replace BK456 := Aside0.mk (blk_drew BK456.out)
              replace BK457 := Aside0.mk (blk_drew BK457.out)
              replace BK468 := Aside0.mk (blk_drew BK468.out)
              replace BK475 := Aside0.mk (blk_drew BK475.out)
              replace BK480 := Aside0.mk (blk_drew BK480.out)
              replace HB := Aside0.mk (below_drew1 HB.out)
              refine start_ (n := 10) (S := fun w' => w'.cell? ⟨gb475, 0, none⟩ = some (.bool t472) ∧ w'.cell? ⟨gb475, 1, none⟩ = some (.string t473) ∧ w'.cell? ⟨gb475, 2, none⟩ = some (.int .i64 t474) ∧ w'.cell? ⟨gb480, 0, none⟩ = some (.bool t476) ∧ w'.cell? ⟨gb480, 1, none⟩ = some (.string t477) ∧ w'.cell? ⟨gb480, 2, none⟩ = some (.string t478) ∧ w'.cell? ⟨gb468, 0, none⟩ = some (.int .i64 t460) ∧ w'.cell? ⟨gb468, 1, none⟩ = some (.int .i64 t461) ∧ w'.cell? ⟨gb468, 2, none⟩ = some (.int .i64 t462) ∧ w'.cell? ⟨gb468, 3, none⟩ = some (.bool t463) ∧ w'.cell? ⟨gb468, 4, none⟩ = some (.string t464) ∧ w'.cell? ⟨gb468, 5, none⟩ = some (.int .i64 t465) ∧ w'.cell? ⟨gb468, 6, none⟩ = some (.int .i64 t466) ∧ w'.cell? ⟨gb468, 7, none⟩ = some (.int .i64 t467)) (ds := []) #[false, false, false, false, false, false, false, false, false, false] (by kernel_rfl) rfl rfl ⟨bc_ BK475 0, bc_ BK475 1, bc_ BK475 2, bc_ BK480 0, bc_ BK480 1, bc_ BK480 2, bc_ BK468 0, bc_ BK468 1, bc_ BK468 2, bc_ BK468 3, bc_ BK468 4, bc_ BK468 5, bc_ BK468 6, bc_ BK468 7⟩ (fun hHeld => ?_); refine with_tabW florinlaw04_ShowRounds.tab12 florinlaw04_ShowRounds.bits12 (fun HT_ HW_ => ?_)
              generalize w79.drew = w80 at BK456 BK457 BK468 BK475 BK480 HB hHeld ⊢
              refine pu_ 6 52 (bm_ 10 64) HT_ ?_
              refine tk_ 0 46 (bm_ 10 65) HT_ HW_ hHeld rfl (by rintro w' ⟨s0, s1, s2, s3, s4, s5, s6, s7, s8, s9, s10, s11, s12, s13⟩; go_simp; with_reducible rfl) ?_
              refine tk_ 1 47 (bm_ 10 67) HT_ HW_ hHeld rfl (by rintro w' ⟨s0, s1, s2, s3, s4, s5, s6, s7, s8, s9, s10, s11, s12, s13⟩; go_simp; with_reducible rfl) ?_
              refine tk_ 3 49 (bm_ 10 75) HT_ HW_ hHeld rfl (by rintro w' ⟨s0, s1, s2, s3, s4, s5, s6, s7, s8, s9, s10, s11, s12, s13⟩; go_simp; with_reducible rfl) ?_
              refine tk_ 4 50 (bm_ 10 91) HT_ HW_ hHeld rfl (by rintro w' ⟨s0, s1, s2, s3, s4, s5, s6, s7, s8, s9, s10, s11, s12, s13⟩; go_simp; with_reducible rfl) ?_
              refine tk_ 7 53 (bm_ 10 219) HT_ HW_ hHeld rfl (by rintro w' ⟨s0, s1, s2, s3, s4, s5, s6, s7, s8, s9, s10, s11, s12, s13⟩; go_simp; with_reducible rfl) ?_
              refine one_ (i := 2) (N := some 48) (bm_ 10 223) rfl rfl (one_of HT_.out (by kernel_rfl)) (by decide) (fun K hK => ?_)
              refine gs_ Tryz.func11 #[.agg #[.bool t476, .string t477, .string t478]] ?_
              with_reducible refine (show_Vis_Value.calls kj10 t476 t477 t478 t492 t493 t494 _ A71.out).mono ?_
              rintro e w81 ⟨rfl, hb⟩
              refine ⟨_, rfl, ?_⟩
              replace BK456 := bb_ BK456 hb
              replace BK457 := bb_ BK457 hb
              replace BK468 := bb_ BK468 hb
              replace BK475 := bb_ BK475 hb
              replace BK480 := bb_ BK480 hb
              replace HB := Aside0.mk (below_step (bl_ HB).out hb)
              (try clear hb)
              (try clear hb2)
              (try clear hk)
              (try clear hi)
              refine hK.out _ _ ⟨bc_ BK475 0, bc_ BK475 1, bc_ BK475 2, bc_ BK480 0, bc_ BK480 1, bc_ BK480 2, bc_ BK468 0, bc_ BK468 1, bc_ BK468 2, bc_ BK468 3, bc_ BK468 4, bc_ BK468 5, bc_ BK468 6, bc_ BK468 7⟩ (fun hHeld => ?_)
              clear hK K
              refine nm_ 48 ?_
              refine one_ (i := 5) (N := some 51) (bm_ 10 255) rfl rfl (one_of HT_.out (by kernel_rfl)) (by decide) (fun K hK => ?_)
              refine gs_ Tryz.func15 #[.agg #[.int .i64 t460, .int .i64 t461, .int .i64 t462, .bool t463, .string t464, .int .i64 t465, .int .i64 t466, .int .i64 t467], .agg #[.bool t472, .string t473, .int .i64 t474]] ?_
              with_reducible refine (florinlaw04_unit.calls kj10 t460 t461 t462 t463 t464 t465 t466 t467 t472 t473 t474 t495 t496 t497 _ A72.out).mono ?_
              rintro e w82 ⟨rfl, hb⟩
              refine ⟨_, rfl, ?_⟩
              replace BK456 := bb_ BK456 hb
              replace BK457 := bb_ BK457 hb
              replace BK468 := bb_ BK468 hb
              replace BK475 := bb_ BK475 hb
              replace BK480 := bb_ BK480 hb
              replace HB := Aside0.mk (below_step (bl_ HB).out hb)
              (try clear hb)
              (try clear hb2)
              (try clear hk)
              (try clear hi)
              refine hK.out _ _ ⟨bc_ BK475 0, bc_ BK475 1, bc_ BK475 2, bc_ BK480 0, bc_ BK480 1, bc_ BK480 2, bc_ BK468 0, bc_ BK468 1, bc_ BK468 2, bc_ BK468 3, bc_ BK468 4, bc_ BK468 5, bc_ BK468 6, bc_ BK468 7⟩ (fun hHeld => ?_)
              clear hK K
              refine nm_ 51 ?_
              refine one_ (i := 8) (N := some 54) (bm_ 10 511) rfl rfl (one_of HT_.out (by kernel_rfl)) (by decide) (fun K hK => ?_)
              refine gs_ Tryz.func14 #[.agg #[.bool t472, .string t473, .int .i64 t474], .agg #[.bool t492, .string t493, .int .i64 t494], .agg #[.bool t495, .string t496, .int .i64 t497], .int .i64 t466] ?_
              with_reducible refine (florinlaw03_Rounded.calls kj10 t472 t473 t474 t492 t493 t494 t495 t496 t497 t466 t498 _ A73.out).mono ?_
              rintro e w83 ⟨rfl, hb⟩
              refine ⟨_, rfl, ?_⟩
              replace BK456 := bb_ BK456 hb
              replace BK457 := bb_ BK457 hb
              replace BK468 := bb_ BK468 hb
              replace BK475 := bb_ BK475 hb
              replace BK480 := bb_ BK480 hb
              replace HB := Aside0.mk (below_step (bl_ HB).out hb)
              (try clear hb)
              (try clear hb2)
              (try clear hk)
              (try clear hi)
              refine hK.out _ _ ⟨bc_ BK475 0, bc_ BK475 1, bc_ BK475 2, bc_ BK480 0, bc_ BK480 1, bc_ BK480 2, bc_ BK468 0, bc_ BK468 1, bc_ BK468 2, bc_ BK468 3, bc_ BK468 4, bc_ BK468 5, bc_ BK468 6, bc_ BK468 7⟩ (fun hHeld => ?_)
              clear hK K
              refine nm_ 54 ?_
              refine pu_ 9 4 (bm_ 10 1023) HT_ ?_
              refine done_ (done_of HT_.out (by kernel_rfl)) ?_
              try go_wp2
              go_ret
              exact ⟨ew_, (bl_ HB).out⟩
    · replace c6 := Bool.eq_false_iff.mpr c6
      subst c6
      have H1 : (some true) = some r := by rw [if_neg (show ¬ (false = true) by decide)] at H; exact H
      clear H
      have H := H1
      clear H1
      obtain rfl := Option.some.inj H
      go_enter Tryz.func3, Tryz.ntmps3
      go_wp2_with (first | ((with_reducible refine gate_dst (N := 2) rfl ?_); refine be_ 2 #[.bool a0_0, .slice A0_1 l0_1.length c0_1, .int .i64 a0_2] 24 ?_; intro gb456 hg w84 hbox hb; have BK456 := Aside0.mk (hbox); have GW456 := sz_ HB hg; have GE456 := sz_ HB hg; replace HB := Aside0.mk (below_step (bl_ HB).out hb); clear hb hbox hg) | ((with_reducible refine gate_dst (N := 3) rfl ?_); refine be_ 3 #[.int .i64 a1_0, .int .i64 a1_1, .int .i64 a1_2, .int .i64 a1_3, .int .i64 a1_4, .int .i64 a1_5, .int .i64 a1_6] 26 ?_; intro gb457 hg w85 hbox hb; have BK457 := Aside0.mk (hbox); have GW457 := sz_ HB hg; have GE457 := sz_ HB hg; have NB456_457 := na_ BK456 hg; have NB457_456 := nb_ BK456 hg; replace BK456 := bb_ BK456 hb; replace HB := Aside0.mk (below_step (bl_ HB).out hb); clear hb hbox hg) | ((with_reducible refine gate_callee (f := 4) rfl ?_); refine gl_ (some 9) Tryz.func4 #[] ?_; (with_reducible refine (florinlaw04_head.calls k  true _ A3.out).mono ?_); rintro e w86 ⟨rfl, hb⟩; refine ⟨_, rfl, ?_⟩; replace BK456 := bb_ BK456 hb; replace BK457 := bb_ BK457 hb; replace HB := Aside0.mk (below_step (bl_ HB).out hb); (try clear hb); (try clear hb2); (try clear hk); (try clear hi); have hnb87 := NB456_457.out; have hnc87 := NB457_456.out; obtain ⟨hcz88_0, hcz88_1, hcz88_2, hfz88_0, hfz88_1, hfz88_2⟩ := bo3_ BK456) | ((with_reducible refine gate_callee (f := 5) rfl ?_); refine gl_ (some 12) Tryz.func5 #[.agg #[.bool a0_0, .slice A0_1 l0_1.length c0_1, .int .i64 a0_2], .int .i64 30] ?_; (with_reducible refine (florinlaw02_Raw_Few.calls a0_0 _ _ l0_1 a0_2 30 false _ ?side1 ?side2 A5.out).mono ?_); (case side1 => repeat (first | exact (Kd.C_below HR0_1.out HB.out) | (with_reducible refine Kd.C_alloc ?_ _) | (with_reducible refine Kd.C_drewN ?_ _) | (with_reducible refine Kd.C_drew ?_))); (case side2 => exact HC0_1.out); rintro e w89 ⟨rfl, hb⟩; refine ⟨_, rfl, ?_⟩; replace BK456 := bb_ BK456 hb; replace BK457 := bb_ BK457 hb; replace HB := Aside0.mk (below_step (bl_ HB).out hb); (try clear hb); (try clear hb2); (try clear hk); (try clear hi)))
      go_ret
      exact ⟨ew_, (bl_ HB).out⟩
  · replace c4 := Bool.eq_false_iff.mpr c4
    subst c4
    have H1 : (some false) = some r := by rw [if_neg (show ¬ (false = true) by decide)] at H; exact H
    clear H
    have H := H1
    clear H1
    obtain rfl := Option.some.inj H
    go_enter Tryz.func3, Tryz.ntmps3
    go_wp2_with (first | ((with_reducible refine gate_dst (N := 2) rfl ?_); refine be_ 2 #[.bool a0_0, .slice A0_1 l0_1.length c0_1, .int .i64 a0_2] 24 ?_; intro gb456 hg w90 hbox hb; have BK456 := Aside0.mk (hbox); have GW456 := sz_ HB hg; have GE456 := sz_ HB hg; replace HB := Aside0.mk (below_step (bl_ HB).out hb); clear hb hbox hg) | ((with_reducible refine gate_dst (N := 3) rfl ?_); refine be_ 3 #[.int .i64 a1_0, .int .i64 a1_1, .int .i64 a1_2, .int .i64 a1_3, .int .i64 a1_4, .int .i64 a1_5, .int .i64 a1_6] 26 ?_; intro gb457 hg w91 hbox hb; have BK457 := Aside0.mk (hbox); have GW457 := sz_ HB hg; have GE457 := sz_ HB hg; have NB456_457 := na_ BK456 hg; have NB457_456 := nb_ BK456 hg; replace BK456 := bb_ BK456 hb; replace HB := Aside0.mk (below_step (bl_ HB).out hb); clear hb hbox hg) | ((with_reducible refine gate_callee (f := 4) rfl ?_); refine gl_ (some 9) Tryz.func4 #[] ?_; (with_reducible refine (florinlaw04_head.calls k  false _ A3.out).mono ?_); rintro e w92 ⟨rfl, hb⟩; refine ⟨_, rfl, ?_⟩; replace BK456 := bb_ BK456 hb; replace BK457 := bb_ BK457 hb; replace HB := Aside0.mk (below_step (bl_ HB).out hb); (try clear hb); (try clear hb2); (try clear hk); (try clear hi)))
    go_ret
    exact ⟨ew_, (bl_ HB).out⟩

end Go.Proofs.YthkpmiajcmihjaaGreatDoor.P
