-- written by a program of this session (wip/p2)
import Derived.Test.YthkpmiajcmihjaaDoorPx0
import Derived.Test.YthkpmiajcmihjaaDoorPx3
import Derived.Test.YthkpmiajcmihjaaDoorPx5
import Derived.Test.YthkpmiajcmihjaaDoorPx7
import Derived.Test.YthkpmiajcmihjaaDoorPx8
import Derived.Test.YthkpmiajcmihjaaDoorPx10
import Derived.Test.YthkpmiajcmihjaaDoorPx12
import Derived.Test.YthkpmiajcmihjaaDoorPx14
namespace Go.Proofs.YthkpmiajcmihjaaDoor.P
open Go.RowKit Go.Proofs.YthkpmiajcmihjaaDoorW.PrintWords Go.Proofs.YthkpmiajcmihjaaDoorW.PrintLast Go.Proofs.YthkpmiajcmihjaaDoorW.PrintMore
attribute [local go_sem] max2_int min2_int max_two min_two max_three min_three max_four min_four   -- for this text's walks alone
set_option linter.unusedVariables false
set_option linter.unusedSimpArgs false

/-! ### florinlaw04_ShowDigits: function 4 -/
mutual
def florinlaw04_ShowDigits.j0 : Nat → Bool → Int → Int → Int → Bool → ByteArray → Int → Int → Int → Bool → ByteArray → ByteArray → Bool → ByteArray → Int → Option (Bool)
 | 0, _, _, _, _, _, _, _, _, _, _, _, _, _, _, _ => none
 | k + 1, x60, x333000, x333001, x333002, x333003, x333004, x333005, x333006, x333007, x341000, x341001, x341002, x348000, x348001, x348002 => if x60 = true then (some false) else ((num_Trim.f k x341001).bind fun t350 => (if (x341001.size : Int) = (mx (t350.size : Int) x333007) then (florinlaw04_ShowDigits.j1 k t350 false x333000 x333001 x333002 x333003 x333004 x333005 x333006 x333007 x341000 x341001 x341002 x348000 x348001 x348002) else (if (mx (t350.size : Int) x333007) = 0 then (if x341001.toList = ([48] : List UInt8) then (florinlaw04_ShowDigits.j1 k t350 (!(x341002.toList == ([] : List UInt8))) x333000 x333001 x333002 x333003 x333004 x333005 x333006 x333007 x341000 x341001 x341002 x348000 x348001 x348002) else (florinlaw04_ShowDigits.j1 k t350 (!false) x333000 x333001 x333002 x333003 x333004 x333005 x333006 x333007 x341000 x341001 x341002 x348000 x348001 x348002)) else (florinlaw04_ShowDigits.j1 k t350 (!false) x333000 x333001 x333002 x333003 x333004 x333005 x333006 x333007 x341000 x341001 x341002 x348000 x348001 x348002))))
def florinlaw04_ShowDigits.j1 : Nat → ByteArray → Bool → Int → Int → Int → Bool → ByteArray → Int → Int → Int → Bool → ByteArray → ByteArray → Bool → ByteArray → Int → Option (Bool)
 | 0, _, _, _, _, _, _, _, _, _, _, _, _, _, _, _, _ => none
 | k + 1, x9, x88, x333000, x333001, x333002, x333003, x333004, x333005, x333006, x333007, x341000, x341001, x341002, x348000, x348001, x348002 => if x88 = true then (some false) else (if x333000 = 1 then (if (x9.size : Int) = 0 then ((dec_Dec_Zero.f k x348000 x348001 x348002).bind fun t351 => (if t351 = true then ((florinlaw04_trimEnd.f k x341002).bind fun t352 => (if (x341002.size : Int) = (mx (mx (wrap64 (x333001 - 1)) 0) (t352.size : Int)) then (if x333000 = 2 then (some true) else (some (decide ((x341002.size : Int) ≤ 200)))) else (some false))) else (florinlaw04_ShowDigits.l0 k 1 0 x333000 x333001 x333002 x333003 x333004 x333005 x333006 x333007 x341000 x341001 x341002))) else ((florinlaw04_trimEnd.f k x341002).bind fun t355 => (if (x341002.size : Int) = (mx (mx (wrap64 (x333001 - (x9.size : Int))) 0) (t355.size : Int)) then (if x333000 = 2 then (some true) else (some (decide ((x341002.size : Int) ≤ 200)))) else (some false)))) else ((florinlaw04_trimEnd.f k x341002).bind fun t356 => (if (x341002.size : Int) = (mx x333001 (t356.size : Int)) then (if x333000 = 2 then (some true) else (some (decide ((x341002.size : Int) ≤ 200)))) else (some false))))
def florinlaw04_ShowDigits.l0 : Nat → Int → Int → Int → Int → Int → Bool → ByteArray → Int → Int → Int → Bool → ByteArray → ByteArray → Option (Bool)
 | 0, _, _, _, _, _, _, _, _, _, _, _, _, _ => none
 | k + 1, x12, x13, x333000, x333001, x333002, x333003, x333004, x333005, x333006, x333007, x341000, x341001, x341002 => if x13 < (x341002.size : Int) then (if 0 ≤ x13 then (if (bt x341002 x13) = 48 then (florinlaw04_ShowDigits.l0 k (wrap64 (x12 - 1)) (wrap64 (x13 + 1)) x333000 x333001 x333002 x333003 x333004 x333005 x333006 x333007 x341000 x341001 x341002) else ((florinlaw04_trimEnd.f k x341002).bind fun t353 => (if (x341002.size : Int) = (mx (mx (wrap64 (x333001 - (wrap64 (x12 - 1)))) 0) (t353.size : Int)) then (if x333000 = 2 then (some true) else (some (decide ((x341002.size : Int) ≤ 200)))) else (some false)))) else (none)) else ((florinlaw04_trimEnd.f k x341002).bind fun t354 => (if (x341002.size : Int) = (mx (mx (wrap64 (x333001 - (wrap64 (x12 - 1)))) 0) (t354.size : Int)) then (if x333000 = 2 then (some true) else (some (decide ((x341002.size : Int) ≤ 200)))) else (some false)))
end
def florinlaw04_ShowDigits.f (k : Nat) (a0_0 : Bool) (l0_1 : List Int) (a0_2 : Int) (a1_0 : Int) (a1_1 : Int) (a1_2 : Int) (a1_3 : Int) (a1_4 : Int) (a1_5 : Int) (a1_6 : Int) : Option (Bool) := (florinlaw04_head.f k).bind fun t322 => (if t322 = true then ((florinlaw02_Raw_Few.f a0_0 l0_1 a0_2 30).bind fun t323 => (if t323 = true then ((florinlaw04_Ask_Prec.f k a1_0 a1_1 a1_2 a1_3 a1_4 a1_5 a1_6).bind fun bt324 => ((florinlaw02_Raw_Make.f k a0_0 l0_1 a0_2).bind fun bt333 => ((show_Prec_Apply.f k bt324.1 bt324.2.1 bt324.2.2.1 bt324.2.2.2.1 bt324.2.2.2.2.1 bt324.2.2.2.2.2.1 bt324.2.2.2.2.2.2.1 bt324.2.2.2.2.2.2.2 bt333.1 bt333.2.1 bt333.2.2).bind fun bt336 => ((florinlaw02_Raw_Make.f k a0_0 l0_1 a0_2).bind fun bt341 => ((show_Prec_Round.f k bt324.1 bt324.2.1 bt324.2.2.1 bt324.2.2.2.1 bt324.2.2.2.2.1 bt324.2.2.2.2.2.1 bt324.2.2.2.2.2.2.1 bt324.2.2.2.2.2.2.2 bt341.1 bt341.2.1 bt341.2.2).bind fun bt344 => (if bt336.2.2.2 = 0 then ((num_Is.f k bt336.2.1).bind fun t348 => (if t348 = true then ((num_Is.f k bt336.2.2.1).bind fun t349 => (if t349 = true then (if bt336.2.1.size + bt336.2.2.1.size ≤ 9223372036854775807 then (if (bt336.2.1 ++ bt336.2.2.1).toList = ([] : List UInt8) then (florinlaw04_ShowDigits.j0 k true bt324.1 bt324.2.1 bt324.2.2.1 bt324.2.2.2.1 bt324.2.2.2.2.1 bt324.2.2.2.2.2.1 bt324.2.2.2.2.2.2.1 bt324.2.2.2.2.2.2.2 bt336.1 bt336.2.1 bt336.2.2.1 bt344.1 bt344.2.1 bt344.2.2) else (florinlaw04_ShowDigits.j0 k (bt336.1 != bt344.1) bt324.1 bt324.2.1 bt324.2.2.1 bt324.2.2.2.1 bt324.2.2.2.2.1 bt324.2.2.2.2.2.1 bt324.2.2.2.2.2.2.1 bt324.2.2.2.2.2.2.2 bt336.1 bt336.2.1 bt336.2.2.1 bt344.1 bt344.2.1 bt344.2.2)) else (none)) else (florinlaw04_ShowDigits.j0 k true bt324.1 bt324.2.1 bt324.2.2.1 bt324.2.2.2.1 bt324.2.2.2.2.1 bt324.2.2.2.2.2.1 bt324.2.2.2.2.2.2.1 bt324.2.2.2.2.2.2.2 bt336.1 bt336.2.1 bt336.2.2.1 bt344.1 bt344.2.1 bt344.2.2))) else (florinlaw04_ShowDigits.j0 k true bt324.1 bt324.2.1 bt324.2.2.1 bt324.2.2.2.1 bt324.2.2.2.2.1 bt324.2.2.2.2.2.1 bt324.2.2.2.2.2.2.1 bt324.2.2.2.2.2.2.2 bt336.1 bt336.2.1 bt336.2.2.1 bt344.1 bt344.2.1 bt344.2.2))) else (florinlaw04_ShowDigits.j0 k true bt324.1 bt324.2.1 bt324.2.2.1 bt324.2.2.2.1 bt324.2.2.2.2.1 bt324.2.2.2.2.2.1 bt324.2.2.2.2.2.2.1 bt324.2.2.2.2.2.2.2 bt336.1 bt336.2.1 bt336.2.2.1 bt344.1 bt344.2.1 bt344.2.2))))))) else (some true))) else (some false))
theorem florinlaw04_ShowDigits.mono_l : ∀ k, (∀ y0 y1 y2 y3 y4 y5 y6 y7 y8 y9 y10 y11 y12 y13 y14, LeO (florinlaw04_ShowDigits.j0 k y0 y1 y2 y3 y4 y5 y6 y7 y8 y9 y10 y11 y12 y13 y14) (florinlaw04_ShowDigits.j0 (k + 1) y0 y1 y2 y3 y4 y5 y6 y7 y8 y9 y10 y11 y12 y13 y14)) ∧ (∀ y0 y1 y2 y3 y4 y5 y6 y7 y8 y9 y10 y11 y12 y13 y14 y15, LeO (florinlaw04_ShowDigits.j1 k y0 y1 y2 y3 y4 y5 y6 y7 y8 y9 y10 y11 y12 y13 y14 y15) (florinlaw04_ShowDigits.j1 (k + 1) y0 y1 y2 y3 y4 y5 y6 y7 y8 y9 y10 y11 y12 y13 y14 y15)) ∧ (∀ y0 y1 y2 y3 y4 y5 y6 y7 y8 y9 y10 y11 y12, LeO (florinlaw04_ShowDigits.l0 k y0 y1 y2 y3 y4 y5 y6 y7 y8 y9 y10 y11 y12) (florinlaw04_ShowDigits.l0 (k + 1) y0 y1 y2 y3 y4 y5 y6 y7 y8 y9 y10 y11 y12))
 | 0 => ⟨fun _ _ _ _ _ _ _ _ _ _ _ _ _ _ _ r h => by simp [florinlaw04_ShowDigits.j0] at h, fun _ _ _ _ _ _ _ _ _ _ _ _ _ _ _ _ r h => by simp [florinlaw04_ShowDigits.j1] at h, fun _ _ _ _ _ _ _ _ _ _ _ _ _ r h => by simp [florinlaw04_ShowDigits.l0] at h⟩
 | k + 1 => by
  obtain ⟨ih0, ih1, ih2⟩ := florinlaw04_ShowDigits.mono_l k
  refine ⟨?_, ?_, ?_⟩
  ·intro y0 y1 y2 y3 y4 y5 y6 y7 y8 y9 y10 y11 y12 y13 y14
   unfold florinlaw04_ShowDigits.j0
   repeat' first
   | (with_reducible exact ih0 _ _ _ _ _ _ _ _ _ _ _ _ _ _ _)
   | (with_reducible exact ih1 _ _ _ _ _ _ _ _ _ _ _ _ _ _ _ _)
   | (with_reducible exact ih2 _ _ _ _ _ _ _ _ _ _ _ _ _)
   | (with_reducible exact dec_Dec_Zero.mono _ _ _ _)
   | (with_reducible exact florinlaw02_Raw_Make.mono _ _ _ _)
   | (with_reducible exact florinlaw04_Ask_Prec.mono _ _ _ _ _ _ _ _)
   | (with_reducible exact florinlaw04_head.mono _)
   | (with_reducible exact florinlaw04_trimEnd.mono _ _)
   | (with_reducible exact num_Is.mono _ _)
   | (with_reducible exact num_Trim.mono _ _)
   | (with_reducible exact show_Prec_Apply.mono _ _ _ _ _ _ _ _ _ _ _ _)
   | (with_reducible exact show_Prec_Round.mono _ _ _ _ _ _ _ _ _ _ _ _)
   | (with_reducible exact LeO.refl _)
   | (with_reducible exact LeO.none _)
   | (with_reducible refine LeO.ite ?_ ?_)
   | (with_reducible refine LeO.bind ?_ (fun _ => ?_))
   | exact ih0 _ _ _ _ _ _ _ _ _ _ _ _ _ _ _
   | exact ih1 _ _ _ _ _ _ _ _ _ _ _ _ _ _ _ _
   | exact ih2 _ _ _ _ _ _ _ _ _ _ _ _ _
   | exact dec_Dec_Zero.mono _ _ _ _
   | exact florinlaw02_Raw_Make.mono _ _ _ _
   | exact florinlaw04_Ask_Prec.mono _ _ _ _ _ _ _ _
   | exact florinlaw04_head.mono _
   | exact florinlaw04_trimEnd.mono _ _
   | exact num_Is.mono _ _
   | exact num_Trim.mono _ _
   | exact show_Prec_Apply.mono _ _ _ _ _ _ _ _ _ _ _ _
   | exact show_Prec_Round.mono _ _ _ _ _ _ _ _ _ _ _ _
   | exact LeO.none _
   | refine LeO.ite ?_ ?_
   | refine LeO.bind ?_ (fun _ => ?_)
  ·intro y0 y1 y2 y3 y4 y5 y6 y7 y8 y9 y10 y11 y12 y13 y14 y15
   unfold florinlaw04_ShowDigits.j1
   repeat' first
   | (with_reducible exact ih0 _ _ _ _ _ _ _ _ _ _ _ _ _ _ _)
   | (with_reducible exact ih1 _ _ _ _ _ _ _ _ _ _ _ _ _ _ _ _)
   | (with_reducible exact ih2 _ _ _ _ _ _ _ _ _ _ _ _ _)
   | (with_reducible exact dec_Dec_Zero.mono _ _ _ _)
   | (with_reducible exact florinlaw02_Raw_Make.mono _ _ _ _)
   | (with_reducible exact florinlaw04_Ask_Prec.mono _ _ _ _ _ _ _ _)
   | (with_reducible exact florinlaw04_head.mono _)
   | (with_reducible exact florinlaw04_trimEnd.mono _ _)
   | (with_reducible exact num_Is.mono _ _)
   | (with_reducible exact num_Trim.mono _ _)
   | (with_reducible exact show_Prec_Apply.mono _ _ _ _ _ _ _ _ _ _ _ _)
   | (with_reducible exact show_Prec_Round.mono _ _ _ _ _ _ _ _ _ _ _ _)
   | (with_reducible exact LeO.refl _)
   | (with_reducible exact LeO.none _)
   | (with_reducible refine LeO.ite ?_ ?_)
   | (with_reducible refine LeO.bind ?_ (fun _ => ?_))
   | exact ih0 _ _ _ _ _ _ _ _ _ _ _ _ _ _ _
   | exact ih1 _ _ _ _ _ _ _ _ _ _ _ _ _ _ _ _
   | exact ih2 _ _ _ _ _ _ _ _ _ _ _ _ _
   | exact dec_Dec_Zero.mono _ _ _ _
   | exact florinlaw02_Raw_Make.mono _ _ _ _
   | exact florinlaw04_Ask_Prec.mono _ _ _ _ _ _ _ _
   | exact florinlaw04_head.mono _
   | exact florinlaw04_trimEnd.mono _ _
   | exact num_Is.mono _ _
   | exact num_Trim.mono _ _
   | exact show_Prec_Apply.mono _ _ _ _ _ _ _ _ _ _ _ _
   | exact show_Prec_Round.mono _ _ _ _ _ _ _ _ _ _ _ _
   | exact LeO.none _
   | refine LeO.ite ?_ ?_
   | refine LeO.bind ?_ (fun _ => ?_)
  ·intro y0 y1 y2 y3 y4 y5 y6 y7 y8 y9 y10 y11 y12
   unfold florinlaw04_ShowDigits.l0
   repeat' first
   | (with_reducible exact ih0 _ _ _ _ _ _ _ _ _ _ _ _ _ _ _)
   | (with_reducible exact ih1 _ _ _ _ _ _ _ _ _ _ _ _ _ _ _ _)
   | (with_reducible exact ih2 _ _ _ _ _ _ _ _ _ _ _ _ _)
   | (with_reducible exact dec_Dec_Zero.mono _ _ _ _)
   | (with_reducible exact florinlaw02_Raw_Make.mono _ _ _ _)
   | (with_reducible exact florinlaw04_Ask_Prec.mono _ _ _ _ _ _ _ _)
   | (with_reducible exact florinlaw04_head.mono _)
   | (with_reducible exact florinlaw04_trimEnd.mono _ _)
   | (with_reducible exact num_Is.mono _ _)
   | (with_reducible exact num_Trim.mono _ _)
   | (with_reducible exact show_Prec_Apply.mono _ _ _ _ _ _ _ _ _ _ _ _)
   | (with_reducible exact show_Prec_Round.mono _ _ _ _ _ _ _ _ _ _ _ _)
   | (with_reducible exact LeO.refl _)
   | (with_reducible exact LeO.none _)
   | (with_reducible refine LeO.ite ?_ ?_)
   | (with_reducible refine LeO.bind ?_ (fun _ => ?_))
   | exact ih0 _ _ _ _ _ _ _ _ _ _ _ _ _ _ _
   | exact ih1 _ _ _ _ _ _ _ _ _ _ _ _ _ _ _ _
   | exact ih2 _ _ _ _ _ _ _ _ _ _ _ _ _
   | exact dec_Dec_Zero.mono _ _ _ _
   | exact florinlaw02_Raw_Make.mono _ _ _ _
   | exact florinlaw04_Ask_Prec.mono _ _ _ _ _ _ _ _
   | exact florinlaw04_head.mono _
   | exact florinlaw04_trimEnd.mono _ _
   | exact num_Is.mono _ _
   | exact num_Trim.mono _ _
   | exact show_Prec_Apply.mono _ _ _ _ _ _ _ _ _ _ _ _
   | exact show_Prec_Round.mono _ _ _ _ _ _ _ _ _ _ _ _
   | exact LeO.none _
   | refine LeO.ite ?_ ?_
   | refine LeO.bind ?_ (fun _ => ?_)
theorem florinlaw04_ShowDigits.mono : ∀ a0 a1 a2 a3 a4 a5 a6 a7 a8 a9 k, LeO (florinlaw04_ShowDigits.f k a0 a1 a2 a3 a4 a5 a6 a7 a8 a9) (florinlaw04_ShowDigits.f (k + 1) a0 a1 a2 a3 a4 a5 a6 a7 a8 a9) := by
 intro a0 a1 a2 a3 a4 a5 a6 a7 a8 a9 k
 obtain ⟨ih0, ih1, ih2⟩ := florinlaw04_ShowDigits.mono_l k
 unfold florinlaw04_ShowDigits.f
 repeat' first
   | (with_reducible exact ih0 _ _ _ _ _ _ _ _ _ _ _ _ _ _ _)
   | (with_reducible exact ih1 _ _ _ _ _ _ _ _ _ _ _ _ _ _ _ _)
   | (with_reducible exact ih2 _ _ _ _ _ _ _ _ _ _ _ _ _)
   | (with_reducible exact dec_Dec_Zero.mono _ _ _ _)
   | (with_reducible exact florinlaw02_Raw_Make.mono _ _ _ _)
   | (with_reducible exact florinlaw04_Ask_Prec.mono _ _ _ _ _ _ _ _)
   | (with_reducible exact florinlaw04_head.mono _)
   | (with_reducible exact florinlaw04_trimEnd.mono _ _)
   | (with_reducible exact num_Is.mono _ _)
   | (with_reducible exact num_Trim.mono _ _)
   | (with_reducible exact show_Prec_Apply.mono _ _ _ _ _ _ _ _ _ _ _ _)
   | (with_reducible exact show_Prec_Round.mono _ _ _ _ _ _ _ _ _ _ _ _)
   | (with_reducible exact LeO.refl _)
   | (with_reducible exact LeO.none _)
   | (with_reducible refine LeO.ite ?_ ?_)
   | (with_reducible refine LeO.bind ?_ (fun _ => ?_))
   | exact ih0 _ _ _ _ _ _ _ _ _ _ _ _ _ _ _
   | exact ih1 _ _ _ _ _ _ _ _ _ _ _ _ _ _ _ _
   | exact ih2 _ _ _ _ _ _ _ _ _ _ _ _ _
   | exact dec_Dec_Zero.mono _ _ _ _
   | exact florinlaw02_Raw_Make.mono _ _ _ _
   | exact florinlaw04_Ask_Prec.mono _ _ _ _ _ _ _ _
   | exact florinlaw04_head.mono _
   | exact florinlaw04_trimEnd.mono _ _
   | exact num_Is.mono _ _
   | exact num_Trim.mono _ _
   | exact show_Prec_Apply.mono _ _ _ _ _ _ _ _ _ _ _ _
   | exact show_Prec_Round.mono _ _ _ _ _ _ _ _ _ _ _ _
   | exact LeO.none _
   | refine LeO.ite ?_ ?_
   | refine LeO.bind ?_ (fun _ => ?_)
def florinlaw04_ShowDigits.T6 : Bool × List (List Nat × List Nat) := (true, [([], []), ([], []), ([1], [1]), ([0, 2, 2], [0, 2]), ([3], [3]), ([4], [4]), ([4], [4]), ([], []), ([7, 5, 3, 0, 1, 2, 3, 4, 5, 7], [5, 7]), ([6, 8, 0, 1, 2, 3, 4, 5, 6, 7, 8], [6])])
def florinlaw04_ShowDigits.B6 : List Nat := [0, 0, 2, 7, 15, 31, 31, 0, 191, 511]
theorem florinlaw04_ShowDigits.tab6 : rtab .any (opsOf Tryd.f4 6) = florinlaw04_ShowDigits.T6 := by kernel_rfl
theorem florinlaw04_ShowDigits.bits6 : waitsOk florinlaw04_ShowDigits.T6.2 florinlaw04_ShowDigits.B6 = true := by kernel_rfl
def florinlaw04_ShowDigits.T26 : Bool × List (List Nat × List Nat) := (true, [([], []), ([0], [0]), ([1], [1]), ([], []), ([], []), ([4], [4]), ([5], [5]), ([6], [6]), ([3, 7], [3, 7]), ([2, 8], [2, 8]), ([9, 6], [9]), ([10], [10]), ([11, 10], [10, 11]), ([12, 10], [10, 12]), ([13, 10, 10], [10, 13]), ([14], [14]), ([15, 14], [14, 15]), ([16, 14], [14, 16]), ([17, 14], [14, 17]), ([14, 18, 10], [10, 14, 18]), ([10, 19], [10, 19]), ([20, 14, 0, 1, 2, 3, 4, 5, 6, 7, 8, 9, 10, 11, 12, 13, 14, 15, 16, 17, 18, 19, 20], [20])])
def florinlaw04_ShowDigits.B26 : List Nat := [0, 1, 3, 0, 0, 16, 48, 112, 248, 511, 1023, 2047, 4095, 8191, 16383, 32767, 65535, 131071, 262143, 524287, 1048575, 2097151]
theorem florinlaw04_ShowDigits.tab26 : rtab .any (opsOf Tryd.f4 26) = florinlaw04_ShowDigits.T26 := by kernel_rfl
theorem florinlaw04_ShowDigits.bits26 : waitsOk florinlaw04_ShowDigits.T26.2 florinlaw04_ShowDigits.B26 = true := by kernel_rfl
set_option maxHeartbeats 8000000 in
set_option maxRecDepth 100000 in
theorem florinlaw04_ShowDigits.calls (k : Nat) (a0_0 : Bool) (A0_1 : Option Addr) (c0_1 : Nat) (l0_1 : List Int) (a0_2 : Int) (a1_0 : Int) (a1_1 : Int) (a1_2 : Int) (a1_3 : Int) (a1_4 : Int) (a1_5 : Int) (a1_6 : Int) (r : Bool) (w : World) (hr0_1 : Kd.C (Kd.int .u8) w A0_1 l0_1.length l0_1) (hc0_1 : l0_1.length ≤ c0_1) (h : florinlaw04_ShowDigits.f k a0_0 l0_1 a0_2 a1_0 a1_1 a1_2 a1_3 a1_4 a1_5 a1_6 = some r) :
  Calls Tryd.prog 4 #[.agg #[.bool a0_0, .slice A0_1 l0_1.length c0_1, .int .i64 a0_2], .agg #[.int .i64 a1_0, .int .i64 a1_1, .int .i64 a1_2, .int .i64 a1_3, .int .i64 a1_4, .int .i64 a1_5, .int .i64 a1_6]] w fun e w' => e = .returned (.bool r) ∧ Below w.heap.size w w' := by
 have hu24 := Tryd.underlying24
 have hu42 := Tryd.underlying42
 have hu32 := Tryd.underlying32
 have hu35 := Tryd.underlying35
 have hu29 := Tryd.underlying29
 have HR0_1 := Aside0.mk hr0_1
 have HC0_1 := Aside0.mk hc0_1
 clear hr0_1 hc0_1
 have HB := Aside0.mk (Below.refl w.heap.size w)
 have H : ((florinlaw04_head.f k).bind fun t322 => (if t322 = true then ((florinlaw02_Raw_Few.f a0_0 l0_1 a0_2 30).bind fun t323 => (if t323 = true then ((florinlaw04_Ask_Prec.f k a1_0 a1_1 a1_2 a1_3 a1_4 a1_5 a1_6).bind fun bt324 => ((florinlaw02_Raw_Make.f k a0_0 l0_1 a0_2).bind fun bt333 => ((show_Prec_Apply.f k bt324.1 bt324.2.1 bt324.2.2.1 bt324.2.2.2.1 bt324.2.2.2.2.1 bt324.2.2.2.2.2.1 bt324.2.2.2.2.2.2.1 bt324.2.2.2.2.2.2.2 bt333.1 bt333.2.1 bt333.2.2).bind fun bt336 => ((florinlaw02_Raw_Make.f k a0_0 l0_1 a0_2).bind fun bt341 => ((show_Prec_Round.f k bt324.1 bt324.2.1 bt324.2.2.1 bt324.2.2.2.1 bt324.2.2.2.2.1 bt324.2.2.2.2.2.1 bt324.2.2.2.2.2.2.1 bt324.2.2.2.2.2.2.2 bt341.1 bt341.2.1 bt341.2.2).bind fun bt344 => (if bt336.2.2.2 = 0 then ((num_Is.f k bt336.2.1).bind fun t348 => (if t348 = true then ((num_Is.f k bt336.2.2.1).bind fun t349 => (if t349 = true then (if bt336.2.1.size + bt336.2.2.1.size ≤ 9223372036854775807 then (if (bt336.2.1 ++ bt336.2.2.1).toList = ([] : List UInt8) then (florinlaw04_ShowDigits.j0 k true bt324.1 bt324.2.1 bt324.2.2.1 bt324.2.2.2.1 bt324.2.2.2.2.1 bt324.2.2.2.2.2.1 bt324.2.2.2.2.2.2.1 bt324.2.2.2.2.2.2.2 bt336.1 bt336.2.1 bt336.2.2.1 bt344.1 bt344.2.1 bt344.2.2) else (florinlaw04_ShowDigits.j0 k (bt336.1 != bt344.1) bt324.1 bt324.2.1 bt324.2.2.1 bt324.2.2.2.1 bt324.2.2.2.2.1 bt324.2.2.2.2.2.1 bt324.2.2.2.2.2.2.1 bt324.2.2.2.2.2.2.2 bt336.1 bt336.2.1 bt336.2.2.1 bt344.1 bt344.2.1 bt344.2.2)) else (none)) else (florinlaw04_ShowDigits.j0 k true bt324.1 bt324.2.1 bt324.2.2.1 bt324.2.2.2.1 bt324.2.2.2.2.1 bt324.2.2.2.2.2.1 bt324.2.2.2.2.2.2.1 bt324.2.2.2.2.2.2.2 bt336.1 bt336.2.1 bt336.2.2.1 bt344.1 bt344.2.1 bt344.2.2))) else (florinlaw04_ShowDigits.j0 k true bt324.1 bt324.2.1 bt324.2.2.1 bt324.2.2.2.1 bt324.2.2.2.2.1 bt324.2.2.2.2.2.1 bt324.2.2.2.2.2.2.1 bt324.2.2.2.2.2.2.2 bt336.1 bt336.2.1 bt336.2.2.1 bt344.1 bt344.2.1 bt344.2.2))) else (florinlaw04_ShowDigits.j0 k true bt324.1 bt324.2.1 bt324.2.2.1 bt324.2.2.2.1 bt324.2.2.2.2.1 bt324.2.2.2.2.2.1 bt324.2.2.2.2.2.2.1 bt324.2.2.2.2.2.2.2 bt336.1 bt336.2.1 bt336.2.2.1 bt344.1 bt344.2.1 bt344.2.2))))))) else (some true))) else (some false))) = some r := h
 clear h
 replace H := Option.bind_eq_some_iff.mp H
 obtain ⟨t322, A30, H⟩ := H
 replace H : (if t322 = true then ((florinlaw02_Raw_Few.f a0_0 l0_1 a0_2 30).bind fun t323 => (if t323 = true then ((florinlaw04_Ask_Prec.f k a1_0 a1_1 a1_2 a1_3 a1_4 a1_5 a1_6).bind fun bt324 => ((florinlaw02_Raw_Make.f k a0_0 l0_1 a0_2).bind fun bt333 => ((show_Prec_Apply.f k bt324.1 bt324.2.1 bt324.2.2.1 bt324.2.2.2.1 bt324.2.2.2.2.1 bt324.2.2.2.2.2.1 bt324.2.2.2.2.2.2.1 bt324.2.2.2.2.2.2.2 bt333.1 bt333.2.1 bt333.2.2).bind fun bt336 => ((florinlaw02_Raw_Make.f k a0_0 l0_1 a0_2).bind fun bt341 => ((show_Prec_Round.f k bt324.1 bt324.2.1 bt324.2.2.1 bt324.2.2.2.1 bt324.2.2.2.2.1 bt324.2.2.2.2.2.1 bt324.2.2.2.2.2.2.1 bt324.2.2.2.2.2.2.2 bt341.1 bt341.2.1 bt341.2.2).bind fun bt344 => (if bt336.2.2.2 = 0 then ((num_Is.f k bt336.2.1).bind fun t348 => (if t348 = true then ((num_Is.f k bt336.2.2.1).bind fun t349 => (if t349 = true then (if bt336.2.1.size + bt336.2.2.1.size ≤ 9223372036854775807 then (if (bt336.2.1 ++ bt336.2.2.1).toList = ([] : List UInt8) then (florinlaw04_ShowDigits.j0 k true bt324.1 bt324.2.1 bt324.2.2.1 bt324.2.2.2.1 bt324.2.2.2.2.1 bt324.2.2.2.2.2.1 bt324.2.2.2.2.2.2.1 bt324.2.2.2.2.2.2.2 bt336.1 bt336.2.1 bt336.2.2.1 bt344.1 bt344.2.1 bt344.2.2) else (florinlaw04_ShowDigits.j0 k (bt336.1 != bt344.1) bt324.1 bt324.2.1 bt324.2.2.1 bt324.2.2.2.1 bt324.2.2.2.2.1 bt324.2.2.2.2.2.1 bt324.2.2.2.2.2.2.1 bt324.2.2.2.2.2.2.2 bt336.1 bt336.2.1 bt336.2.2.1 bt344.1 bt344.2.1 bt344.2.2)) else (none)) else (florinlaw04_ShowDigits.j0 k true bt324.1 bt324.2.1 bt324.2.2.1 bt324.2.2.2.1 bt324.2.2.2.2.1 bt324.2.2.2.2.2.1 bt324.2.2.2.2.2.2.1 bt324.2.2.2.2.2.2.2 bt336.1 bt336.2.1 bt336.2.2.1 bt344.1 bt344.2.1 bt344.2.2))) else (florinlaw04_ShowDigits.j0 k true bt324.1 bt324.2.1 bt324.2.2.1 bt324.2.2.2.1 bt324.2.2.2.2.1 bt324.2.2.2.2.2.1 bt324.2.2.2.2.2.2.1 bt324.2.2.2.2.2.2.2 bt336.1 bt336.2.1 bt336.2.2.1 bt344.1 bt344.2.1 bt344.2.2))) else (florinlaw04_ShowDigits.j0 k true bt324.1 bt324.2.1 bt324.2.2.1 bt324.2.2.2.1 bt324.2.2.2.2.1 bt324.2.2.2.2.2.1 bt324.2.2.2.2.2.2.1 bt324.2.2.2.2.2.2.2 bt336.1 bt336.2.1 bt336.2.2.1 bt344.1 bt344.2.1 bt344.2.2))))))) else (some true))) else (some false)) = some r := H
 have A3 := Aside0.mk A30
 clear A30
 by_cases c4 : t322 = true
 ·subst c4
  have H1 : ((florinlaw02_Raw_Few.f a0_0 l0_1 a0_2 30).bind fun t323 => (if t323 = true then ((florinlaw04_Ask_Prec.f k a1_0 a1_1 a1_2 a1_3 a1_4 a1_5 a1_6).bind fun bt324 => ((florinlaw02_Raw_Make.f k a0_0 l0_1 a0_2).bind fun bt333 => ((show_Prec_Apply.f k bt324.1 bt324.2.1 bt324.2.2.1 bt324.2.2.2.1 bt324.2.2.2.2.1 bt324.2.2.2.2.2.1 bt324.2.2.2.2.2.2.1 bt324.2.2.2.2.2.2.2 bt333.1 bt333.2.1 bt333.2.2).bind fun bt336 => ((florinlaw02_Raw_Make.f k a0_0 l0_1 a0_2).bind fun bt341 => ((show_Prec_Round.f k bt324.1 bt324.2.1 bt324.2.2.1 bt324.2.2.2.1 bt324.2.2.2.2.1 bt324.2.2.2.2.2.1 bt324.2.2.2.2.2.2.1 bt324.2.2.2.2.2.2.2 bt341.1 bt341.2.1 bt341.2.2).bind fun bt344 => (if bt336.2.2.2 = 0 then ((num_Is.f k bt336.2.1).bind fun t348 => (if t348 = true then ((num_Is.f k bt336.2.2.1).bind fun t349 => (if t349 = true then (if bt336.2.1.size + bt336.2.2.1.size ≤ 9223372036854775807 then (if (bt336.2.1 ++ bt336.2.2.1).toList = ([] : List UInt8) then (florinlaw04_ShowDigits.j0 k true bt324.1 bt324.2.1 bt324.2.2.1 bt324.2.2.2.1 bt324.2.2.2.2.1 bt324.2.2.2.2.2.1 bt324.2.2.2.2.2.2.1 bt324.2.2.2.2.2.2.2 bt336.1 bt336.2.1 bt336.2.2.1 bt344.1 bt344.2.1 bt344.2.2) else (florinlaw04_ShowDigits.j0 k (bt336.1 != bt344.1) bt324.1 bt324.2.1 bt324.2.2.1 bt324.2.2.2.1 bt324.2.2.2.2.1 bt324.2.2.2.2.2.1 bt324.2.2.2.2.2.2.1 bt324.2.2.2.2.2.2.2 bt336.1 bt336.2.1 bt336.2.2.1 bt344.1 bt344.2.1 bt344.2.2)) else (none)) else (florinlaw04_ShowDigits.j0 k true bt324.1 bt324.2.1 bt324.2.2.1 bt324.2.2.2.1 bt324.2.2.2.2.1 bt324.2.2.2.2.2.1 bt324.2.2.2.2.2.2.1 bt324.2.2.2.2.2.2.2 bt336.1 bt336.2.1 bt336.2.2.1 bt344.1 bt344.2.1 bt344.2.2))) else (florinlaw04_ShowDigits.j0 k true bt324.1 bt324.2.1 bt324.2.2.1 bt324.2.2.2.1 bt324.2.2.2.2.1 bt324.2.2.2.2.2.1 bt324.2.2.2.2.2.2.1 bt324.2.2.2.2.2.2.2 bt336.1 bt336.2.1 bt336.2.2.1 bt344.1 bt344.2.1 bt344.2.2))) else (florinlaw04_ShowDigits.j0 k true bt324.1 bt324.2.1 bt324.2.2.1 bt324.2.2.2.1 bt324.2.2.2.2.1 bt324.2.2.2.2.2.1 bt324.2.2.2.2.2.2.1 bt324.2.2.2.2.2.2.2 bt336.1 bt336.2.1 bt336.2.2.1 bt344.1 bt344.2.1 bt344.2.2))))))) else (some true))) = some r := by rw [if_pos rfl] at H; exact H
  clear H
  have H := H1
  clear H1
  replace H := Option.bind_eq_some_iff.mp H
  obtain ⟨t323, A50, H⟩ := H
  replace H : (if t323 = true then ((florinlaw04_Ask_Prec.f k a1_0 a1_1 a1_2 a1_3 a1_4 a1_5 a1_6).bind fun bt324 => ((florinlaw02_Raw_Make.f k a0_0 l0_1 a0_2).bind fun bt333 => ((show_Prec_Apply.f k bt324.1 bt324.2.1 bt324.2.2.1 bt324.2.2.2.1 bt324.2.2.2.2.1 bt324.2.2.2.2.2.1 bt324.2.2.2.2.2.2.1 bt324.2.2.2.2.2.2.2 bt333.1 bt333.2.1 bt333.2.2).bind fun bt336 => ((florinlaw02_Raw_Make.f k a0_0 l0_1 a0_2).bind fun bt341 => ((show_Prec_Round.f k bt324.1 bt324.2.1 bt324.2.2.1 bt324.2.2.2.1 bt324.2.2.2.2.1 bt324.2.2.2.2.2.1 bt324.2.2.2.2.2.2.1 bt324.2.2.2.2.2.2.2 bt341.1 bt341.2.1 bt341.2.2).bind fun bt344 => (if bt336.2.2.2 = 0 then ((num_Is.f k bt336.2.1).bind fun t348 => (if t348 = true then ((num_Is.f k bt336.2.2.1).bind fun t349 => (if t349 = true then (if bt336.2.1.size + bt336.2.2.1.size ≤ 9223372036854775807 then (if (bt336.2.1 ++ bt336.2.2.1).toList = ([] : List UInt8) then (florinlaw04_ShowDigits.j0 k true bt324.1 bt324.2.1 bt324.2.2.1 bt324.2.2.2.1 bt324.2.2.2.2.1 bt324.2.2.2.2.2.1 bt324.2.2.2.2.2.2.1 bt324.2.2.2.2.2.2.2 bt336.1 bt336.2.1 bt336.2.2.1 bt344.1 bt344.2.1 bt344.2.2) else (florinlaw04_ShowDigits.j0 k (bt336.1 != bt344.1) bt324.1 bt324.2.1 bt324.2.2.1 bt324.2.2.2.1 bt324.2.2.2.2.1 bt324.2.2.2.2.2.1 bt324.2.2.2.2.2.2.1 bt324.2.2.2.2.2.2.2 bt336.1 bt336.2.1 bt336.2.2.1 bt344.1 bt344.2.1 bt344.2.2)) else (none)) else (florinlaw04_ShowDigits.j0 k true bt324.1 bt324.2.1 bt324.2.2.1 bt324.2.2.2.1 bt324.2.2.2.2.1 bt324.2.2.2.2.2.1 bt324.2.2.2.2.2.2.1 bt324.2.2.2.2.2.2.2 bt336.1 bt336.2.1 bt336.2.2.1 bt344.1 bt344.2.1 bt344.2.2))) else (florinlaw04_ShowDigits.j0 k true bt324.1 bt324.2.1 bt324.2.2.1 bt324.2.2.2.1 bt324.2.2.2.2.1 bt324.2.2.2.2.2.1 bt324.2.2.2.2.2.2.1 bt324.2.2.2.2.2.2.2 bt336.1 bt336.2.1 bt336.2.2.1 bt344.1 bt344.2.1 bt344.2.2))) else (florinlaw04_ShowDigits.j0 k true bt324.1 bt324.2.1 bt324.2.2.1 bt324.2.2.2.1 bt324.2.2.2.2.1 bt324.2.2.2.2.2.1 bt324.2.2.2.2.2.2.1 bt324.2.2.2.2.2.2.2 bt336.1 bt336.2.1 bt336.2.2.1 bt344.1 bt344.2.1 bt344.2.2))))))) else (some true)) = some r := H
  have A5 := Aside0.mk A50
  clear A50
  by_cases c6 : t323 = true
  ·subst c6
   have H1 : ((florinlaw04_Ask_Prec.f k a1_0 a1_1 a1_2 a1_3 a1_4 a1_5 a1_6).bind fun bt324 => ((florinlaw02_Raw_Make.f k a0_0 l0_1 a0_2).bind fun bt333 => ((show_Prec_Apply.f k bt324.1 bt324.2.1 bt324.2.2.1 bt324.2.2.2.1 bt324.2.2.2.2.1 bt324.2.2.2.2.2.1 bt324.2.2.2.2.2.2.1 bt324.2.2.2.2.2.2.2 bt333.1 bt333.2.1 bt333.2.2).bind fun bt336 => ((florinlaw02_Raw_Make.f k a0_0 l0_1 a0_2).bind fun bt341 => ((show_Prec_Round.f k bt324.1 bt324.2.1 bt324.2.2.1 bt324.2.2.2.1 bt324.2.2.2.2.1 bt324.2.2.2.2.2.1 bt324.2.2.2.2.2.2.1 bt324.2.2.2.2.2.2.2 bt341.1 bt341.2.1 bt341.2.2).bind fun bt344 => (if bt336.2.2.2 = 0 then ((num_Is.f k bt336.2.1).bind fun t348 => (if t348 = true then ((num_Is.f k bt336.2.2.1).bind fun t349 => (if t349 = true then (if bt336.2.1.size + bt336.2.2.1.size ≤ 9223372036854775807 then (if (bt336.2.1 ++ bt336.2.2.1).toList = ([] : List UInt8) then (florinlaw04_ShowDigits.j0 k true bt324.1 bt324.2.1 bt324.2.2.1 bt324.2.2.2.1 bt324.2.2.2.2.1 bt324.2.2.2.2.2.1 bt324.2.2.2.2.2.2.1 bt324.2.2.2.2.2.2.2 bt336.1 bt336.2.1 bt336.2.2.1 bt344.1 bt344.2.1 bt344.2.2) else (florinlaw04_ShowDigits.j0 k (bt336.1 != bt344.1) bt324.1 bt324.2.1 bt324.2.2.1 bt324.2.2.2.1 bt324.2.2.2.2.1 bt324.2.2.2.2.2.1 bt324.2.2.2.2.2.2.1 bt324.2.2.2.2.2.2.2 bt336.1 bt336.2.1 bt336.2.2.1 bt344.1 bt344.2.1 bt344.2.2)) else (none)) else (florinlaw04_ShowDigits.j0 k true bt324.1 bt324.2.1 bt324.2.2.1 bt324.2.2.2.1 bt324.2.2.2.2.1 bt324.2.2.2.2.2.1 bt324.2.2.2.2.2.2.1 bt324.2.2.2.2.2.2.2 bt336.1 bt336.2.1 bt336.2.2.1 bt344.1 bt344.2.1 bt344.2.2))) else (florinlaw04_ShowDigits.j0 k true bt324.1 bt324.2.1 bt324.2.2.1 bt324.2.2.2.1 bt324.2.2.2.2.1 bt324.2.2.2.2.2.1 bt324.2.2.2.2.2.2.1 bt324.2.2.2.2.2.2.2 bt336.1 bt336.2.1 bt336.2.2.1 bt344.1 bt344.2.1 bt344.2.2))) else (florinlaw04_ShowDigits.j0 k true bt324.1 bt324.2.1 bt324.2.2.1 bt324.2.2.2.1 bt324.2.2.2.2.1 bt324.2.2.2.2.2.1 bt324.2.2.2.2.2.2.1 bt324.2.2.2.2.2.2.2 bt336.1 bt336.2.1 bt336.2.2.1 bt344.1 bt344.2.1 bt344.2.2))))))) = some r := by rw [if_pos rfl] at H; exact H
   clear H
   have H := H1
   clear H1
   replace H := Option.bind_eq_some_iff.mp H
   obtain ⟨⟨t324, t325, t326, t327, t328, t329, t330, t331⟩, A70, H⟩ := H
   replace H : ((florinlaw02_Raw_Make.f k a0_0 l0_1 a0_2).bind fun bt333 => ((show_Prec_Apply.f k t324 t325 t326 t327 t328 t329 t330 t331 bt333.1 bt333.2.1 bt333.2.2).bind fun bt336 => ((florinlaw02_Raw_Make.f k a0_0 l0_1 a0_2).bind fun bt341 => ((show_Prec_Round.f k t324 t325 t326 t327 t328 t329 t330 t331 bt341.1 bt341.2.1 bt341.2.2).bind fun bt344 => (if bt336.2.2.2 = 0 then ((num_Is.f k bt336.2.1).bind fun t348 => (if t348 = true then ((num_Is.f k bt336.2.2.1).bind fun t349 => (if t349 = true then (if bt336.2.1.size + bt336.2.2.1.size ≤ 9223372036854775807 then (if (bt336.2.1 ++ bt336.2.2.1).toList = ([] : List UInt8) then (florinlaw04_ShowDigits.j0 k true t324 t325 t326 t327 t328 t329 t330 t331 bt336.1 bt336.2.1 bt336.2.2.1 bt344.1 bt344.2.1 bt344.2.2) else (florinlaw04_ShowDigits.j0 k (bt336.1 != bt344.1) t324 t325 t326 t327 t328 t329 t330 t331 bt336.1 bt336.2.1 bt336.2.2.1 bt344.1 bt344.2.1 bt344.2.2)) else (none)) else (florinlaw04_ShowDigits.j0 k true t324 t325 t326 t327 t328 t329 t330 t331 bt336.1 bt336.2.1 bt336.2.2.1 bt344.1 bt344.2.1 bt344.2.2))) else (florinlaw04_ShowDigits.j0 k true t324 t325 t326 t327 t328 t329 t330 t331 bt336.1 bt336.2.1 bt336.2.2.1 bt344.1 bt344.2.1 bt344.2.2))) else (florinlaw04_ShowDigits.j0 k true t324 t325 t326 t327 t328 t329 t330 t331 bt336.1 bt336.2.1 bt336.2.2.1 bt344.1 bt344.2.1 bt344.2.2)))))) = some r := H
   have A7 := Aside0.mk A70
   clear A70
   replace H := Option.bind_eq_some_iff.mp H
   obtain ⟨⟨t333, t334, t335⟩, A80, H⟩ := H
   replace H : ((show_Prec_Apply.f k t324 t325 t326 t327 t328 t329 t330 t331 t333 t334 t335).bind fun bt336 => ((florinlaw02_Raw_Make.f k a0_0 l0_1 a0_2).bind fun bt341 => ((show_Prec_Round.f k t324 t325 t326 t327 t328 t329 t330 t331 bt341.1 bt341.2.1 bt341.2.2).bind fun bt344 => (if bt336.2.2.2 = 0 then ((num_Is.f k bt336.2.1).bind fun t348 => (if t348 = true then ((num_Is.f k bt336.2.2.1).bind fun t349 => (if t349 = true then (if bt336.2.1.size + bt336.2.2.1.size ≤ 9223372036854775807 then (if (bt336.2.1 ++ bt336.2.2.1).toList = ([] : List UInt8) then (florinlaw04_ShowDigits.j0 k true t324 t325 t326 t327 t328 t329 t330 t331 bt336.1 bt336.2.1 bt336.2.2.1 bt344.1 bt344.2.1 bt344.2.2) else (florinlaw04_ShowDigits.j0 k (bt336.1 != bt344.1) t324 t325 t326 t327 t328 t329 t330 t331 bt336.1 bt336.2.1 bt336.2.2.1 bt344.1 bt344.2.1 bt344.2.2)) else (none)) else (florinlaw04_ShowDigits.j0 k true t324 t325 t326 t327 t328 t329 t330 t331 bt336.1 bt336.2.1 bt336.2.2.1 bt344.1 bt344.2.1 bt344.2.2))) else (florinlaw04_ShowDigits.j0 k true t324 t325 t326 t327 t328 t329 t330 t331 bt336.1 bt336.2.1 bt336.2.2.1 bt344.1 bt344.2.1 bt344.2.2))) else (florinlaw04_ShowDigits.j0 k true t324 t325 t326 t327 t328 t329 t330 t331 bt336.1 bt336.2.1 bt336.2.2.1 bt344.1 bt344.2.1 bt344.2.2))))) = some r := H
   have A8 := Aside0.mk A80
   clear A80
   replace H := Option.bind_eq_some_iff.mp H
   obtain ⟨⟨t336, t337, t338, t339⟩, A90, H⟩ := H
   replace H : ((florinlaw02_Raw_Make.f k a0_0 l0_1 a0_2).bind fun bt341 => ((show_Prec_Round.f k t324 t325 t326 t327 t328 t329 t330 t331 bt341.1 bt341.2.1 bt341.2.2).bind fun bt344 => (if t339 = 0 then ((num_Is.f k t337).bind fun t348 => (if t348 = true then ((num_Is.f k t338).bind fun t349 => (if t349 = true then (if t337.size + t338.size ≤ 9223372036854775807 then (if (t337 ++ t338).toList = ([] : List UInt8) then (florinlaw04_ShowDigits.j0 k true t324 t325 t326 t327 t328 t329 t330 t331 t336 t337 t338 bt344.1 bt344.2.1 bt344.2.2) else (florinlaw04_ShowDigits.j0 k (t336 != bt344.1) t324 t325 t326 t327 t328 t329 t330 t331 t336 t337 t338 bt344.1 bt344.2.1 bt344.2.2)) else (none)) else (florinlaw04_ShowDigits.j0 k true t324 t325 t326 t327 t328 t329 t330 t331 t336 t337 t338 bt344.1 bt344.2.1 bt344.2.2))) else (florinlaw04_ShowDigits.j0 k true t324 t325 t326 t327 t328 t329 t330 t331 t336 t337 t338 bt344.1 bt344.2.1 bt344.2.2))) else (florinlaw04_ShowDigits.j0 k true t324 t325 t326 t327 t328 t329 t330 t331 t336 t337 t338 bt344.1 bt344.2.1 bt344.2.2)))) = some r := H
   have A9 := Aside0.mk A90
   clear A90
   replace H := Option.bind_eq_some_iff.mp H
   obtain ⟨⟨t341, t342, t343⟩, A100, H⟩ := H
   replace H : ((show_Prec_Round.f k t324 t325 t326 t327 t328 t329 t330 t331 t341 t342 t343).bind fun bt344 => (if t339 = 0 then ((num_Is.f k t337).bind fun t348 => (if t348 = true then ((num_Is.f k t338).bind fun t349 => (if t349 = true then (if t337.size + t338.size ≤ 9223372036854775807 then (if (t337 ++ t338).toList = ([] : List UInt8) then (florinlaw04_ShowDigits.j0 k true t324 t325 t326 t327 t328 t329 t330 t331 t336 t337 t338 bt344.1 bt344.2.1 bt344.2.2) else (florinlaw04_ShowDigits.j0 k (t336 != bt344.1) t324 t325 t326 t327 t328 t329 t330 t331 t336 t337 t338 bt344.1 bt344.2.1 bt344.2.2)) else (none)) else (florinlaw04_ShowDigits.j0 k true t324 t325 t326 t327 t328 t329 t330 t331 t336 t337 t338 bt344.1 bt344.2.1 bt344.2.2))) else (florinlaw04_ShowDigits.j0 k true t324 t325 t326 t327 t328 t329 t330 t331 t336 t337 t338 bt344.1 bt344.2.1 bt344.2.2))) else (florinlaw04_ShowDigits.j0 k true t324 t325 t326 t327 t328 t329 t330 t331 t336 t337 t338 bt344.1 bt344.2.1 bt344.2.2))) = some r := H
   have A10 := Aside0.mk A100
   clear A100
   replace H := Option.bind_eq_some_iff.mp H
   obtain ⟨⟨t344, t345, t346⟩, A110, H⟩ := H
   replace H : (if t339 = 0 then ((num_Is.f k t337).bind fun t348 => (if t348 = true then ((num_Is.f k t338).bind fun t349 => (if t349 = true then (if t337.size + t338.size ≤ 9223372036854775807 then (if (t337 ++ t338).toList = ([] : List UInt8) then (florinlaw04_ShowDigits.j0 k true t324 t325 t326 t327 t328 t329 t330 t331 t336 t337 t338 t344 t345 t346) else (florinlaw04_ShowDigits.j0 k (t336 != t344) t324 t325 t326 t327 t328 t329 t330 t331 t336 t337 t338 t344 t345 t346)) else (none)) else (florinlaw04_ShowDigits.j0 k true t324 t325 t326 t327 t328 t329 t330 t331 t336 t337 t338 t344 t345 t346))) else (florinlaw04_ShowDigits.j0 k true t324 t325 t326 t327 t328 t329 t330 t331 t336 t337 t338 t344 t345 t346))) else (florinlaw04_ShowDigits.j0 k true t324 t325 t326 t327 t328 t329 t330 t331 t336 t337 t338 t344 t345 t346)) = some r := H
   have A11 := Aside0.mk A110
   clear A110
   have HC12 := Aside0.mk H
   clear H
   go_enter Tryd.func4, Tryd.ntmps4
   try go_wp2_with (first | ((with_reducible refine gate_dst (N := 2) rfl ?_); (try (refine gate_guard (by rfl) ?_; dsimp only)); refine be_ 2 #[.bool a0_0, .slice A0_1 l0_1.length c0_1, .int .i64 a0_2] 24 ?_; intro gb320 hg w13 hbox hb; have BK320 := Aside0.mk (hbox); have GW320 := sz_ HB hg; have GE320 := sz_ HB hg; replace HB := Aside0.mk (below_step (bl_ HB).out hb); clear hb hbox hg) | ((with_reducible refine gate_dst (N := 3) rfl ?_); (try (refine gate_guard (by rfl) ?_; dsimp only)); refine be_ 3 #[.int .i64 a1_0, .int .i64 a1_1, .int .i64 a1_2, .int .i64 a1_3, .int .i64 a1_4, .int .i64 a1_5, .int .i64 a1_6] 42 ?_; intro gb321 hg w14 hbox hb; have BK321 := Aside0.mk (hbox); have GW321 := sz_ HB hg; have GE321 := sz_ HB hg; have NB320_321 := na_ BK320 hg; have NB321_320 := nb_ BK320 hg; replace BK320 := bb_ BK320 hb; replace HB := Aside0.mk (below_step (bl_ HB).out hb); clear hb hbox hg) | ((with_reducible refine gate_callee (f := 8) rfl ?_); refine gl_ (some 14) Tryd.func8 #[] ?_; (with_reducible refine (florinlaw04_head.calls k  true _ A3.out).mono ?_); rintro e w15 ⟨rfl, hb⟩; refine ⟨_, rfl, ?_⟩; replace BK320 := bb_ BK320 hb; replace BK321 := bb_ BK321 hb; replace HB := Aside0.mk (below_step (bl_ HB).out hb); (try clear hb); (try clear hb2); (try clear hk); (try clear hi); have hnb16 := NB320_321.out; have hnc16 := NB321_320.out; obtain ⟨hcz17_0, hcz17_1, hcz17_2, hfz17_0, hfz17_1, hfz17_2⟩ := bo3_ BK320) | ((with_reducible refine gate_callee (f := 15) rfl ?_); refine gl_ (some 17) Tryd.func15 #[.agg #[.bool a0_0, .slice A0_1 l0_1.length c0_1, .int .i64 a0_2], .int .i64 30] ?_; (with_reducible refine (florinlaw02_Raw_Few.calls a0_0 _ _ l0_1 a0_2 30 true _ ?side1 ?side2 A5.out).mono ?_); (case side1 => repeat (first | exact (Kd.C_below HR0_1.out HB.out) | (with_reducible refine Kd.C_alloc ?_ _) | (with_reducible refine Kd.C_drewN ?_ _) | (with_reducible refine Kd.C_drew ?_))); (case side2 => exact HC0_1.out); rintro e w18 ⟨rfl, hb⟩; refine ⟨_, rfl, ?_⟩; replace BK320 := bb_ BK320 hb; replace BK321 := bb_ BK321 hb; replace HB := Aside0.mk (below_step (bl_ HB).out hb); (try clear hb); (try clear hb2); (try clear hk); (try clear hi); obtain ⟨hcz19_0, hcz19_1, hcz19_2, hcz19_3, hcz19_4, hcz19_5, hcz19_6, hfz19_0, hfz19_1, hfz19_2, hfz19_3, hfz19_4, hfz19_5, hfz19_6⟩ := bo7_ BK321) | ((with_reducible refine gate_callee (f := 16) rfl ?_); refine gl_ (some 20) Tryd.func16 #[.agg #[.int .i64 a1_0, .int .i64 a1_1, .int .i64 a1_2, .int .i64 a1_3, .int .i64 a1_4, .int .i64 a1_5, .int .i64 a1_6]] ?_; (with_reducible refine (florinlaw04_Ask_Prec.calls k a1_0 a1_1 a1_2 a1_3 a1_4 a1_5 a1_6 t324 t325 t326 t327 t328 t329 t330 t331 _ A7.out).mono ?_); rintro e w20 ⟨rfl, hb⟩; refine ⟨_, rfl, ?_⟩; replace BK320 := bb_ BK320 hb; replace BK321 := bb_ BK321 hb; replace HB := Aside0.mk (below_step (bl_ HB).out hb); (try clear hb); (try clear hb2); (try clear hk); (try clear hi)) | ((with_reducible refine gate_dst (N := 5) rfl ?_); (try (refine gate_guard (by rfl) ?_; dsimp only)); refine be_ 5 #[.int .i64 0, .int .i64 0, .int .i64 0, .bool false, .string (⟨#[]⟩ : ByteArray), .int .i64 0, .int .i64 0, .int .i64 0] 32 ?_; intro gb332 hg w21 hbox hb; have BK332 := Aside0.mk (hbox); have GW332 := sz_ HB hg; have GE332 := sz_ HB hg; have NB320_332 := na_ BK320 hg; have NB332_320 := nb_ BK320 hg; have NB321_332 := na_ BK321 hg; have NB332_321 := nb_ BK321 hg; replace BK320 := bb_ BK320 hb; replace BK321 := bb_ BK321 hb; replace HB := Aside0.mk (below_step (bl_ HB).out hb); clear hb hbox hg; have hnb22 := NB332_320.out; have hnc22 := NB320_332.out; have hnb23 := NB332_321.out; have hnc23 := NB321_332.out; obtain ⟨hcz24_0, hcz24_1, hcz24_2, hcz24_3, hcz24_4, hcz24_5, hcz24_6, hcz24_7, hfz24_0, hfz24_1, hfz24_2, hfz24_3, hfz24_4, hfz24_5, hfz24_6, hfz24_7⟩ := bo8_ BK332))
   have n0_ : Aside0 (((((((((w21.setCell ⟨gb332, 0, none⟩ (.int .i64 t324)).setCell ⟨gb332, 1, none⟩ (.int .i64 t325)).setCell ⟨gb332, 2, none⟩ (.int .i64 t326)).setCell ⟨gb332, 3, none⟩ (.bool t327)).setCell ⟨gb332, 4, none⟩ (.string t328)).setCell ⟨gb332, 5, none⟩ (.int .i64 t329)).setCell ⟨gb332, 6, none⟩ (.int .i64 t330)).setCell ⟨gb332, 7, none⟩ (.int .i64 t331)).heap[gb320]? = _) := bf_ BK320
   have n1_ : Aside0 (((((((((w21.setCell ⟨gb332, 0, none⟩ (.int .i64 t324)).setCell ⟨gb332, 1, none⟩ (.int .i64 t325)).setCell ⟨gb332, 2, none⟩ (.int .i64 t326)).setCell ⟨gb332, 3, none⟩ (.bool t327)).setCell ⟨gb332, 4, none⟩ (.string t328)).setCell ⟨gb332, 5, none⟩ (.int .i64 t329)).setCell ⟨gb332, 6, none⟩ (.int .i64 t330)).setCell ⟨gb332, 7, none⟩ (.int .i64 t331)).heap[gb321]? = _) := bf_ BK321
   have n2_ : Aside0 (((((((((w21.setCell ⟨gb332, 0, none⟩ (.int .i64 t324)).setCell ⟨gb332, 1, none⟩ (.int .i64 t325)).setCell ⟨gb332, 2, none⟩ (.int .i64 t326)).setCell ⟨gb332, 3, none⟩ (.bool t327)).setCell ⟨gb332, 4, none⟩ (.string t328)).setCell ⟨gb332, 5, none⟩ (.int .i64 t329)).setCell ⟨gb332, 6, none⟩ (.int .i64 t330)).setCell ⟨gb332, 7, none⟩ (.int .i64 t331)).heap[gb332]? = some (.cells #[.int .i64 t324, .int .i64 t325, .int .i64 t326, .bool t327, .string t328, .int .i64 t329, .int .i64 t330, .int .i64 t331] 32 (0, 0))) := ⟨by (with_reducible repeat (first | refine blk_drewN ?_ _ | refine blk_drew ?_ | refine blk_alloc ?_ _)); refine blk_put (cs := #[.int .i64 t324, .int .i64 t325, .int .i64 t326, .bool t327, .string t328, .int .i64 t329, .int .i64 t330, .int .i64 0]) ?_ 7 _ rfl; (with_reducible repeat (first | refine blk_drewN ?_ _ | refine blk_drew ?_ | refine blk_alloc ?_ _)); refine blk_put (cs := #[.int .i64 t324, .int .i64 t325, .int .i64 t326, .bool t327, .string t328, .int .i64 t329, .int .i64 0, .int .i64 0]) ?_ 6 _ rfl; (with_reducible repeat (first | refine blk_drewN ?_ _ | refine blk_drew ?_ | refine blk_alloc ?_ _)); refine blk_put (cs := #[.int .i64 t324, .int .i64 t325, .int .i64 t326, .bool t327, .string t328, .int .i64 0, .int .i64 0, .int .i64 0]) ?_ 5 _ rfl; (with_reducible repeat (first | refine blk_drewN ?_ _ | refine blk_drew ?_ | refine blk_alloc ?_ _)); refine blk_put (cs := #[.int .i64 t324, .int .i64 t325, .int .i64 t326, .bool t327, .string (⟨#[]⟩ : ByteArray), .int .i64 0, .int .i64 0, .int .i64 0]) ?_ 4 _ rfl; (with_reducible repeat (first | refine blk_drewN ?_ _ | refine blk_drew ?_ | refine blk_alloc ?_ _)); refine blk_put (cs := #[.int .i64 t324, .int .i64 t325, .int .i64 t326, .bool false, .string (⟨#[]⟩ : ByteArray), .int .i64 0, .int .i64 0, .int .i64 0]) ?_ 3 _ rfl; (with_reducible repeat (first | refine blk_drewN ?_ _ | refine blk_drew ?_ | refine blk_alloc ?_ _)); refine blk_put (cs := #[.int .i64 t324, .int .i64 t325, .int .i64 0, .bool false, .string (⟨#[]⟩ : ByteArray), .int .i64 0, .int .i64 0, .int .i64 0]) ?_ 2 _ rfl; (with_reducible repeat (first | refine blk_drewN ?_ _ | refine blk_drew ?_ | refine blk_alloc ?_ _)); refine blk_put (cs := #[.int .i64 t324, .int .i64 0, .int .i64 0, .bool false, .string (⟨#[]⟩ : ByteArray), .int .i64 0, .int .i64 0, .int .i64 0]) ?_ 1 _ rfl; (with_reducible repeat (first | refine blk_drewN ?_ _ | refine blk_drew ?_ | refine blk_alloc ?_ _)); refine blk_put (cs := #[.int .i64 0, .int .i64 0, .int .i64 0, .bool false, .string (⟨#[]⟩ : ByteArray), .int .i64 0, .int .i64 0, .int .i64 0]) ?_ 0 _ rfl; (with_reducible repeat (first | refine blk_drewN ?_ _ | refine blk_drew ?_ | refine blk_alloc ?_ _)); exact BK332.out⟩
   have n3_ : Aside0 (Below w.heap.size w ((((((((w21.setCell ⟨gb332, 0, none⟩ (.int .i64 t324)).setCell ⟨gb332, 1, none⟩ (.int .i64 t325)).setCell ⟨gb332, 2, none⟩ (.int .i64 t326)).setCell ⟨gb332, 3, none⟩ (.bool t327)).setCell ⟨gb332, 4, none⟩ (.string t328)).setCell ⟨gb332, 5, none⟩ (.int .i64 t329)).setCell ⟨gb332, 6, none⟩ (.int .i64 t330)).setCell ⟨gb332, 7, none⟩ (.int .i64 t331))) := (bl_ HB)
   (try clear BK320)
   (try clear BK321)
   (try clear BK332)
   (try clear HB)
   generalize ((((((((w21.setCell ⟨gb332, 0, none⟩ (.int .i64 t324)).setCell ⟨gb332, 1, none⟩ (.int .i64 t325)).setCell ⟨gb332, 2, none⟩ (.int .i64 t326)).setCell ⟨gb332, 3, none⟩ (.bool t327)).setCell ⟨gb332, 4, none⟩ (.string t328)).setCell ⟨gb332, 5, none⟩ (.int .i64 t329)).setCell ⟨gb332, 6, none⟩ (.int .i64 t330)).setCell ⟨gb332, 7, none⟩ (.int .i64 t331)) = w25 at n0_ n1_ n2_ n3_ ⊢
   have BK320 := n0_
   have BK321 := n1_
   have BK332 := n2_
   have HB := n3_
   clear n0_ n1_ n2_ n3_
   replace BK320 := Aside0.mk (blk_drew BK320.out)
   replace BK321 := Aside0.mk (blk_drew BK321.out)
   replace BK332 := Aside0.mk (blk_drew BK332.out)
   replace HB := Aside0.mk (below_drew1 HB.out)
   refine start_ (n := 10) (S := fun w' => w'.cell? ⟨gb332, 0, none⟩ = some (.int .i64 t324) ∧ w'.cell? ⟨gb332, 1, none⟩ = some (.int .i64 t325) ∧ w'.cell? ⟨gb332, 2, none⟩ = some (.int .i64 t326) ∧ w'.cell? ⟨gb332, 3, none⟩ = some (.bool t327) ∧ w'.cell? ⟨gb332, 4, none⟩ = some (.string t328) ∧ w'.cell? ⟨gb332, 5, none⟩ = some (.int .i64 t329) ∧ w'.cell? ⟨gb332, 6, none⟩ = some (.int .i64 t330) ∧ w'.cell? ⟨gb332, 7, none⟩ = some (.int .i64 t331) ∧ w'.cell? ⟨gb320, 0, none⟩ = some (.bool a0_0) ∧ w'.cell? ⟨gb320, 1, none⟩ = some (.slice A0_1 l0_1.length c0_1) ∧ w'.cell? ⟨gb320, 2, none⟩ = some (.int .i64 a0_2)) (ds := []) #[false, false, false, false, false, false, false, false, false, false] (by kernel_rfl) rfl rfl ⟨bc_ BK332 0, bc_ BK332 1, bc_ BK332 2, bc_ BK332 3, bc_ BK332 4, bc_ BK332 5, bc_ BK332 6, bc_ BK332 7, bc_ BK320 0, bc_ BK320 1, bc_ BK320 2⟩ (fun hHeld => ?_); refine with_tabW florinlaw04_ShowDigits.tab6 florinlaw04_ShowDigits.bits6 (fun HT_ HW_ => ?_)
   generalize w25.drew = w26 at BK320 BK321 BK332 HB hHeld ⊢
   refine tk_ 0 22 (bm_ 10 1) HT_ HW_ hHeld rfl (by rintro w' ⟨s0, s1, s2, s3, s4, s5, s6, s7, s8, s9, s10⟩; go_simp; with_reducible rfl) ?_
   refine tk_ 1 23 (bm_ 10 3) HT_ HW_ hHeld rfl (by rintro w' ⟨s0, s1, s2, s3, s4, s5, s6, s7, s8, s9, s10⟩; go_simp; with_reducible rfl) ?_
   refine join_ (σ := Nat) 2 #[true, true, true, true, true, true, true, true, false, false] (fun s_ => [(24, .agg #[.bool t333, .string t334, .int .i64 t335]), (25, .tuple #[.agg #[.bool t336, .string t337, .string t338], .int .i64 t339]), (6, .pointer (some ⟨s_, 0, none⟩)), (21, .tuple #[.agg #[.bool t336, .string t337, .string t338], .int .i64 t339]), (26, .agg #[.bool t336, .string t337, .string t338]), (27, .int .i64 t339)]) (fun s_ w' => (w'.cell? ⟨gb332, 0, none⟩ = some (.int .i64 t324) ∧ w'.cell? ⟨gb332, 1, none⟩ = some (.int .i64 t325) ∧ w'.cell? ⟨gb332, 2, none⟩ = some (.int .i64 t326) ∧ w'.cell? ⟨gb332, 3, none⟩ = some (.bool t327) ∧ w'.cell? ⟨gb332, 4, none⟩ = some (.string t328) ∧ w'.cell? ⟨gb332, 5, none⟩ = some (.int .i64 t329) ∧ w'.cell? ⟨gb332, 6, none⟩ = some (.int .i64 t330) ∧ w'.cell? ⟨gb332, 7, none⟩ = some (.int .i64 t331) ∧ w'.cell? ⟨gb320, 0, none⟩ = some (.bool a0_0) ∧ w'.cell? ⟨gb320, 1, none⟩ = some (.slice A0_1 l0_1.length c0_1) ∧ w'.cell? ⟨gb320, 2, none⟩ = some (.int .i64 a0_2)) ∧ (w'.heap[gb320]? = some (.cells #[.bool a0_0, .slice A0_1 l0_1.length c0_1, .int .i64 a0_2] 24 (0, 0))) ∧ (w'.heap[gb321]? = some (.cells #[.int .i64 a1_0, .int .i64 a1_1, .int .i64 a1_2, .int .i64 a1_3, .int .i64 a1_4, .int .i64 a1_5, .int .i64 a1_6] 42 (0, 0))) ∧ (w'.heap[gb332]? = some (.cells #[.int .i64 t324, .int .i64 t325, .int .i64 t326, .bool t327, .string t328, .int .i64 t329, .int .i64 t330, .int .i64 t331] 32 (0, 0))) ∧ (w'.heap[s_]? = some (.cells #[.bool false, .string (⟨#[]⟩ : ByteArray), .string (⟨#[]⟩ : ByteArray)] 35 (0, 0))) ∧ (w.heap.size ≤ s_) ∧ (w.heap.size ≤ s_) ∧ (gb320 ≠ s_) ∧ (s_ ≠ gb320) ∧ (gb321 ≠ s_) ∧ (s_ ≠ gb321) ∧ (gb332 ≠ s_) ∧ (s_ ≠ gb332) ∧ (Below w.heap.size w w')) ?_ ?_
   rotate_left
   ·intro hCont
    refine two_ (i := 2) (j := 7) (Ni := some 24) (Nj := some 6) #[true, true, true, false, false, false, false, false, false, false] #[true, true, false, false, false, false, false, true, false, false] rfl rfl rfl rfl (two_of HT_.out (by kernel_rfl)) (by decide) (by decide) (fun K hK => ?_) (fun K hK => ?_)
    ·skip
     refine gs_ Tryd.func9 #[.agg #[.bool a0_0, .slice A0_1 l0_1.length c0_1, .int .i64 a0_2]] ?_
     with_reducible refine (florinlaw02_Raw_Make.calls k a0_0 _ _ l0_1 a0_2 t333 t334 t335 _ ?side1 ?side2 A8.out).mono ?_
     (case side1 => repeat (first | exact (Kd.C_below HR0_1.out HB.out) | (with_reducible refine Kd.C_alloc ?_ _) | (with_reducible refine Kd.C_drewN ?_ _) | (with_reducible refine Kd.C_drew ?_)))
     (case side2 => exact HC0_1.out)
     rintro e w27 ⟨rfl, hb⟩
     refine ⟨_, rfl, ?_⟩
     replace BK320 := bb_ BK320 hb
     replace BK321 := bb_ BK321 hb
     replace BK332 := bb_ BK332 hb
     replace HB := Aside0.mk (below_step (bl_ HB).out hb)
     (try clear hb)
     (try clear hb2)
     (try clear hk)
     (try clear hi)
     refine hK.out _ _ ⟨bc_ BK332 0, bc_ BK332 1, bc_ BK332 2, bc_ BK332 3, bc_ BK332 4, bc_ BK332 5, bc_ BK332 6, bc_ BK332 7, bc_ BK320 0, bc_ BK320 1, bc_ BK320 2⟩ (fun hHeld => ?_)
     clear hK K
     refine nm_ 24 ?_
     refine two_ (i := 3) (j := 7) (Ni := some 25) (Nj := some 6) #[true, true, true, true, false, false, false, false, false, false] #[true, true, true, false, false, false, false, true, false, false] rfl rfl rfl rfl (two_of HT_.out (by kernel_rfl)) (by decide) (by decide) (fun K hK => ?_) (fun K hK => ?_)
     ·skip
      refine gs_ Tryd.func13 #[.agg #[.int .i64 t324, .int .i64 t325, .int .i64 t326, .bool t327, .string t328, .int .i64 t329, .int .i64 t330, .int .i64 t331], .agg #[.bool t333, .string t334, .int .i64 t335]] ?_
      with_reducible refine (show_Prec_Apply.calls k t324 t325 t326 t327 t328 t329 t330 t331 t333 t334 t335 t336 t337 t338 t339 _ A9.out).mono ?_
      rintro e w28 ⟨rfl, hb⟩
      refine ⟨_, rfl, ?_⟩
      replace BK320 := bb_ BK320 hb
      replace BK321 := bb_ BK321 hb
      replace BK332 := bb_ BK332 hb
      replace HB := Aside0.mk (below_step (bl_ HB).out hb)
      (try clear hb)
      (try clear hb2)
      (try clear hk)
      (try clear hi)
      refine hK.out _ _ ⟨bc_ BK332 0, bc_ BK332 1, bc_ BK332 2, bc_ BK332 3, bc_ BK332 4, bc_ BK332 5, bc_ BK332 6, bc_ BK332 7, bc_ BK320 0, bc_ BK320 1, bc_ BK320 2⟩ (fun hHeld => ?_)
      clear hK K
      refine nm_ 25 ?_
      refine pu_ 4 21 (bm_ 10 31) HT_ ?_
      refine pu_ 5 26 (bm_ 10 63) HT_ ?_
      refine pu_ 6 27 (bm_ 10 127) HT_ ?_
      refine one_ (i := 7) (N := some 6) (bm_ 10 255) rfl rfl (one_of HT_.out (by kernel_rfl)) (by decide) (fun K hK => ?_)
      refine box_step ?hg (N := 6) ?hd (cs := #[.bool false, .string (⟨#[]⟩ : ByteArray), .string (⟨#[]⟩ : ByteArray)]) (t := 35) ?hr ?_; (case hd => rfl); (case hg => rfl); (case hr => first | (go_simp; done) | (go_simp; rfl))
      intro gb340 hg w29 hbox hb
      have n0_ := bb_ BK320 hb
      have n1_ := bb_ BK321 hb
      have n2_ := bb_ BK332 hb
      have n3_ := Aside0.mk (below_step (bl_ HB).out hb)
      have n4_ := Aside0.mk (hbox)
      have n5_ := sz_ HB hg
      have n6_ := sz_ HB hg
      have n7_ := na_ BK320 hg
      have n8_ := nb_ BK320 hg
      have n9_ := na_ BK321 hg
      have n10_ := nb_ BK321 hg
      have n11_ := na_ BK332 hg
      have n12_ := nb_ BK332 hg
      clear BK320
      clear BK321
      clear BK332
      clear HB
      have BK320 := n0_
      have BK321 := n1_
      have BK332 := n2_
      have HB := n3_
      have BK340 := n4_
      have GW340 := n5_
      have GE340 := n6_
      have NB320_340 := n7_
      have NB340_320 := n8_
      have NB321_340 := n9_
      have NB340_321 := n10_
      have NB332_340 := n11_
      have NB340_332 := n12_
      clear n0_ n1_ n2_ n3_ n4_ n5_ n6_ n7_ n8_ n9_ n10_ n11_ n12_
      clear hb hbox hg
      refine hK.out _ _ ⟨bc_ BK332 0, bc_ BK332 1, bc_ BK332 2, bc_ BK332 3, bc_ BK332 4, bc_ BK332 5, bc_ BK332 6, bc_ BK332 7, bc_ BK320 0, bc_ BK320 1, bc_ BK320 2⟩ (fun hHeld => ?_)
      clear hK K
      refine nm_ 6 ?_
      exact norm_ (by simp only [putAll, Act.put, List.setIfInBounds_toArray, List.set_cons_zero, List.set_cons_succ]) (hCont (gb340) _ ⟨hHeld, (by (with_reducible repeat (first | refine blk_drewN ?_ _ | refine blk_drew ?_ | refine blk_alloc ?_ _)); exact BK320.out), (by (with_reducible repeat (first | refine blk_drewN ?_ _ | refine blk_drew ?_ | refine blk_alloc ?_ _)); exact BK321.out), (by (with_reducible repeat (first | refine blk_drewN ?_ _ | refine blk_drew ?_ | refine blk_alloc ?_ _)); exact BK332.out), (by (with_reducible repeat (first | refine blk_drewN ?_ _ | refine blk_drew ?_ | refine blk_alloc ?_ _)); exact BK340.out), GW340.out, GE340.out, NB320_340.out, NB340_320.out, NB321_340.out, NB340_321.out, NB332_340.out, NB340_332.out, (bl_ HB).out⟩)
     ·skip
      refine box_step ?hg (N := 6) ?hd (cs := #[.bool false, .string (⟨#[]⟩ : ByteArray), .string (⟨#[]⟩ : ByteArray)]) (t := 35) ?hr ?_; (case hd => rfl); (case hg => rfl); (case hr => first | (go_simp; done) | (go_simp; rfl))
      intro gb340 hg w28 hbox hb
      have n0_ := bb_ BK320 hb
      have n1_ := bb_ BK321 hb
      have n2_ := bb_ BK332 hb
      have n3_ := Aside0.mk (below_step (bl_ HB).out hb)
      have n4_ := Aside0.mk (hbox)
      have n5_ := sz_ HB hg
      have n6_ := sz_ HB hg
      have n7_ := na_ BK320 hg
      have n8_ := nb_ BK320 hg
      have n9_ := na_ BK321 hg
      have n10_ := nb_ BK321 hg
      have n11_ := na_ BK332 hg
      have n12_ := nb_ BK332 hg
      clear BK320
      clear BK321
      clear BK332
      clear HB
      have BK320 := n0_
      have BK321 := n1_
      have BK332 := n2_
      have HB := n3_
      have BK340 := n4_
      have GW340 := n5_
      have GE340 := n6_
      have NB320_340 := n7_
      have NB340_320 := n8_
      have NB321_340 := n9_
      have NB340_321 := n10_
      have NB332_340 := n11_
      have NB340_332 := n12_
      clear n0_ n1_ n2_ n3_ n4_ n5_ n6_ n7_ n8_ n9_ n10_ n11_ n12_
      clear hb hbox hg
      refine hK.out _ _ ⟨bc_ BK332 0, bc_ BK332 1, bc_ BK332 2, bc_ BK332 3, bc_ BK332 4, bc_ BK332 5, bc_ BK332 6, bc_ BK332 7, bc_ BK320 0, bc_ BK320 1, bc_ BK320 2⟩ (fun hHeld => ?_)
      clear hK K
      refine nm_ 6 ?_
      refine one_ (i := 3) (N := some 25) (bm_ 10 143) rfl rfl (one_of HT_.out (by kernel_rfl)) (by decide) (fun K hK => ?_)
      refine gs_ Tryd.func13 #[.agg #[.int .i64 t324, .int .i64 t325, .int .i64 t326, .bool t327, .string t328, .int .i64 t329, .int .i64 t330, .int .i64 t331], .agg #[.bool t333, .string t334, .int .i64 t335]] ?_
      with_reducible refine (show_Prec_Apply.calls k t324 t325 t326 t327 t328 t329 t330 t331 t333 t334 t335 t336 t337 t338 t339 _ A9.out).mono ?_
      rintro e w29 ⟨rfl, hb⟩
      refine ⟨_, rfl, ?_⟩
      replace BK320 := bb_ BK320 hb
      replace BK321 := bb_ BK321 hb
      replace BK332 := bb_ BK332 hb
      replace BK340 := bb_ BK340 hb
      replace HB := Aside0.mk (below_step (bl_ HB).out hb)
      (try clear hb)
      (try clear hb2)
      (try clear hk)
      (try clear hi)
      refine hK.out _ _ ⟨bc_ BK332 0, bc_ BK332 1, bc_ BK332 2, bc_ BK332 3, bc_ BK332 4, bc_ BK332 5, bc_ BK332 6, bc_ BK332 7, bc_ BK320 0, bc_ BK320 1, bc_ BK320 2⟩ (fun hHeld => ?_)
      clear hK K
      refine nm_ 25 ?_
      refine pu_ 4 21 (bm_ 10 159) HT_ ?_
      refine pu_ 5 26 (bm_ 10 191) HT_ ?_
      refine pu_ 6 27 (bm_ 10 255) HT_ ?_
      exact norm_ (by simp only [putAll, Act.put, List.setIfInBounds_toArray, List.set_cons_zero, List.set_cons_succ]) (hCont (gb340) _ ⟨hHeld, (by (with_reducible repeat (first | refine blk_drewN ?_ _ | refine blk_drew ?_ | refine blk_alloc ?_ _)); exact BK320.out), (by (with_reducible repeat (first | refine blk_drewN ?_ _ | refine blk_drew ?_ | refine blk_alloc ?_ _)); exact BK321.out), (by (with_reducible repeat (first | refine blk_drewN ?_ _ | refine blk_drew ?_ | refine blk_alloc ?_ _)); exact BK332.out), (by (with_reducible repeat (first | refine blk_drewN ?_ _ | refine blk_drew ?_ | refine blk_alloc ?_ _)); exact BK340.out), GW340.out, GE340.out, NB320_340.out, NB340_320.out, NB321_340.out, NB340_321.out, NB332_340.out, NB340_332.out, (bl_ HB).out⟩)
    ·skip
     refine box_step ?hg (N := 6) ?hd (cs := #[.bool false, .string (⟨#[]⟩ : ByteArray), .string (⟨#[]⟩ : ByteArray)]) (t := 35) ?hr ?_; (case hd => rfl); (case hg => rfl); (case hr => first | (go_simp; done) | (go_simp; rfl))
     intro gb340 hg w27 hbox hb
     have n0_ := bb_ BK320 hb
     have n1_ := bb_ BK321 hb
     have n2_ := bb_ BK332 hb
     have n3_ := Aside0.mk (below_step (bl_ HB).out hb)
     have n4_ := Aside0.mk (hbox)
     have n5_ := sz_ HB hg
     have n6_ := sz_ HB hg
     have n7_ := na_ BK320 hg
     have n8_ := nb_ BK320 hg
     have n9_ := na_ BK321 hg
     have n10_ := nb_ BK321 hg
     have n11_ := na_ BK332 hg
     have n12_ := nb_ BK332 hg
     clear BK320
     clear BK321
     clear BK332
     clear HB
     have BK320 := n0_
     have BK321 := n1_
     have BK332 := n2_
     have HB := n3_
     have BK340 := n4_
     have GW340 := n5_
     have GE340 := n6_
     have NB320_340 := n7_
     have NB340_320 := n8_
     have NB321_340 := n9_
     have NB340_321 := n10_
     have NB332_340 := n11_
     have NB340_332 := n12_
     clear n0_ n1_ n2_ n3_ n4_ n5_ n6_ n7_ n8_ n9_ n10_ n11_ n12_
     clear hb hbox hg
     refine hK.out _ _ ⟨bc_ BK332 0, bc_ BK332 1, bc_ BK332 2, bc_ BK332 3, bc_ BK332 4, bc_ BK332 5, bc_ BK332 6, bc_ BK332 7, bc_ BK320 0, bc_ BK320 1, bc_ BK320 2⟩ (fun hHeld => ?_)
     clear hK K
     refine nm_ 6 ?_
     refine one_ (i := 2) (N := some 24) (bm_ 10 135) rfl rfl (one_of HT_.out (by kernel_rfl)) (by decide) (fun K hK => ?_)
     refine gs_ Tryd.func9 #[.agg #[.bool a0_0, .slice A0_1 l0_1.length c0_1, .int .i64 a0_2]] ?_
     with_reducible refine (florinlaw02_Raw_Make.calls k a0_0 _ _ l0_1 a0_2 t333 t334 t335 _ ?side1 ?side2 A8.out).mono ?_
     (case side1 => repeat (first | exact (Kd.C_below HR0_1.out HB.out) | (with_reducible refine Kd.C_alloc ?_ _) | (with_reducible refine Kd.C_drewN ?_ _) | (with_reducible refine Kd.C_drew ?_)))
     (case side2 => exact HC0_1.out)
     rintro e w28 ⟨rfl, hb⟩
     refine ⟨_, rfl, ?_⟩
     replace BK320 := bb_ BK320 hb
     replace BK321 := bb_ BK321 hb
     replace BK332 := bb_ BK332 hb
     replace BK340 := bb_ BK340 hb
     replace HB := Aside0.mk (below_step (bl_ HB).out hb)
     (try clear hb)
     (try clear hb2)
     (try clear hk)
     (try clear hi)
     refine hK.out _ _ ⟨bc_ BK332 0, bc_ BK332 1, bc_ BK332 2, bc_ BK332 3, bc_ BK332 4, bc_ BK332 5, bc_ BK332 6, bc_ BK332 7, bc_ BK320 0, bc_ BK320 1, bc_ BK320 2⟩ (fun hHeld => ?_)
     clear hK K
     refine nm_ 24 ?_
     refine one_ (i := 3) (N := some 25) (bm_ 10 143) rfl rfl (one_of HT_.out (by kernel_rfl)) (by decide) (fun K hK => ?_)
     refine gs_ Tryd.func13 #[.agg #[.int .i64 t324, .int .i64 t325, .int .i64 t326, .bool t327, .string t328, .int .i64 t329, .int .i64 t330, .int .i64 t331], .agg #[.bool t333, .string t334, .int .i64 t335]] ?_
     with_reducible refine (show_Prec_Apply.calls k t324 t325 t326 t327 t328 t329 t330 t331 t333 t334 t335 t336 t337 t338 t339 _ A9.out).mono ?_
     rintro e w29 ⟨rfl, hb⟩
     refine ⟨_, rfl, ?_⟩
     replace BK320 := bb_ BK320 hb
     replace BK321 := bb_ BK321 hb
     replace BK332 := bb_ BK332 hb
     replace BK340 := bb_ BK340 hb
     replace HB := Aside0.mk (below_step (bl_ HB).out hb)
     (try clear hb)
     (try clear hb2)
     (try clear hk)
     (try clear hi)
     refine hK.out _ _ ⟨bc_ BK332 0, bc_ BK332 1, bc_ BK332 2, bc_ BK332 3, bc_ BK332 4, bc_ BK332 5, bc_ BK332 6, bc_ BK332 7, bc_ BK320 0, bc_ BK320 1, bc_ BK320 2⟩ (fun hHeld => ?_)
     clear hK K
     refine nm_ 25 ?_
     refine pu_ 4 21 (bm_ 10 159) HT_ ?_
     refine pu_ 5 26 (bm_ 10 191) HT_ ?_
     refine pu_ 6 27 (bm_ 10 255) HT_ ?_
     exact norm_ (by simp only [putAll, Act.put, List.setIfInBounds_toArray, List.set_cons_zero, List.set_cons_succ]) (hCont (gb340) _ ⟨hHeld, (by (with_reducible repeat (first | refine blk_drewN ?_ _ | refine blk_drew ?_ | refine blk_alloc ?_ _)); exact BK320.out), (by (with_reducible repeat (first | refine blk_drewN ?_ _ | refine blk_drew ?_ | refine blk_alloc ?_ _)); exact BK321.out), (by (with_reducible repeat (first | refine blk_drewN ?_ _ | refine blk_drew ?_ | refine blk_alloc ?_ _)); exact BK332.out), (by (with_reducible repeat (first | refine blk_drewN ?_ _ | refine blk_drew ?_ | refine blk_alloc ?_ _)); exact BK340.out), GW340.out, GE340.out, NB320_340.out, NB340_320.out, NB321_340.out, NB340_321.out, NB332_340.out, NB340_332.out, (bl_ HB).out⟩)
   rintro gb340 w30 ⟨hS_, h0_, h1_, h2_, h3_, h4_, h5_, h6_, h7_, h8_, h9_, h10_, h11_, h12_⟩
   have n0_ : Aside0 (w30.heap[gb320]? = some (.cells #[.bool a0_0, .slice A0_1 l0_1.length c0_1, .int .i64 a0_2] 24 (0, 0))) := ⟨h0_⟩
   have n1_ : Aside0 (w30.heap[gb321]? = some (.cells #[.int .i64 a1_0, .int .i64 a1_1, .int .i64 a1_2, .int .i64 a1_3, .int .i64 a1_4, .int .i64 a1_5, .int .i64 a1_6] 42 (0, 0))) := ⟨h1_⟩
   have n2_ : Aside0 (w30.heap[gb332]? = some (.cells #[.int .i64 t324, .int .i64 t325, .int .i64 t326, .bool t327, .string t328, .int .i64 t329, .int .i64 t330, .int .i64 t331] 32 (0, 0))) := ⟨h2_⟩
   have n3_ : Aside0 (w30.heap[gb340]? = some (.cells #[.bool false, .string (⟨#[]⟩ : ByteArray), .string (⟨#[]⟩ : ByteArray)] 35 (0, 0))) := ⟨h3_⟩
   have n4_ : Aside0 (w.heap.size ≤ gb340) := ⟨h4_⟩
   have n5_ : Aside0 (w.heap.size ≤ gb340) := ⟨h5_⟩
   have n6_ : Aside0 (gb320 ≠ gb340) := ⟨h6_⟩
   have n7_ : Aside0 (gb340 ≠ gb320) := ⟨h7_⟩
   have n8_ : Aside0 (gb321 ≠ gb340) := ⟨h8_⟩
   have n9_ : Aside0 (gb340 ≠ gb321) := ⟨h9_⟩
   have n10_ : Aside0 (gb332 ≠ gb340) := ⟨h10_⟩
   have n11_ : Aside0 (gb340 ≠ gb332) := ⟨h11_⟩
   have n12_ : Aside0 (Below w.heap.size w w30) := ⟨h12_⟩
   clear BK320
   clear BK321
   clear BK332
   clear HB
   clear h0_ h1_ h2_ h3_ h4_ h5_ h6_ h7_ h8_ h9_ h10_ h11_ h12_
   have BK320 := n0_
   have BK321 := n1_
   have BK332 := n2_
   have BK340 := n3_
   have GW340 := n4_
   have GE340 := n5_
   have NB320_340 := n6_
   have NB340_320 := n7_
   have NB321_340 := n8_
   have NB340_321 := n9_
   have NB332_340 := n10_
   have NB340_332 := n11_
   have HB := n12_
   clear n0_ n1_ n2_ n3_ n4_ n5_ n6_ n7_ n8_ n9_ n10_ n11_ n12_
   have hHeld : w30.cell? ⟨gb332, 0, none⟩ = some (.int .i64 t324) ∧ w30.cell? ⟨gb332, 1, none⟩ = some (.int .i64 t325) ∧ w30.cell? ⟨gb332, 2, none⟩ = some (.int .i64 t326) ∧ w30.cell? ⟨gb332, 3, none⟩ = some (.bool t327) ∧ w30.cell? ⟨gb332, 4, none⟩ = some (.string t328) ∧ w30.cell? ⟨gb332, 5, none⟩ = some (.int .i64 t329) ∧ w30.cell? ⟨gb332, 6, none⟩ = some (.int .i64 t330) ∧ w30.cell? ⟨gb332, 7, none⟩ = some (.int .i64 t331) ∧ w30.cell? ⟨gb320, 0, none⟩ = some (.bool a0_0) ∧ w30.cell? ⟨gb320, 1, none⟩ = some (.slice A0_1 l0_1.length c0_1) ∧ w30.cell? ⟨gb320, 2, none⟩ = some (.int .i64 a0_2) := hS_
   refine norm_ (a' := ?_) ?_ ?_
   rotate_left
   ·simp only [putAll, Act.put, List.setIfInBounds_toArray, List.set_cons_zero, List.set_cons_succ]
    rfl
   refine one_ (i := 8) (N := none) (bm_ 10 511) rfl rfl (one_of HT_.out (by kernel_rfl)) (by decide) (fun K hK => ?_)
   have hs31 : w30.cell? ⟨gb340, 0, none⟩ = some (.bool false) := bc_ BK340 0
   have hfs31 := blk_frozen BK340.out 0
   have hns31_0 := NB320_340.out
   have hns31_1 := NB321_340.out
   have hns31_2 := NB332_340.out
   have hms31_0 := NB340_320.out
   have hms31_1 := NB340_321.out
   have hms31_2 := NB340_332.out
   have hs32 : w30.cell? ⟨gb340, 1, none⟩ = some (.string (⟨#[]⟩ : ByteArray)) := bc_ BK340 1
   have hfs32 := blk_frozen BK340.out 1
   have hns32_0 := NB320_340.out
   have hns32_1 := NB321_340.out
   have hns32_2 := NB332_340.out
   have hms32_0 := NB340_320.out
   have hms32_1 := NB340_321.out
   have hms32_2 := NB340_332.out
   have hs33 : w30.cell? ⟨gb340, 2, none⟩ = some (.string (⟨#[]⟩ : ByteArray)) := bc_ BK340 2
   have hfs33 := blk_frozen BK340.out 2
   have hns33_0 := NB320_340.out
   have hns33_1 := NB321_340.out
   have hns33_2 := NB332_340.out
   have hms33_0 := NB340_320.out
   have hms33_1 := NB340_321.out
   have hms33_2 := NB340_332.out
   refine skip_ (w1 := ?_) (by rfl) rfl ?_ ?_
   rotate_left
   ·go_simp
    rfl
   refine hK.out _ _ ⟨((cell_far (p := ⟨gb340, _, none⟩) NB332_340.out _).trans (((cell_far (p := ⟨gb340, _, none⟩) NB332_340.out _).trans (((cell_far (p := ⟨gb340, _, none⟩) NB332_340.out _).trans (hHeld.1)))))), ((cell_far (p := ⟨gb340, _, none⟩) NB332_340.out _).trans (((cell_far (p := ⟨gb340, _, none⟩) NB332_340.out _).trans (((cell_far (p := ⟨gb340, _, none⟩) NB332_340.out _).trans (hHeld.2.1)))))), ((cell_far (p := ⟨gb340, _, none⟩) NB332_340.out _).trans (((cell_far (p := ⟨gb340, _, none⟩) NB332_340.out _).trans (((cell_far (p := ⟨gb340, _, none⟩) NB332_340.out _).trans (hHeld.2.2.1)))))), ((cell_far (p := ⟨gb340, _, none⟩) NB332_340.out _).trans (((cell_far (p := ⟨gb340, _, none⟩) NB332_340.out _).trans (((cell_far (p := ⟨gb340, _, none⟩) NB332_340.out _).trans (hHeld.2.2.2.1)))))), ((cell_far (p := ⟨gb340, _, none⟩) NB332_340.out _).trans (((cell_far (p := ⟨gb340, _, none⟩) NB332_340.out _).trans (((cell_far (p := ⟨gb340, _, none⟩) NB332_340.out _).trans (hHeld.2.2.2.2.1)))))), ((cell_far (p := ⟨gb340, _, none⟩) NB332_340.out _).trans (((cell_far (p := ⟨gb340, _, none⟩) NB332_340.out _).trans (((cell_far (p := ⟨gb340, _, none⟩) NB332_340.out _).trans (hHeld.2.2.2.2.2.1)))))), ((cell_far (p := ⟨gb340, _, none⟩) NB332_340.out _).trans (((cell_far (p := ⟨gb340, _, none⟩) NB332_340.out _).trans (((cell_far (p := ⟨gb340, _, none⟩) NB332_340.out _).trans (hHeld.2.2.2.2.2.2.1)))))), ((cell_far (p := ⟨gb340, _, none⟩) NB332_340.out _).trans (((cell_far (p := ⟨gb340, _, none⟩) NB332_340.out _).trans (((cell_far (p := ⟨gb340, _, none⟩) NB332_340.out _).trans (hHeld.2.2.2.2.2.2.2.1)))))), ((cell_far (p := ⟨gb340, _, none⟩) NB320_340.out _).trans (((cell_far (p := ⟨gb340, _, none⟩) NB320_340.out _).trans (((cell_far (p := ⟨gb340, _, none⟩) NB320_340.out _).trans (hHeld.2.2.2.2.2.2.2.2.1)))))), ((cell_far (p := ⟨gb340, _, none⟩) NB320_340.out _).trans (((cell_far (p := ⟨gb340, _, none⟩) NB320_340.out _).trans (((cell_far (p := ⟨gb340, _, none⟩) NB320_340.out _).trans (hHeld.2.2.2.2.2.2.2.2.2.1)))))), ((cell_far (p := ⟨gb340, _, none⟩) NB320_340.out _).trans (((cell_far (p := ⟨gb340, _, none⟩) NB320_340.out _).trans (((cell_far (p := ⟨gb340, _, none⟩) NB320_340.out _).trans (hHeld.2.2.2.2.2.2.2.2.2.2))))))⟩ (fun hHeld => ?_)
   clear hK K
   refine pu_ 9 7 (bm_ 10 1023) HT_ ?_
   refine done_ (done_of HT_.out (by kernel_rfl)) ?_
   try go_wp2
   have n0_ : Aside0 ((((w30.setCell ⟨gb340, 0, none⟩ (.bool t336)).setCell ⟨gb340, 1, none⟩ (.string t337)).setCell ⟨gb340, 2, none⟩ (.string t338)).heap[gb320]? = _) := bf_ BK320
   have n1_ : Aside0 ((((w30.setCell ⟨gb340, 0, none⟩ (.bool t336)).setCell ⟨gb340, 1, none⟩ (.string t337)).setCell ⟨gb340, 2, none⟩ (.string t338)).heap[gb321]? = _) := bf_ BK321
   have n2_ : Aside0 ((((w30.setCell ⟨gb340, 0, none⟩ (.bool t336)).setCell ⟨gb340, 1, none⟩ (.string t337)).setCell ⟨gb340, 2, none⟩ (.string t338)).heap[gb332]? = _) := bf_ BK332
   have n3_ : Aside0 ((((w30.setCell ⟨gb340, 0, none⟩ (.bool t336)).setCell ⟨gb340, 1, none⟩ (.string t337)).setCell ⟨gb340, 2, none⟩ (.string t338)).heap[gb340]? = some (.cells #[.bool t336, .string t337, .string t338] 35 (0, 0))) := ⟨by (with_reducible repeat (first | refine blk_drewN ?_ _ | refine blk_drew ?_ | refine blk_alloc ?_ _)); refine blk_put (cs := #[.bool t336, .string t337, .string (⟨#[]⟩ : ByteArray)]) ?_ 2 _ rfl; (with_reducible repeat (first | refine blk_drewN ?_ _ | refine blk_drew ?_ | refine blk_alloc ?_ _)); refine blk_put (cs := #[.bool t336, .string (⟨#[]⟩ : ByteArray), .string (⟨#[]⟩ : ByteArray)]) ?_ 1 _ rfl; (with_reducible repeat (first | refine blk_drewN ?_ _ | refine blk_drew ?_ | refine blk_alloc ?_ _)); refine blk_put (cs := #[.bool false, .string (⟨#[]⟩ : ByteArray), .string (⟨#[]⟩ : ByteArray)]) ?_ 0 _ rfl; (with_reducible repeat (first | refine blk_drewN ?_ _ | refine blk_drew ?_ | refine blk_alloc ?_ _)); exact BK340.out⟩
   have n4_ : Aside0 (Below w.heap.size w (((w30.setCell ⟨gb340, 0, none⟩ (.bool t336)).setCell ⟨gb340, 1, none⟩ (.string t337)).setCell ⟨gb340, 2, none⟩ (.string t338))) := (bl_ HB)
   (try clear BK320)
   (try clear BK321)
   (try clear BK332)
   (try clear BK340)
   (try clear HB)
   generalize (((w30.setCell ⟨gb340, 0, none⟩ (.bool t336)).setCell ⟨gb340, 1, none⟩ (.string t337)).setCell ⟨gb340, 2, none⟩ (.string t338)) = w34 at n0_ n1_ n2_ n3_ n4_ ⊢
   have BK320 := n0_
   have BK321 := n1_
   have BK332 := n2_
   have BK340 := n3_
   have HB := n4_
   clear n0_ n1_ n2_ n3_ n4_
   replace BK320 := Aside0.mk (blk_drew BK320.out)
   replace BK321 := Aside0.mk (blk_drew BK321.out)
   replace BK332 := Aside0.mk (blk_drew BK332.out)
   replace BK340 := Aside0.mk (blk_drew BK340.out)
   replace HB := Aside0.mk (below_drew1 HB.out)
   refine start_ (n := 6) (S := fun w' => w'.cell? ⟨gb332, 0, none⟩ = some (.int .i64 t324) ∧ w'.cell? ⟨gb332, 1, none⟩ = some (.int .i64 t325) ∧ w'.cell? ⟨gb332, 2, none⟩ = some (.int .i64 t326) ∧ w'.cell? ⟨gb332, 3, none⟩ = some (.bool t327) ∧ w'.cell? ⟨gb332, 4, none⟩ = some (.string t328) ∧ w'.cell? ⟨gb332, 5, none⟩ = some (.int .i64 t329) ∧ w'.cell? ⟨gb332, 6, none⟩ = some (.int .i64 t330) ∧ w'.cell? ⟨gb332, 7, none⟩ = some (.int .i64 t331) ∧ w'.cell? ⟨gb320, 0, none⟩ = some (.bool a0_0) ∧ w'.cell? ⟨gb320, 1, none⟩ = some (.slice A0_1 l0_1.length c0_1) ∧ w'.cell? ⟨gb320, 2, none⟩ = some (.int .i64 a0_2)) (ds := []) #[false, false, false, false, false, false] (by kernel_rfl) rfl rfl ⟨bc_ BK332 0, bc_ BK332 1, bc_ BK332 2, bc_ BK332 3, bc_ BK332 4, bc_ BK332 5, bc_ BK332 6, bc_ BK332 7, bc_ BK320 0, bc_ BK320 1, bc_ BK320 2⟩ (fun hHeld => ?_)
   generalize w34.drew = w35 at BK320 BK321 BK332 BK340 HB hHeld ⊢
   refine tk0_ 0 28 #[true, false, false, false, false, false] hHeld rfl (by rintro w' ⟨s0, s1, s2, s3, s4, s5, s6, s7, s8, s9, s10⟩; go_simp; with_reducible rfl) ?_
   refine tk0_ 1 29 #[true, true, false, false, false, false] hHeld rfl (by rintro w' ⟨s0, s1, s2, s3, s4, s5, s6, s7, s8, s9, s10⟩; go_simp; with_reducible rfl) ?_
   refine join_ (σ := Nat) 1 #[true, true, true, true, true, false] (fun s_ => [(30, .agg #[.bool t341, .string t342, .int .i64 t343]), (31, .agg #[.bool t344, .string t345, .int .i64 t346]), (8, .pointer (some ⟨s_, 0, none⟩))]) (fun s_ w' => (w'.cell? ⟨gb332, 0, none⟩ = some (.int .i64 t324) ∧ w'.cell? ⟨gb332, 1, none⟩ = some (.int .i64 t325) ∧ w'.cell? ⟨gb332, 2, none⟩ = some (.int .i64 t326) ∧ w'.cell? ⟨gb332, 3, none⟩ = some (.bool t327) ∧ w'.cell? ⟨gb332, 4, none⟩ = some (.string t328) ∧ w'.cell? ⟨gb332, 5, none⟩ = some (.int .i64 t329) ∧ w'.cell? ⟨gb332, 6, none⟩ = some (.int .i64 t330) ∧ w'.cell? ⟨gb332, 7, none⟩ = some (.int .i64 t331) ∧ w'.cell? ⟨gb320, 0, none⟩ = some (.bool a0_0) ∧ w'.cell? ⟨gb320, 1, none⟩ = some (.slice A0_1 l0_1.length c0_1) ∧ w'.cell? ⟨gb320, 2, none⟩ = some (.int .i64 a0_2)) ∧ (w'.heap[gb320]? = some (.cells #[.bool a0_0, .slice A0_1 l0_1.length c0_1, .int .i64 a0_2] 24 (0, 0))) ∧ (w'.heap[gb321]? = some (.cells #[.int .i64 a1_0, .int .i64 a1_1, .int .i64 a1_2, .int .i64 a1_3, .int .i64 a1_4, .int .i64 a1_5, .int .i64 a1_6] 42 (0, 0))) ∧ (w'.heap[gb332]? = some (.cells #[.int .i64 t324, .int .i64 t325, .int .i64 t326, .bool t327, .string t328, .int .i64 t329, .int .i64 t330, .int .i64 t331] 32 (0, 0))) ∧ (w'.heap[gb340]? = some (.cells #[.bool t336, .string t337, .string t338] 35 (0, 0))) ∧ (w'.heap[s_]? = some (.cells #[.bool false, .string (⟨#[]⟩ : ByteArray), .int .i64 0] 29 (0, 0))) ∧ (w.heap.size ≤ s_) ∧ (w.heap.size ≤ s_) ∧ (gb320 ≠ s_) ∧ (s_ ≠ gb320) ∧ (gb321 ≠ s_) ∧ (s_ ≠ gb321) ∧ (gb332 ≠ s_) ∧ (s_ ≠ gb332) ∧ (gb340 ≠ s_) ∧ (s_ ≠ gb340) ∧ (Below w.heap.size w w')) ?_ ?_
   rotate_left
   ·intro hCont
    refine two_ (i := 2) (j := 4) (Ni := some 30) (Nj := some 8) #[true, true, true, false, false, false] #[true, true, false, false, true, false] rfl rfl rfl rfl (by kernel_rfl) (by decide) (by decide) (fun K hK => ?_) (fun K hK => ?_)
    ·skip
     refine gs_ Tryd.func9 #[.agg #[.bool a0_0, .slice A0_1 l0_1.length c0_1, .int .i64 a0_2]] ?_
     with_reducible refine (florinlaw02_Raw_Make.calls k a0_0 _ _ l0_1 a0_2 t341 t342 t343 _ ?side1 ?side2 A10.out).mono ?_
     (case side1 => repeat (first | exact (Kd.C_below HR0_1.out HB.out) | (with_reducible refine Kd.C_alloc ?_ _) | (with_reducible refine Kd.C_drewN ?_ _) | (with_reducible refine Kd.C_drew ?_)))
     (case side2 => exact HC0_1.out)
     rintro e w36 ⟨rfl, hb⟩
     refine ⟨_, rfl, ?_⟩
     replace BK320 := bb_ BK320 hb
     replace BK321 := bb_ BK321 hb
     replace BK332 := bb_ BK332 hb
     replace BK340 := bb_ BK340 hb
     replace HB := Aside0.mk (below_step (bl_ HB).out hb)
     (try clear hb)
     (try clear hb2)
     (try clear hk)
     (try clear hi)
     refine hK.out _ _ ⟨bc_ BK332 0, bc_ BK332 1, bc_ BK332 2, bc_ BK332 3, bc_ BK332 4, bc_ BK332 5, bc_ BK332 6, bc_ BK332 7, bc_ BK320 0, bc_ BK320 1, bc_ BK320 2⟩ (fun hHeld => ?_)
     clear hK K
     refine nm_ 30 ?_
     refine two_ (i := 3) (j := 4) (Ni := some 31) (Nj := some 8) #[true, true, true, true, false, false] #[true, true, true, false, true, false] rfl rfl rfl rfl (by kernel_rfl) (by decide) (by decide) (fun K hK => ?_) (fun K hK => ?_)
     ·skip
      refine gs_ Tryd.func14 #[.agg #[.int .i64 t324, .int .i64 t325, .int .i64 t326, .bool t327, .string t328, .int .i64 t329, .int .i64 t330, .int .i64 t331], .agg #[.bool t341, .string t342, .int .i64 t343]] ?_
      with_reducible refine (show_Prec_Round.calls k t324 t325 t326 t327 t328 t329 t330 t331 t341 t342 t343 t344 t345 t346 _ A11.out).mono ?_
      rintro e w37 ⟨rfl, hb⟩
      refine ⟨_, rfl, ?_⟩
      replace BK320 := bb_ BK320 hb
      replace BK321 := bb_ BK321 hb
      replace BK332 := bb_ BK332 hb
      replace BK340 := bb_ BK340 hb
      replace HB := Aside0.mk (below_step (bl_ HB).out hb)
      (try clear hb)
      (try clear hb2)
      (try clear hk)
      (try clear hi)
      refine hK.out _ _ ⟨bc_ BK332 0, bc_ BK332 1, bc_ BK332 2, bc_ BK332 3, bc_ BK332 4, bc_ BK332 5, bc_ BK332 6, bc_ BK332 7, bc_ BK320 0, bc_ BK320 1, bc_ BK320 2⟩ (fun hHeld => ?_)
      clear hK K
      refine nm_ 31 ?_
      refine one_ (i := 4) (N := some 8) #[true, true, true, true, true, false] rfl rfl (by kernel_rfl) (by decide) (fun K hK => ?_)
      refine box_step ?hg (N := 8) ?hd (cs := #[.bool false, .string (⟨#[]⟩ : ByteArray), .int .i64 0]) (t := 29) ?hr ?_; (case hd => rfl); (case hg => rfl); (case hr => first | (go_simp; done) | (go_simp; rfl))
      intro gb347 hg w38 hbox hb
      have n0_ := bb_ BK320 hb
      have n1_ := bb_ BK321 hb
      have n2_ := bb_ BK332 hb
      have n3_ := bb_ BK340 hb
      have n4_ := Aside0.mk (below_step (bl_ HB).out hb)
      have n5_ := Aside0.mk (hbox)
      have n6_ := sz_ HB hg
      have n7_ := sz_ HB hg
      have n8_ := na_ BK320 hg
      have n9_ := nb_ BK320 hg
      have n10_ := na_ BK321 hg
      have n11_ := nb_ BK321 hg
      have n12_ := na_ BK332 hg
      have n13_ := nb_ BK332 hg
      have n14_ := na_ BK340 hg
      have n15_ := nb_ BK340 hg
      clear BK320
      clear BK321
      clear BK332
      clear BK340
      clear HB
      have BK320 := n0_
      have BK321 := n1_
      have BK332 := n2_
      have BK340 := n3_
      have HB := n4_
      have BK347 := n5_
      have GW347 := n6_
      have GE347 := n7_
      have NB320_347 := n8_
      have NB347_320 := n9_
      have NB321_347 := n10_
      have NB347_321 := n11_
      have NB332_347 := n12_
      have NB347_332 := n13_
      have NB340_347 := n14_
      have NB347_340 := n15_
      clear n0_ n1_ n2_ n3_ n4_ n5_ n6_ n7_ n8_ n9_ n10_ n11_ n12_ n13_ n14_ n15_
      clear hb hbox hg
      refine hK.out _ _ ⟨bc_ BK332 0, bc_ BK332 1, bc_ BK332 2, bc_ BK332 3, bc_ BK332 4, bc_ BK332 5, bc_ BK332 6, bc_ BK332 7, bc_ BK320 0, bc_ BK320 1, bc_ BK320 2⟩ (fun hHeld => ?_)
      clear hK K
      refine nm_ 8 ?_
      exact norm_ (by simp only [putAll, Act.put, List.setIfInBounds_toArray, List.set_cons_zero, List.set_cons_succ]) (hCont (gb347) _ ⟨hHeld, (by (with_reducible repeat (first | refine blk_drewN ?_ _ | refine blk_drew ?_ | refine blk_alloc ?_ _)); exact BK320.out), (by (with_reducible repeat (first | refine blk_drewN ?_ _ | refine blk_drew ?_ | refine blk_alloc ?_ _)); exact BK321.out), (by (with_reducible repeat (first | refine blk_drewN ?_ _ | refine blk_drew ?_ | refine blk_alloc ?_ _)); exact BK332.out), (by (with_reducible repeat (first | refine blk_drewN ?_ _ | refine blk_drew ?_ | refine blk_alloc ?_ _)); exact BK340.out), (by (with_reducible repeat (first | refine blk_drewN ?_ _ | refine blk_drew ?_ | refine blk_alloc ?_ _)); exact BK347.out), GW347.out, GE347.out, NB320_347.out, NB347_320.out, NB321_347.out, NB347_321.out, NB332_347.out, NB347_332.out, NB340_347.out, NB347_340.out, (bl_ HB).out⟩)
     ·skip
      refine box_step ?hg (N := 8) ?hd (cs := #[.bool false, .string (⟨#[]⟩ : ByteArray), .int .i64 0]) (t := 29) ?hr ?_; (case hd => rfl); (case hg => rfl); (case hr => first | (go_simp; done) | (go_simp; rfl))
      intro gb347 hg w37 hbox hb
      have n0_ := bb_ BK320 hb
      have n1_ := bb_ BK321 hb
      have n2_ := bb_ BK332 hb
      have n3_ := bb_ BK340 hb
      have n4_ := Aside0.mk (below_step (bl_ HB).out hb)
      have n5_ := Aside0.mk (hbox)
      have n6_ := sz_ HB hg
      have n7_ := sz_ HB hg
      have n8_ := na_ BK320 hg
      have n9_ := nb_ BK320 hg
      have n10_ := na_ BK321 hg
      have n11_ := nb_ BK321 hg
      have n12_ := na_ BK332 hg
      have n13_ := nb_ BK332 hg
      have n14_ := na_ BK340 hg
      have n15_ := nb_ BK340 hg
      clear BK320
      clear BK321
      clear BK332
      clear BK340
      clear HB
      have BK320 := n0_
      have BK321 := n1_
      have BK332 := n2_
      have BK340 := n3_
      have HB := n4_
      have BK347 := n5_
      have GW347 := n6_
      have GE347 := n7_
      have NB320_347 := n8_
      have NB347_320 := n9_
      have NB321_347 := n10_
      have NB347_321 := n11_
      have NB332_347 := n12_
      have NB347_332 := n13_
      have NB340_347 := n14_
      have NB347_340 := n15_
      clear n0_ n1_ n2_ n3_ n4_ n5_ n6_ n7_ n8_ n9_ n10_ n11_ n12_ n13_ n14_ n15_
      clear hb hbox hg
      refine hK.out _ _ ⟨bc_ BK332 0, bc_ BK332 1, bc_ BK332 2, bc_ BK332 3, bc_ BK332 4, bc_ BK332 5, bc_ BK332 6, bc_ BK332 7, bc_ BK320 0, bc_ BK320 1, bc_ BK320 2⟩ (fun hHeld => ?_)
      clear hK K
      refine nm_ 8 ?_
      refine one_ (i := 3) (N := some 31) #[true, true, true, true, true, false] rfl rfl (by kernel_rfl) (by decide) (fun K hK => ?_)
      refine gs_ Tryd.func14 #[.agg #[.int .i64 t324, .int .i64 t325, .int .i64 t326, .bool t327, .string t328, .int .i64 t329, .int .i64 t330, .int .i64 t331], .agg #[.bool t341, .string t342, .int .i64 t343]] ?_
      with_reducible refine (show_Prec_Round.calls k t324 t325 t326 t327 t328 t329 t330 t331 t341 t342 t343 t344 t345 t346 _ A11.out).mono ?_
      rintro e w38 ⟨rfl, hb⟩
      refine ⟨_, rfl, ?_⟩
      replace BK320 := bb_ BK320 hb
      replace BK321 := bb_ BK321 hb
      replace BK332 := bb_ BK332 hb
      replace BK340 := bb_ BK340 hb
      replace BK347 := bb_ BK347 hb
      replace HB := Aside0.mk (below_step (bl_ HB).out hb)
      (try clear hb)
      (try clear hb2)
      (try clear hk)
      (try clear hi)
      refine hK.out _ _ ⟨bc_ BK332 0, bc_ BK332 1, bc_ BK332 2, bc_ BK332 3, bc_ BK332 4, bc_ BK332 5, bc_ BK332 6, bc_ BK332 7, bc_ BK320 0, bc_ BK320 1, bc_ BK320 2⟩ (fun hHeld => ?_)
      clear hK K
      refine nm_ 31 ?_
      exact norm_ (by simp only [putAll, Act.put, List.setIfInBounds_toArray, List.set_cons_zero, List.set_cons_succ]) (hCont (gb347) _ ⟨hHeld, (by (with_reducible repeat (first | refine blk_drewN ?_ _ | refine blk_drew ?_ | refine blk_alloc ?_ _)); exact BK320.out), (by (with_reducible repeat (first | refine blk_drewN ?_ _ | refine blk_drew ?_ | refine blk_alloc ?_ _)); exact BK321.out), (by (with_reducible repeat (first | refine blk_drewN ?_ _ | refine blk_drew ?_ | refine blk_alloc ?_ _)); exact BK332.out), (by (with_reducible repeat (first | refine blk_drewN ?_ _ | refine blk_drew ?_ | refine blk_alloc ?_ _)); exact BK340.out), (by (with_reducible repeat (first | refine blk_drewN ?_ _ | refine blk_drew ?_ | refine blk_alloc ?_ _)); exact BK347.out), GW347.out, GE347.out, NB320_347.out, NB347_320.out, NB321_347.out, NB347_321.out, NB332_347.out, NB347_332.out, NB340_347.out, NB347_340.out, (bl_ HB).out⟩)
    ·skip
     refine box_step ?hg (N := 8) ?hd (cs := #[.bool false, .string (⟨#[]⟩ : ByteArray), .int .i64 0]) (t := 29) ?hr ?_; (case hd => rfl); (case hg => rfl); (case hr => first | (go_simp; done) | (go_simp; rfl))
     intro gb347 hg w36 hbox hb
     have n0_ := bb_ BK320 hb
     have n1_ := bb_ BK321 hb
     have n2_ := bb_ BK332 hb
     have n3_ := bb_ BK340 hb
     have n4_ := Aside0.mk (below_step (bl_ HB).out hb)
     have n5_ := Aside0.mk (hbox)
     have n6_ := sz_ HB hg
     have n7_ := sz_ HB hg
     have n8_ := na_ BK320 hg
     have n9_ := nb_ BK320 hg
     have n10_ := na_ BK321 hg
     have n11_ := nb_ BK321 hg
     have n12_ := na_ BK332 hg
     have n13_ := nb_ BK332 hg
     have n14_ := na_ BK340 hg
     have n15_ := nb_ BK340 hg
     clear BK320
     clear BK321
     clear BK332
     clear BK340
     clear HB
     have BK320 := n0_
     have BK321 := n1_
     have BK332 := n2_
     have BK340 := n3_
     have HB := n4_
     have BK347 := n5_
     have GW347 := n6_
     have GE347 := n7_
     have NB320_347 := n8_
     have NB347_320 := n9_
     have NB321_347 := n10_
     have NB347_321 := n11_
     have NB332_347 := n12_
     have NB347_332 := n13_
     have NB340_347 := n14_
     have NB347_340 := n15_
     clear n0_ n1_ n2_ n3_ n4_ n5_ n6_ n7_ n8_ n9_ n10_ n11_ n12_ n13_ n14_ n15_
     clear hb hbox hg
     refine hK.out _ _ ⟨bc_ BK332 0, bc_ BK332 1, bc_ BK332 2, bc_ BK332 3, bc_ BK332 4, bc_ BK332 5, bc_ BK332 6, bc_ BK332 7, bc_ BK320 0, bc_ BK320 1, bc_ BK320 2⟩ (fun hHeld => ?_)
     clear hK K
     refine nm_ 8 ?_
     refine one_ (i := 2) (N := some 30) #[true, true, true, false, true, false] rfl rfl (by kernel_rfl) (by decide) (fun K hK => ?_)
     refine gs_ Tryd.func9 #[.agg #[.bool a0_0, .slice A0_1 l0_1.length c0_1, .int .i64 a0_2]] ?_
     with_reducible refine (florinlaw02_Raw_Make.calls k a0_0 _ _ l0_1 a0_2 t341 t342 t343 _ ?side1 ?side2 A10.out).mono ?_
     (case side1 => repeat (first | exact (Kd.C_below HR0_1.out HB.out) | (with_reducible refine Kd.C_alloc ?_ _) | (with_reducible refine Kd.C_drewN ?_ _) | (with_reducible refine Kd.C_drew ?_)))
     (case side2 => exact HC0_1.out)
     rintro e w37 ⟨rfl, hb⟩
     refine ⟨_, rfl, ?_⟩
     replace BK320 := bb_ BK320 hb
     replace BK321 := bb_ BK321 hb
     replace BK332 := bb_ BK332 hb
     replace BK340 := bb_ BK340 hb
     replace BK347 := bb_ BK347 hb
     replace HB := Aside0.mk (below_step (bl_ HB).out hb)
     (try clear hb)
     (try clear hb2)
     (try clear hk)
     (try clear hi)
     refine hK.out _ _ ⟨bc_ BK332 0, bc_ BK332 1, bc_ BK332 2, bc_ BK332 3, bc_ BK332 4, bc_ BK332 5, bc_ BK332 6, bc_ BK332 7, bc_ BK320 0, bc_ BK320 1, bc_ BK320 2⟩ (fun hHeld => ?_)
     clear hK K
     refine nm_ 30 ?_
     refine one_ (i := 3) (N := some 31) #[true, true, true, true, true, false] rfl rfl (by kernel_rfl) (by decide) (fun K hK => ?_)
     refine gs_ Tryd.func14 #[.agg #[.int .i64 t324, .int .i64 t325, .int .i64 t326, .bool t327, .string t328, .int .i64 t329, .int .i64 t330, .int .i64 t331], .agg #[.bool t341, .string t342, .int .i64 t343]] ?_
     with_reducible refine (show_Prec_Round.calls k t324 t325 t326 t327 t328 t329 t330 t331 t341 t342 t343 t344 t345 t346 _ A11.out).mono ?_
     rintro e w38 ⟨rfl, hb⟩
     refine ⟨_, rfl, ?_⟩
     replace BK320 := bb_ BK320 hb
     replace BK321 := bb_ BK321 hb
     replace BK332 := bb_ BK332 hb
     replace BK340 := bb_ BK340 hb
     replace BK347 := bb_ BK347 hb
     replace HB := Aside0.mk (below_step (bl_ HB).out hb)
     (try clear hb)
     (try clear hb2)
     (try clear hk)
     (try clear hi)
     refine hK.out _ _ ⟨bc_ BK332 0, bc_ BK332 1, bc_ BK332 2, bc_ BK332 3, bc_ BK332 4, bc_ BK332 5, bc_ BK332 6, bc_ BK332 7, bc_ BK320 0, bc_ BK320 1, bc_ BK320 2⟩ (fun hHeld => ?_)
     clear hK K
     refine nm_ 31 ?_
     exact norm_ (by simp only [putAll, Act.put, List.setIfInBounds_toArray, List.set_cons_zero, List.set_cons_succ]) (hCont (gb347) _ ⟨hHeld, (by (with_reducible repeat (first | refine blk_drewN ?_ _ | refine blk_drew ?_ | refine blk_alloc ?_ _)); exact BK320.out), (by (with_reducible repeat (first | refine blk_drewN ?_ _ | refine blk_drew ?_ | refine blk_alloc ?_ _)); exact BK321.out), (by (with_reducible repeat (first | refine blk_drewN ?_ _ | refine blk_drew ?_ | refine blk_alloc ?_ _)); exact BK332.out), (by (with_reducible repeat (first | refine blk_drewN ?_ _ | refine blk_drew ?_ | refine blk_alloc ?_ _)); exact BK340.out), (by (with_reducible repeat (first | refine blk_drewN ?_ _ | refine blk_drew ?_ | refine blk_alloc ?_ _)); exact BK347.out), GW347.out, GE347.out, NB320_347.out, NB347_320.out, NB321_347.out, NB347_321.out, NB332_347.out, NB347_332.out, NB340_347.out, NB347_340.out, (bl_ HB).out⟩)
   rintro gb347 w39 ⟨hS_, h0_, h1_, h2_, h3_, h4_, h5_, h6_, h7_, h8_, h9_, h10_, h11_, h12_, h13_, h14_, h15_⟩
   have n0_ : Aside0 (w39.heap[gb320]? = some (.cells #[.bool a0_0, .slice A0_1 l0_1.length c0_1, .int .i64 a0_2] 24 (0, 0))) := ⟨h0_⟩
   have n1_ : Aside0 (w39.heap[gb321]? = some (.cells #[.int .i64 a1_0, .int .i64 a1_1, .int .i64 a1_2, .int .i64 a1_3, .int .i64 a1_4, .int .i64 a1_5, .int .i64 a1_6] 42 (0, 0))) := ⟨h1_⟩
   have n2_ : Aside0 (w39.heap[gb332]? = some (.cells #[.int .i64 t324, .int .i64 t325, .int .i64 t326, .bool t327, .string t328, .int .i64 t329, .int .i64 t330, .int .i64 t331] 32 (0, 0))) := ⟨h2_⟩
   have n3_ : Aside0 (w39.heap[gb340]? = some (.cells #[.bool t336, .string t337, .string t338] 35 (0, 0))) := ⟨h3_⟩
   have n4_ : Aside0 (w39.heap[gb347]? = some (.cells #[.bool false, .string (⟨#[]⟩ : ByteArray), .int .i64 0] 29 (0, 0))) := ⟨h4_⟩
   have n5_ : Aside0 (w.heap.size ≤ gb347) := ⟨h5_⟩
   have n6_ : Aside0 (w.heap.size ≤ gb347) := ⟨h6_⟩
   have n7_ : Aside0 (gb320 ≠ gb347) := ⟨h7_⟩
   have n8_ : Aside0 (gb347 ≠ gb320) := ⟨h8_⟩
   have n9_ : Aside0 (gb321 ≠ gb347) := ⟨h9_⟩
   have n10_ : Aside0 (gb347 ≠ gb321) := ⟨h10_⟩
   have n11_ : Aside0 (gb332 ≠ gb347) := ⟨h11_⟩
   have n12_ : Aside0 (gb347 ≠ gb332) := ⟨h12_⟩
   have n13_ : Aside0 (gb340 ≠ gb347) := ⟨h13_⟩
   have n14_ : Aside0 (gb347 ≠ gb340) := ⟨h14_⟩
   have n15_ : Aside0 (Below w.heap.size w w39) := ⟨h15_⟩
   clear BK320
   clear BK321
   clear BK332
   clear BK340
   clear HB
   clear h0_ h1_ h2_ h3_ h4_ h5_ h6_ h7_ h8_ h9_ h10_ h11_ h12_ h13_ h14_ h15_
   have BK320 := n0_
   have BK321 := n1_
   have BK332 := n2_
   have BK340 := n3_
   have BK347 := n4_
   have GW347 := n5_
   have GE347 := n6_
   have NB320_347 := n7_
   have NB347_320 := n8_
   have NB321_347 := n9_
   have NB347_321 := n10_
   have NB332_347 := n11_
   have NB347_332 := n12_
   have NB340_347 := n13_
   have NB347_340 := n14_
   have HB := n15_
   clear n0_ n1_ n2_ n3_ n4_ n5_ n6_ n7_ n8_ n9_ n10_ n11_ n12_ n13_ n14_ n15_
   have hHeld : w39.cell? ⟨gb332, 0, none⟩ = some (.int .i64 t324) ∧ w39.cell? ⟨gb332, 1, none⟩ = some (.int .i64 t325) ∧ w39.cell? ⟨gb332, 2, none⟩ = some (.int .i64 t326) ∧ w39.cell? ⟨gb332, 3, none⟩ = some (.bool t327) ∧ w39.cell? ⟨gb332, 4, none⟩ = some (.string t328) ∧ w39.cell? ⟨gb332, 5, none⟩ = some (.int .i64 t329) ∧ w39.cell? ⟨gb332, 6, none⟩ = some (.int .i64 t330) ∧ w39.cell? ⟨gb332, 7, none⟩ = some (.int .i64 t331) ∧ w39.cell? ⟨gb320, 0, none⟩ = some (.bool a0_0) ∧ w39.cell? ⟨gb320, 1, none⟩ = some (.slice A0_1 l0_1.length c0_1) ∧ w39.cell? ⟨gb320, 2, none⟩ = some (.int .i64 a0_2) := hS_
   refine norm_ (a' := ?_) ?_ ?_
   rotate_left
   ·simp only [putAll, Act.put, List.setIfInBounds_toArray, List.set_cons_zero, List.set_cons_succ]
    rfl
   refine one_ (i := 5) (N := none) #[true, true, true, true, true, true] rfl rfl (by kernel_rfl) (by decide) (fun K hK => ?_)
   have hs40 : w39.cell? ⟨gb347, 0, none⟩ = some (.bool false) := bc_ BK347 0
   have hfs40 := blk_frozen BK347.out 0
   have hns40_0 := NB320_347.out
   have hns40_1 := NB321_347.out
   have hns40_2 := NB332_347.out
   have hns40_3 := NB340_347.out
   have hms40_0 := NB347_320.out
   have hms40_1 := NB347_321.out
   have hms40_2 := NB347_332.out
   have hms40_3 := NB347_340.out
   have hs41 : w39.cell? ⟨gb347, 1, none⟩ = some (.string (⟨#[]⟩ : ByteArray)) := bc_ BK347 1
   have hfs41 := blk_frozen BK347.out 1
   have hns41_0 := NB320_347.out
   have hns41_1 := NB321_347.out
   have hns41_2 := NB332_347.out
   have hns41_3 := NB340_347.out
   have hms41_0 := NB347_320.out
   have hms41_1 := NB347_321.out
   have hms41_2 := NB347_332.out
   have hms41_3 := NB347_340.out
   have hs42 : w39.cell? ⟨gb347, 2, none⟩ = some (.int .i64 0) := bc_ BK347 2
   have hfs42 := blk_frozen BK347.out 2
   have hns42_0 := NB320_347.out
   have hns42_1 := NB321_347.out
   have hns42_2 := NB332_347.out
   have hns42_3 := NB340_347.out
   have hms42_0 := NB347_320.out
   have hms42_1 := NB347_321.out
   have hms42_2 := NB347_332.out
   have hms42_3 := NB347_340.out
   refine skip_ (w1 := ?_) (by rfl) rfl ?_ ?_
   rotate_left
   ·go_simp
    rfl
   refine hK.out _ _ ⟨((cell_far (p := ⟨gb347, _, none⟩) NB332_347.out _).trans (((cell_far (p := ⟨gb347, _, none⟩) NB332_347.out _).trans (((cell_far (p := ⟨gb347, _, none⟩) NB332_347.out _).trans (hHeld.1)))))), ((cell_far (p := ⟨gb347, _, none⟩) NB332_347.out _).trans (((cell_far (p := ⟨gb347, _, none⟩) NB332_347.out _).trans (((cell_far (p := ⟨gb347, _, none⟩) NB332_347.out _).trans (hHeld.2.1)))))), ((cell_far (p := ⟨gb347, _, none⟩) NB332_347.out _).trans (((cell_far (p := ⟨gb347, _, none⟩) NB332_347.out _).trans (((cell_far (p := ⟨gb347, _, none⟩) NB332_347.out _).trans (hHeld.2.2.1)))))), ((cell_far (p := ⟨gb347, _, none⟩) NB332_347.out _).trans (((cell_far (p := ⟨gb347, _, none⟩) NB332_347.out _).trans (((cell_far (p := ⟨gb347, _, none⟩) NB332_347.out _).trans (hHeld.2.2.2.1)))))), ((cell_far (p := ⟨gb347, _, none⟩) NB332_347.out _).trans (((cell_far (p := ⟨gb347, _, none⟩) NB332_347.out _).trans (((cell_far (p := ⟨gb347, _, none⟩) NB332_347.out _).trans (hHeld.2.2.2.2.1)))))), ((cell_far (p := ⟨gb347, _, none⟩) NB332_347.out _).trans (((cell_far (p := ⟨gb347, _, none⟩) NB332_347.out _).trans (((cell_far (p := ⟨gb347, _, none⟩) NB332_347.out _).trans (hHeld.2.2.2.2.2.1)))))), ((cell_far (p := ⟨gb347, _, none⟩) NB332_347.out _).trans (((cell_far (p := ⟨gb347, _, none⟩) NB332_347.out _).trans (((cell_far (p := ⟨gb347, _, none⟩) NB332_347.out _).trans (hHeld.2.2.2.2.2.2.1)))))), ((cell_far (p := ⟨gb347, _, none⟩) NB332_347.out _).trans (((cell_far (p := ⟨gb347, _, none⟩) NB332_347.out _).trans (((cell_far (p := ⟨gb347, _, none⟩) NB332_347.out _).trans (hHeld.2.2.2.2.2.2.2.1)))))), ((cell_far (p := ⟨gb347, _, none⟩) NB320_347.out _).trans (((cell_far (p := ⟨gb347, _, none⟩) NB320_347.out _).trans (((cell_far (p := ⟨gb347, _, none⟩) NB320_347.out _).trans (hHeld.2.2.2.2.2.2.2.2.1)))))), ((cell_far (p := ⟨gb347, _, none⟩) NB320_347.out _).trans (((cell_far (p := ⟨gb347, _, none⟩) NB320_347.out _).trans (((cell_far (p := ⟨gb347, _, none⟩) NB320_347.out _).trans (hHeld.2.2.2.2.2.2.2.2.2.1)))))), ((cell_far (p := ⟨gb347, _, none⟩) NB320_347.out _).trans (((cell_far (p := ⟨gb347, _, none⟩) NB320_347.out _).trans (((cell_far (p := ⟨gb347, _, none⟩) NB320_347.out _).trans (hHeld.2.2.2.2.2.2.2.2.2.2))))))⟩ (fun hHeld => ?_)
   clear hK K
   refine done_ (by kernel_rfl) ?_
   go_upto_region 8 with (fail)
   go_cut [60] (fun v60 wc => ∃ (kq : Nat) (x60_11 : Bool), v60 = .bool x60_11 ∧ Aside0 (florinlaw04_ShowDigits.j0 kq x60_11 t324 t325 t326 t327 t328 t329 t330 t331 t336 t337 t338 t344 t345 t346 = some r) ∧ Aside0 (kq ≤ k) ∧ Aside0 (wc.heap[gb320]? = some (.cells #[.bool a0_0, (.slice A0_1 l0_1.length c0_1), .int .i64 a0_2] 24 (0, 0))) ∧ Aside0 (wc.heap[gb321]? = some (.cells #[.int .i64 a1_0, .int .i64 a1_1, .int .i64 a1_2, .int .i64 a1_3, .int .i64 a1_4, .int .i64 a1_5, .int .i64 a1_6] 42 (0, 0))) ∧ Aside0 (wc.heap[gb332]? = some (.cells #[.int .i64 t324, .int .i64 t325, .int .i64 t326, .bool t327, .string t328, .int .i64 t329, .int .i64 t330, .int .i64 t331] 32 (0, 0))) ∧ Aside0 (wc.heap[gb340]? = some (.cells #[.bool t336, .string t337, .string t338] 35 (0, 0))) ∧ Aside0 (wc.heap[gb347]? = some (.cells #[.bool t344, .string t345, .int .i64 t346] 29 (0, 0))) ∧ Aside0 (Below w.heap.size w wc))
   case first =>
    have H := HC12.out
    clear HC12
    by_cases c43 : t339 = 0
    ·rw [if_pos c43] at H
     have c43b0 : (t339 == 0) = true := beq_iff_eq.mpr c43
     have c43b1 : (t339 != 0) = false := bne_eq_false_iff_eq.mpr c43
     clear c43
     (first | rw [c43b0] | (simp only [i64_w, i32_w]; rw [c43b0]) | skip)
     replace H := Option.bind_eq_some_iff.mp H
     obtain ⟨t348, A440, H⟩ := H
     replace H : (if t348 = true then ((num_Is.f k t338).bind fun t349 => (if t349 = true then (if t337.size + t338.size ≤ 9223372036854775807 then (if (t337 ++ t338).toList = ([] : List UInt8) then (florinlaw04_ShowDigits.j0 k true t324 t325 t326 t327 t328 t329 t330 t331 t336 t337 t338 t344 t345 t346) else (florinlaw04_ShowDigits.j0 k (t336 != t344) t324 t325 t326 t327 t328 t329 t330 t331 t336 t337 t338 t344 t345 t346)) else (none)) else (florinlaw04_ShowDigits.j0 k true t324 t325 t326 t327 t328 t329 t330 t331 t336 t337 t338 t344 t345 t346))) else (florinlaw04_ShowDigits.j0 k true t324 t325 t326 t327 t328 t329 t330 t331 t336 t337 t338 t344 t345 t346)) = some r := H
     have A44 := Aside0.mk A440
     clear A440
     by_cases c45 : t348 = true
     ·subst c45
      have H1 : ((num_Is.f k t338).bind fun t349 => (if t349 = true then (if t337.size + t338.size ≤ 9223372036854775807 then (if (t337 ++ t338).toList = ([] : List UInt8) then (florinlaw04_ShowDigits.j0 k true t324 t325 t326 t327 t328 t329 t330 t331 t336 t337 t338 t344 t345 t346) else (florinlaw04_ShowDigits.j0 k (t336 != t344) t324 t325 t326 t327 t328 t329 t330 t331 t336 t337 t338 t344 t345 t346)) else (none)) else (florinlaw04_ShowDigits.j0 k true t324 t325 t326 t327 t328 t329 t330 t331 t336 t337 t338 t344 t345 t346))) = some r := by rw [if_pos rfl] at H; exact H
      clear H
      have H := H1
      clear H1
      replace H := Option.bind_eq_some_iff.mp H
      obtain ⟨t349, A460, H⟩ := H
      replace H : (if t349 = true then (if t337.size + t338.size ≤ 9223372036854775807 then (if (t337 ++ t338).toList = ([] : List UInt8) then (florinlaw04_ShowDigits.j0 k true t324 t325 t326 t327 t328 t329 t330 t331 t336 t337 t338 t344 t345 t346) else (florinlaw04_ShowDigits.j0 k (t336 != t344) t324 t325 t326 t327 t328 t329 t330 t331 t336 t337 t338 t344 t345 t346)) else (none)) else (florinlaw04_ShowDigits.j0 k true t324 t325 t326 t327 t328 t329 t330 t331 t336 t337 t338 t344 t345 t346)) = some r := H
      have A46 := Aside0.mk A460
      clear A460
      by_cases c47 : t349 = true
      ·subst c47
       have H1 : (if t337.size + t338.size ≤ 9223372036854775807 then (if (t337 ++ t338).toList = ([] : List UInt8) then (florinlaw04_ShowDigits.j0 k true t324 t325 t326 t327 t328 t329 t330 t331 t336 t337 t338 t344 t345 t346) else (florinlaw04_ShowDigits.j0 k (t336 != t344) t324 t325 t326 t327 t328 t329 t330 t331 t336 t337 t338 t344 t345 t346)) else (none)) = some r := by rw [if_pos rfl] at H; exact H
       clear H
       have H := H1
       clear H1
       by_cases c48 : t337.size + t338.size ≤ 9223372036854775807
       ·rw [if_pos c48] at H
        have c48b0 := eq_true c48
        have c48b1 : decide (t337.size + t338.size ≤ 9223372036854775807) = true := decide_eq_true c48
        try have c48b2 : (9223372036854775807 < t337.size + t338.size) = False := eq_false (Nat.not_lt.2 c48)
        by_cases c49 : (t337 ++ t338).toList = ([] : List UInt8)
        ·rw [if_pos c49] at H
         have c49b0 : ((t337 ++ t338).toList == ([] : List UInt8)) = true := beq_iff_eq.mpr c49
         have c49b1 : ((t337 ++ t338).toList != ([] : List UInt8)) = false := bne_eq_false_iff_eq.mpr c49
         have c49b2 : ((t337 ++ t338).toList.isEmpty) = true := by rw [c49]; rfl
         clear c49
         have H' := Aside0.mk H
         clear H
         have hnb50 := NB340_320.out
         have hnc50 := NB320_340.out
         have hnb51 := NB340_321.out
         have hnc51 := NB321_340.out
         have hnb52 := NB340_332.out
         have hnc52 := NB332_340.out
         have hnb53 := NB340_347.out
         have hnc53 := NB347_340.out
         obtain ⟨hcz54_0, hcz54_1, hcz54_2, hfz54_0, hfz54_1, hfz54_2⟩ := bo3_ BK340
         go_wp2_with (first | (go_at_call 17; (with_reducible refine (num_Is.calls k t337 true _ A44.out).mono ?_); rintro e w' ⟨rfl, ⟨nd, rfl⟩⟩) | (go_at_call 17; (with_reducible refine (num_Is.calls k t338 true _ A46.out).mono ?_); rintro e w' ⟨rfl, ⟨nd, rfl⟩⟩))
         go_meet
         case rel => exact ⟨_, (true), eq_, H', ⟨by first | omega | exact Nat.le_refl _⟩, ⟨by (with_reducible repeat (first | refine blk_drewN ?_ _ | refine blk_drew ?_ | refine blk_alloc ?_ _)); refine blk_far ?_ NB320_347.out _; (with_reducible repeat (first | refine blk_drewN ?_ _ | refine blk_drew ?_ | refine blk_alloc ?_ _)); refine blk_far ?_ NB320_347.out _; (with_reducible repeat (first | refine blk_drewN ?_ _ | refine blk_drew ?_ | refine blk_alloc ?_ _)); refine blk_far ?_ NB320_347.out _; (with_reducible repeat (first | refine blk_drewN ?_ _ | refine blk_drew ?_ | refine blk_alloc ?_ _)); exact BK320.out⟩, ⟨by (with_reducible repeat (first | refine blk_drewN ?_ _ | refine blk_drew ?_ | refine blk_alloc ?_ _)); refine blk_far ?_ NB321_347.out _; (with_reducible repeat (first | refine blk_drewN ?_ _ | refine blk_drew ?_ | refine blk_alloc ?_ _)); refine blk_far ?_ NB321_347.out _; (with_reducible repeat (first | refine blk_drewN ?_ _ | refine blk_drew ?_ | refine blk_alloc ?_ _)); refine blk_far ?_ NB321_347.out _; (with_reducible repeat (first | refine blk_drewN ?_ _ | refine blk_drew ?_ | refine blk_alloc ?_ _)); exact BK321.out⟩, ⟨by (with_reducible repeat (first | refine blk_drewN ?_ _ | refine blk_drew ?_ | refine blk_alloc ?_ _)); refine blk_far ?_ NB332_347.out _; (with_reducible repeat (first | refine blk_drewN ?_ _ | refine blk_drew ?_ | refine blk_alloc ?_ _)); refine blk_far ?_ NB332_347.out _; (with_reducible repeat (first | refine blk_drewN ?_ _ | refine blk_drew ?_ | refine blk_alloc ?_ _)); refine blk_far ?_ NB332_347.out _; (with_reducible repeat (first | refine blk_drewN ?_ _ | refine blk_drew ?_ | refine blk_alloc ?_ _)); exact BK332.out⟩, ⟨by (with_reducible repeat (first | refine blk_drewN ?_ _ | refine blk_drew ?_ | refine blk_alloc ?_ _)); refine blk_far ?_ NB340_347.out _; (with_reducible repeat (first | refine blk_drewN ?_ _ | refine blk_drew ?_ | refine blk_alloc ?_ _)); refine blk_far ?_ NB340_347.out _; (with_reducible repeat (first | refine blk_drewN ?_ _ | refine blk_drew ?_ | refine blk_alloc ?_ _)); refine blk_far ?_ NB340_347.out _; (with_reducible repeat (first | refine blk_drewN ?_ _ | refine blk_drew ?_ | refine blk_alloc ?_ _)); exact BK340.out⟩, ⟨by (with_reducible repeat (first | refine blk_drewN ?_ _ | refine blk_drew ?_ | refine blk_alloc ?_ _)); refine blk_put (cs := #[.bool t344, .string t345, .int .i64 0]) ?_ 2 _ rfl; (with_reducible repeat (first | refine blk_drewN ?_ _ | refine blk_drew ?_ | refine blk_alloc ?_ _)); refine blk_put (cs := #[.bool t344, .string (⟨#[]⟩ : ByteArray), .int .i64 0]) ?_ 1 _ rfl; (with_reducible repeat (first | refine blk_drewN ?_ _ | refine blk_drew ?_ | refine blk_alloc ?_ _)); refine blk_put (cs := #[.bool false, .string (⟨#[]⟩ : ByteArray), .int .i64 0]) ?_ 0 _ rfl; (with_reducible repeat (first | refine blk_drewN ?_ _ | refine blk_drew ?_ | refine blk_alloc ?_ _)); exact BK347.out⟩, (bl_ HB)⟩
        ·rw [if_neg c49] at H
         have c49b0 : ((t337 ++ t338).toList == ([] : List UInt8)) = false := beq_eq_false_iff_ne.mpr c49
         have c49b1 : ((t337 ++ t338).toList != ([] : List UInt8)) = true := bne_iff_ne.mpr c49
         have c49b2 : ((t337 ++ t338).toList.isEmpty) = false := by rw [given_isEmpty, bne_iff_ne.mpr c49]; rfl
         have H' := Aside0.mk H
         clear H
         have hnb55 := NB340_320.out
         have hnc55 := NB320_340.out
         have hnb56 := NB340_321.out
         have hnc56 := NB321_340.out
         have hnb57 := NB340_332.out
         have hnc57 := NB332_340.out
         have hnb58 := NB340_347.out
         have hnc58 := NB347_340.out
         obtain ⟨hcz59_0, hcz59_1, hcz59_2, hfz59_0, hfz59_1, hfz59_2⟩ := bo3_ BK340
         go_wp2_with (first | (go_at_call 17; (with_reducible refine (num_Is.calls k t337 true _ A44.out).mono ?_); rintro e w' ⟨rfl, ⟨nd, rfl⟩⟩) | (go_at_call 17; (with_reducible refine (num_Is.calls k t338 true _ A46.out).mono ?_); rintro e w' ⟨rfl, ⟨nd, rfl⟩⟩; have hnb60 := NB347_320.out; have hnc60 := NB320_347.out; have hnb61 := NB347_321.out; have hnc61 := NB321_347.out; have hnb62 := NB347_332.out; have hnc62 := NB332_347.out; obtain ⟨hcz63_0, hcz63_1, hcz63_2, hfz63_0, hfz63_1, hfz63_2⟩ := bo3_ BK347))
         go_meet
         case rel => exact ⟨_, ((t336 != t344)), eq_, H', ⟨by first | omega | exact Nat.le_refl _⟩, ⟨by (with_reducible repeat (first | refine blk_drewN ?_ _ | refine blk_drew ?_ | refine blk_alloc ?_ _)); refine blk_far ?_ NB320_347.out _; (with_reducible repeat (first | refine blk_drewN ?_ _ | refine blk_drew ?_ | refine blk_alloc ?_ _)); refine blk_far ?_ NB320_347.out _; (with_reducible repeat (first | refine blk_drewN ?_ _ | refine blk_drew ?_ | refine blk_alloc ?_ _)); refine blk_far ?_ NB320_347.out _; (with_reducible repeat (first | refine blk_drewN ?_ _ | refine blk_drew ?_ | refine blk_alloc ?_ _)); exact BK320.out⟩, ⟨by (with_reducible repeat (first | refine blk_drewN ?_ _ | refine blk_drew ?_ | refine blk_alloc ?_ _)); refine blk_far ?_ NB321_347.out _; (with_reducible repeat (first | refine blk_drewN ?_ _ | refine blk_drew ?_ | refine blk_alloc ?_ _)); refine blk_far ?_ NB321_347.out _; (with_reducible repeat (first | refine blk_drewN ?_ _ | refine blk_drew ?_ | refine blk_alloc ?_ _)); refine blk_far ?_ NB321_347.out _; (with_reducible repeat (first | refine blk_drewN ?_ _ | refine blk_drew ?_ | refine blk_alloc ?_ _)); exact BK321.out⟩, ⟨by (with_reducible repeat (first | refine blk_drewN ?_ _ | refine blk_drew ?_ | refine blk_alloc ?_ _)); refine blk_far ?_ NB332_347.out _; (with_reducible repeat (first | refine blk_drewN ?_ _ | refine blk_drew ?_ | refine blk_alloc ?_ _)); refine blk_far ?_ NB332_347.out _; (with_reducible repeat (first | refine blk_drewN ?_ _ | refine blk_drew ?_ | refine blk_alloc ?_ _)); refine blk_far ?_ NB332_347.out _; (with_reducible repeat (first | refine blk_drewN ?_ _ | refine blk_drew ?_ | refine blk_alloc ?_ _)); exact BK332.out⟩, ⟨by (with_reducible repeat (first | refine blk_drewN ?_ _ | refine blk_drew ?_ | refine blk_alloc ?_ _)); refine blk_far ?_ NB340_347.out _; (with_reducible repeat (first | refine blk_drewN ?_ _ | refine blk_drew ?_ | refine blk_alloc ?_ _)); refine blk_far ?_ NB340_347.out _; (with_reducible repeat (first | refine blk_drewN ?_ _ | refine blk_drew ?_ | refine blk_alloc ?_ _)); refine blk_far ?_ NB340_347.out _; (with_reducible repeat (first | refine blk_drewN ?_ _ | refine blk_drew ?_ | refine blk_alloc ?_ _)); exact BK340.out⟩, ⟨by (with_reducible repeat (first | refine blk_drewN ?_ _ | refine blk_drew ?_ | refine blk_alloc ?_ _)); refine blk_put (cs := #[.bool t344, .string t345, .int .i64 0]) ?_ 2 _ rfl; (with_reducible repeat (first | refine blk_drewN ?_ _ | refine blk_drew ?_ | refine blk_alloc ?_ _)); refine blk_put (cs := #[.bool t344, .string (⟨#[]⟩ : ByteArray), .int .i64 0]) ?_ 1 _ rfl; (with_reducible repeat (first | refine blk_drewN ?_ _ | refine blk_drew ?_ | refine blk_alloc ?_ _)); refine blk_put (cs := #[.bool false, .string (⟨#[]⟩ : ByteArray), .int .i64 0]) ?_ 0 _ rfl; (with_reducible repeat (first | refine blk_drewN ?_ _ | refine blk_drew ?_ | refine blk_alloc ?_ _)); exact BK347.out⟩, (bl_ HB)⟩
       ·rw [if_neg c48] at H
        exact absurd H (by simp)
      ·replace c47 := Bool.eq_false_iff.mpr c47
       subst c47
       have H1 : (florinlaw04_ShowDigits.j0 k true t324 t325 t326 t327 t328 t329 t330 t331 t336 t337 t338 t344 t345 t346) = some r := by rw [if_neg (show ¬ (false = true) by decide)] at H; exact H
       clear H
       have H := H1
       clear H1
       have H' := Aside0.mk H
       clear H
       have hnb64 := NB340_320.out
       have hnc64 := NB320_340.out
       have hnb65 := NB340_321.out
       have hnc65 := NB321_340.out
       have hnb66 := NB340_332.out
       have hnc66 := NB332_340.out
       have hnb67 := NB340_347.out
       have hnc67 := NB347_340.out
       obtain ⟨hcz68_0, hcz68_1, hcz68_2, hfz68_0, hfz68_1, hfz68_2⟩ := bo3_ BK340
       go_wp2_with (first | (go_at_call 17; (with_reducible refine (num_Is.calls k t337 true _ A44.out).mono ?_); rintro e w' ⟨rfl, ⟨nd, rfl⟩⟩) | (go_at_call 17; (with_reducible refine (num_Is.calls k t338 false _ A46.out).mono ?_); rintro e w' ⟨rfl, ⟨nd, rfl⟩⟩))
       go_meet
       case rel => exact ⟨_, (true), eq_, H', ⟨by first | omega | exact Nat.le_refl _⟩, ⟨by (with_reducible repeat (first | refine blk_drewN ?_ _ | refine blk_drew ?_ | refine blk_alloc ?_ _)); refine blk_far ?_ NB320_347.out _; (with_reducible repeat (first | refine blk_drewN ?_ _ | refine blk_drew ?_ | refine blk_alloc ?_ _)); refine blk_far ?_ NB320_347.out _; (with_reducible repeat (first | refine blk_drewN ?_ _ | refine blk_drew ?_ | refine blk_alloc ?_ _)); refine blk_far ?_ NB320_347.out _; (with_reducible repeat (first | refine blk_drewN ?_ _ | refine blk_drew ?_ | refine blk_alloc ?_ _)); exact BK320.out⟩, ⟨by (with_reducible repeat (first | refine blk_drewN ?_ _ | refine blk_drew ?_ | refine blk_alloc ?_ _)); refine blk_far ?_ NB321_347.out _; (with_reducible repeat (first | refine blk_drewN ?_ _ | refine blk_drew ?_ | refine blk_alloc ?_ _)); refine blk_far ?_ NB321_347.out _; (with_reducible repeat (first | refine blk_drewN ?_ _ | refine blk_drew ?_ | refine blk_alloc ?_ _)); refine blk_far ?_ NB321_347.out _; (with_reducible repeat (first | refine blk_drewN ?_ _ | refine blk_drew ?_ | refine blk_alloc ?_ _)); exact BK321.out⟩, ⟨by (with_reducible repeat (first | refine blk_drewN ?_ _ | refine blk_drew ?_ | refine blk_alloc ?_ _)); refine blk_far ?_ NB332_347.out _; (with_reducible repeat (first | refine blk_drewN ?_ _ | refine blk_drew ?_ | refine blk_alloc ?_ _)); refine blk_far ?_ NB332_347.out _; (with_reducible repeat (first | refine blk_drewN ?_ _ | refine blk_drew ?_ | refine blk_alloc ?_ _)); refine blk_far ?_ NB332_347.out _; (with_reducible repeat (first | refine blk_drewN ?_ _ | refine blk_drew ?_ | refine blk_alloc ?_ _)); exact BK332.out⟩, ⟨by (with_reducible repeat (first | refine blk_drewN ?_ _ | refine blk_drew ?_ | refine blk_alloc ?_ _)); refine blk_far ?_ NB340_347.out _; (with_reducible repeat (first | refine blk_drewN ?_ _ | refine blk_drew ?_ | refine blk_alloc ?_ _)); refine blk_far ?_ NB340_347.out _; (with_reducible repeat (first | refine blk_drewN ?_ _ | refine blk_drew ?_ | refine blk_alloc ?_ _)); refine blk_far ?_ NB340_347.out _; (with_reducible repeat (first | refine blk_drewN ?_ _ | refine blk_drew ?_ | refine blk_alloc ?_ _)); exact BK340.out⟩, ⟨by (with_reducible repeat (first | refine blk_drewN ?_ _ | refine blk_drew ?_ | refine blk_alloc ?_ _)); refine blk_put (cs := #[.bool t344, .string t345, .int .i64 0]) ?_ 2 _ rfl; (with_reducible repeat (first | refine blk_drewN ?_ _ | refine blk_drew ?_ | refine blk_alloc ?_ _)); refine blk_put (cs := #[.bool t344, .string (⟨#[]⟩ : ByteArray), .int .i64 0]) ?_ 1 _ rfl; (with_reducible repeat (first | refine blk_drewN ?_ _ | refine blk_drew ?_ | refine blk_alloc ?_ _)); refine blk_put (cs := #[.bool false, .string (⟨#[]⟩ : ByteArray), .int .i64 0]) ?_ 0 _ rfl; (with_reducible repeat (first | refine blk_drewN ?_ _ | refine blk_drew ?_ | refine blk_alloc ?_ _)); exact BK347.out⟩, (bl_ HB)⟩
     ·replace c45 := Bool.eq_false_iff.mpr c45
      subst c45
      have H1 : (florinlaw04_ShowDigits.j0 k true t324 t325 t326 t327 t328 t329 t330 t331 t336 t337 t338 t344 t345 t346) = some r := by rw [if_neg (show ¬ (false = true) by decide)] at H; exact H
      clear H
      have H := H1
      clear H1
      have H' := Aside0.mk H
      clear H
      have hnb69 := NB340_320.out
      have hnc69 := NB320_340.out
      have hnb70 := NB340_321.out
      have hnc70 := NB321_340.out
      have hnb71 := NB340_332.out
      have hnc71 := NB332_340.out
      have hnb72 := NB340_347.out
      have hnc72 := NB347_340.out
      obtain ⟨hcz73_0, hcz73_1, hcz73_2, hfz73_0, hfz73_1, hfz73_2⟩ := bo3_ BK340
      go_wp2_with (first | (go_at_call 17; (with_reducible refine (num_Is.calls k t337 false _ A44.out).mono ?_); rintro e w' ⟨rfl, ⟨nd, rfl⟩⟩))
      go_meet
      case rel => exact ⟨_, (true), eq_, H', ⟨by first | omega | exact Nat.le_refl _⟩, ⟨by (with_reducible repeat (first | refine blk_drewN ?_ _ | refine blk_drew ?_ | refine blk_alloc ?_ _)); refine blk_far ?_ NB320_347.out _; (with_reducible repeat (first | refine blk_drewN ?_ _ | refine blk_drew ?_ | refine blk_alloc ?_ _)); refine blk_far ?_ NB320_347.out _; (with_reducible repeat (first | refine blk_drewN ?_ _ | refine blk_drew ?_ | refine blk_alloc ?_ _)); refine blk_far ?_ NB320_347.out _; (with_reducible repeat (first | refine blk_drewN ?_ _ | refine blk_drew ?_ | refine blk_alloc ?_ _)); exact BK320.out⟩, ⟨by (with_reducible repeat (first | refine blk_drewN ?_ _ | refine blk_drew ?_ | refine blk_alloc ?_ _)); refine blk_far ?_ NB321_347.out _; (with_reducible repeat (first | refine blk_drewN ?_ _ | refine blk_drew ?_ | refine blk_alloc ?_ _)); refine blk_far ?_ NB321_347.out _; (with_reducible repeat (first | refine blk_drewN ?_ _ | refine blk_drew ?_ | refine blk_alloc ?_ _)); refine blk_far ?_ NB321_347.out _; (with_reducible repeat (first | refine blk_drewN ?_ _ | refine blk_drew ?_ | refine blk_alloc ?_ _)); exact BK321.out⟩, ⟨by (with_reducible repeat (first | refine blk_drewN ?_ _ | refine blk_drew ?_ | refine blk_alloc ?_ _)); refine blk_far ?_ NB332_347.out _; (with_reducible repeat (first | refine blk_drewN ?_ _ | refine blk_drew ?_ | refine blk_alloc ?_ _)); refine blk_far ?_ NB332_347.out _; (with_reducible repeat (first | refine blk_drewN ?_ _ | refine blk_drew ?_ | refine blk_alloc ?_ _)); refine blk_far ?_ NB332_347.out _; (with_reducible repeat (first | refine blk_drewN ?_ _ | refine blk_drew ?_ | refine blk_alloc ?_ _)); exact BK332.out⟩, ⟨by (with_reducible repeat (first | refine blk_drewN ?_ _ | refine blk_drew ?_ | refine blk_alloc ?_ _)); refine blk_far ?_ NB340_347.out _; (with_reducible repeat (first | refine blk_drewN ?_ _ | refine blk_drew ?_ | refine blk_alloc ?_ _)); refine blk_far ?_ NB340_347.out _; (with_reducible repeat (first | refine blk_drewN ?_ _ | refine blk_drew ?_ | refine blk_alloc ?_ _)); refine blk_far ?_ NB340_347.out _; (with_reducible repeat (first | refine blk_drewN ?_ _ | refine blk_drew ?_ | refine blk_alloc ?_ _)); exact BK340.out⟩, ⟨by (with_reducible repeat (first | refine blk_drewN ?_ _ | refine blk_drew ?_ | refine blk_alloc ?_ _)); refine blk_put (cs := #[.bool t344, .string t345, .int .i64 0]) ?_ 2 _ rfl; (with_reducible repeat (first | refine blk_drewN ?_ _ | refine blk_drew ?_ | refine blk_alloc ?_ _)); refine blk_put (cs := #[.bool t344, .string (⟨#[]⟩ : ByteArray), .int .i64 0]) ?_ 1 _ rfl; (with_reducible repeat (first | refine blk_drewN ?_ _ | refine blk_drew ?_ | refine blk_alloc ?_ _)); refine blk_put (cs := #[.bool false, .string (⟨#[]⟩ : ByteArray), .int .i64 0]) ?_ 0 _ rfl; (with_reducible repeat (first | refine blk_drewN ?_ _ | refine blk_drew ?_ | refine blk_alloc ?_ _)); exact BK347.out⟩, (bl_ HB)⟩
    ·rw [if_neg c43] at H
     have c43b0 : (t339 == 0) = false := beq_eq_false_iff_ne.mpr c43
     have c43b1 : (t339 != 0) = true := bne_iff_ne.mpr c43
     (first | rw [c43b0] | (simp only [i64_w, i32_w]; rw [c43b0]) | skip)
     have H' := Aside0.mk H
     clear H
     go_wp2
     go_meet
     case rel => exact ⟨_, (true), eq_, H', ⟨by first | omega | exact Nat.le_refl _⟩, ⟨by (with_reducible repeat (first | refine blk_drewN ?_ _ | refine blk_drew ?_ | refine blk_alloc ?_ _)); refine blk_far ?_ NB320_347.out _; (with_reducible repeat (first | refine blk_drewN ?_ _ | refine blk_drew ?_ | refine blk_alloc ?_ _)); refine blk_far ?_ NB320_347.out _; (with_reducible repeat (first | refine blk_drewN ?_ _ | refine blk_drew ?_ | refine blk_alloc ?_ _)); refine blk_far ?_ NB320_347.out _; (with_reducible repeat (first | refine blk_drewN ?_ _ | refine blk_drew ?_ | refine blk_alloc ?_ _)); exact BK320.out⟩, ⟨by (with_reducible repeat (first | refine blk_drewN ?_ _ | refine blk_drew ?_ | refine blk_alloc ?_ _)); refine blk_far ?_ NB321_347.out _; (with_reducible repeat (first | refine blk_drewN ?_ _ | refine blk_drew ?_ | refine blk_alloc ?_ _)); refine blk_far ?_ NB321_347.out _; (with_reducible repeat (first | refine blk_drewN ?_ _ | refine blk_drew ?_ | refine blk_alloc ?_ _)); refine blk_far ?_ NB321_347.out _; (with_reducible repeat (first | refine blk_drewN ?_ _ | refine blk_drew ?_ | refine blk_alloc ?_ _)); exact BK321.out⟩, ⟨by (with_reducible repeat (first | refine blk_drewN ?_ _ | refine blk_drew ?_ | refine blk_alloc ?_ _)); refine blk_far ?_ NB332_347.out _; (with_reducible repeat (first | refine blk_drewN ?_ _ | refine blk_drew ?_ | refine blk_alloc ?_ _)); refine blk_far ?_ NB332_347.out _; (with_reducible repeat (first | refine blk_drewN ?_ _ | refine blk_drew ?_ | refine blk_alloc ?_ _)); refine blk_far ?_ NB332_347.out _; (with_reducible repeat (first | refine blk_drewN ?_ _ | refine blk_drew ?_ | refine blk_alloc ?_ _)); exact BK332.out⟩, ⟨by (with_reducible repeat (first | refine blk_drewN ?_ _ | refine blk_drew ?_ | refine blk_alloc ?_ _)); refine blk_far ?_ NB340_347.out _; (with_reducible repeat (first | refine blk_drewN ?_ _ | refine blk_drew ?_ | refine blk_alloc ?_ _)); refine blk_far ?_ NB340_347.out _; (with_reducible repeat (first | refine blk_drewN ?_ _ | refine blk_drew ?_ | refine blk_alloc ?_ _)); refine blk_far ?_ NB340_347.out _; (with_reducible repeat (first | refine blk_drewN ?_ _ | refine blk_drew ?_ | refine blk_alloc ?_ _)); exact BK340.out⟩, ⟨by (with_reducible repeat (first | refine blk_drewN ?_ _ | refine blk_drew ?_ | refine blk_alloc ?_ _)); refine blk_put (cs := #[.bool t344, .string t345, .int .i64 0]) ?_ 2 _ rfl; (with_reducible repeat (first | refine blk_drewN ?_ _ | refine blk_drew ?_ | refine blk_alloc ?_ _)); refine blk_put (cs := #[.bool t344, .string (⟨#[]⟩ : ByteArray), .int .i64 0]) ?_ 1 _ rfl; (with_reducible repeat (first | refine blk_drewN ?_ _ | refine blk_drew ?_ | refine blk_alloc ?_ _)); refine blk_put (cs := #[.bool false, .string (⟨#[]⟩ : ByteArray), .int .i64 0]) ?_ 0 _ rfl; (with_reducible repeat (first | refine blk_drewN ?_ _ | refine blk_drew ?_ | refine blk_alloc ?_ _)); exact BK347.out⟩, (bl_ HB)⟩
   case rest =>
    clear HC12
    try clear c1
    try clear p2
    try clear c4
    try clear c5
    try clear c6
    try clear p6
    try clear c7
    try clear c9
    try clear c14
    try clear c43
    try clear c43b0
    try clear c43b1
    try clear c45
    try clear c47
    try clear c48
    try clear c48b0
    try clear c48b1
    try clear c48b2
    try clear c49
    try clear c49b0
    try clear c49b1
    try clear c49b2
    try clear c50
    try clear c51
    try clear c52
    try clear c53
    try clear c55
    try clear c56
    try clear c57
    try clear c58
    try clear c60
    try clear c61
    try clear c62
    try clear c64
    try clear p64
    try clear c65
    try clear c66
    try clear c67
    try clear c69
    try clear c70
    try clear c71
    try clear c72
    try clear hcz54_0
    try clear hcz54_1
    try clear hcz54_2
    try clear hcz59_0
    try clear hcz59_1
    try clear hcz59_2
    try clear hcz63_0
    try clear hcz63_1
    try clear hcz63_2
    try clear hcz68_0
    try clear hcz68_1
    try clear hcz68_2
    try clear hcz73_0
    try clear hcz73_1
    try clear hcz73_2
    try clear hfz54_0
    try clear hfz54_1
    try clear hfz54_2
    try clear hfz59_0
    try clear hfz59_1
    try clear hfz59_2
    try clear hfz63_0
    try clear hfz63_1
    try clear hfz63_2
    try clear hfz68_0
    try clear hfz68_1
    try clear hfz68_2
    try clear hfz73_0
    try clear hfz73_1
    try clear hfz73_2
    obtain ⟨kq, x60_11, rfl, HA, HJ11, BK320, BK321, BK332, BK340, BK347, HB⟩ := hcut
    cases kq with
    | zero => exact absurd HA.out (by simp [florinlaw04_ShowDigits.j0])
    | succ kj11 =>
     have H := HA.out
     clear HA
     simp only [florinlaw04_ShowDigits.j0] at H
     by_cases c74 : x60_11 = true
     ·subst c74
      have H1 : (some false) = some r := by rw [if_pos rfl] at H; exact H
      clear H
      have H := H1
      clear H1
      obtain rfl := Option.some.inj H
      go_wp2
      go_ret
      exact ⟨ew_, (bl_ HB).out⟩
     ·replace c74 := Bool.eq_false_iff.mpr c74
      subst c74
      have H1 : ((num_Trim.f kj11 t337).bind fun t350 => (if (t337.size : Int) = (mx (t350.size : Int) t331) then (florinlaw04_ShowDigits.j1 kj11 t350 false t324 t325 t326 t327 t328 t329 t330 t331 t336 t337 t338 t344 t345 t346) else (if (mx (t350.size : Int) t331) = 0 then (if t337.toList = ([48] : List UInt8) then (florinlaw04_ShowDigits.j1 kj11 t350 (!(t338.toList == ([] : List UInt8))) t324 t325 t326 t327 t328 t329 t330 t331 t336 t337 t338 t344 t345 t346) else (florinlaw04_ShowDigits.j1 kj11 t350 (!false) t324 t325 t326 t327 t328 t329 t330 t331 t336 t337 t338 t344 t345 t346)) else (florinlaw04_ShowDigits.j1 kj11 t350 (!false) t324 t325 t326 t327 t328 t329 t330 t331 t336 t337 t338 t344 t345 t346)))) = some r := by rw [if_neg (show ¬ (false = true) by decide)] at H; exact H
      clear H
      have H := H1
      clear H1
      replace H := Option.bind_eq_some_iff.mp H
      obtain ⟨t350, A750, H⟩ := H
      replace H : (if (t337.size : Int) = (mx (t350.size : Int) t331) then (florinlaw04_ShowDigits.j1 kj11 t350 false t324 t325 t326 t327 t328 t329 t330 t331 t336 t337 t338 t344 t345 t346) else (if (mx (t350.size : Int) t331) = 0 then (if t337.toList = ([48] : List UInt8) then (florinlaw04_ShowDigits.j1 kj11 t350 (!(t338.toList == ([] : List UInt8))) t324 t325 t326 t327 t328 t329 t330 t331 t336 t337 t338 t344 t345 t346) else (florinlaw04_ShowDigits.j1 kj11 t350 (!false) t324 t325 t326 t327 t328 t329 t330 t331 t336 t337 t338 t344 t345 t346)) else (florinlaw04_ShowDigits.j1 kj11 t350 (!false) t324 t325 t326 t327 t328 t329 t330 t331 t336 t337 t338 t344 t345 t346))) = some r := H
      have A75 := Aside0.mk A750
      clear A750
      obtain ⟨ji76, hji76⟩ : ∃ j_ : Int, (mx (t350.size : Int) t331) = j_ := ⟨_, rfl⟩
      replace H : (if (t337.size : Int) = (ji76) then (florinlaw04_ShowDigits.j1 kj11 t350 false t324 t325 t326 t327 t328 t329 t330 t331 t336 t337 t338 t344 t345 t346) else (if (ji76) = 0 then (if t337.toList = ([48] : List UInt8) then (florinlaw04_ShowDigits.j1 kj11 t350 (!(t338.toList == ([] : List UInt8))) t324 t325 t326 t327 t328 t329 t330 t331 t336 t337 t338 t344 t345 t346) else (florinlaw04_ShowDigits.j1 kj11 t350 (!false) t324 t325 t326 t327 t328 t329 t330 t331 t336 t337 t338 t344 t345 t346)) else (florinlaw04_ShowDigits.j1 kj11 t350 (!false) t324 t325 t326 t327 t328 t329 t330 t331 t336 t337 t338 t344 t345 t346))) = some r := by first | (rw [hji76] at H; exact H) | (simp only [hji76] at H ⊢; exact H)
      (try rw [hji76] at A75)
      have hji76_ : (if (t350.size : Int) < t331 then t331 else (t350.size : Int)) = ji76 := hji76
      have HC77 := Aside0.mk H
      clear H
      have hnb78 := NB340_320.out
      have hnc78 := NB320_340.out
      have hnb79 := NB340_321.out
      have hnc79 := NB321_340.out
      have hnb80 := NB340_332.out
      have hnc80 := NB332_340.out
      have hnb81 := NB340_347.out
      have hnc81 := NB347_340.out
      obtain ⟨hcz82_0, hcz82_1, hcz82_2, hfz82_0, hfz82_1, hfz82_2⟩ := bo3_ BK340
      go_upto_region 12 with (first | ((with_reducible refine gate_callee (f := 18) rfl ?_); refine gl_ (some 63) Tryd.func18 #[.string t337] ?_; (with_reducible refine (num_Trim.calls kj11 t337 t350 _ A75.out).mono ?_); rintro e w' ⟨rfl, ⟨nd, rfl⟩⟩; refine ⟨_, rfl, ?_⟩; have hnb83 := NB332_320.out; have hnc83 := NB320_332.out; have hnb84 := NB332_321.out; have hnc84 := NB321_332.out; have hnb85 := NB332_347.out; have hnc85 := NB347_332.out; obtain ⟨hcz86_0, hcz86_1, hcz86_2, hcz86_3, hcz86_4, hcz86_5, hcz86_6, hcz86_7, hfz86_0, hfz86_1, hfz86_2, hfz86_3, hfz86_4, hfz86_5, hfz86_6, hfz86_7⟩ := bo8_ BK332))
      (try simp only [Act.put, List.setIfInBounds_toArray, List.set_cons_zero, List.set_cons_succ])
      go_cut [88] (fun v88 wc => ∃ (kq : Nat) (x88_76 : Bool), v88 = .bool x88_76 ∧ Aside0 (florinlaw04_ShowDigits.j1 kq t350 x88_76 t324 t325 t326 t327 t328 t329 t330 t331 t336 t337 t338 t344 t345 t346 = some r) ∧ Aside0 (kq ≤ kj11) ∧ Aside0 (wc.heap[gb320]? = some (.cells #[.bool a0_0, (.slice A0_1 l0_1.length c0_1), .int .i64 a0_2] 24 (0, 0))) ∧ Aside0 (wc.heap[gb321]? = some (.cells #[.int .i64 a1_0, .int .i64 a1_1, .int .i64 a1_2, .int .i64 a1_3, .int .i64 a1_4, .int .i64 a1_5, .int .i64 a1_6] 42 (0, 0))) ∧ Aside0 (wc.heap[gb332]? = some (.cells #[.int .i64 t324, .int .i64 t325, .int .i64 t326, .bool t327, .string t328, .int .i64 t329, .int .i64 t330, .int .i64 t331] 32 (0, 0))) ∧ Aside0 (wc.heap[gb340]? = some (.cells #[.bool t336, .string t337, .string t338] 35 (0, 0))) ∧ Aside0 (wc.heap[gb347]? = some (.cells #[.bool t344, .string t345, .int .i64 t346] 29 (0, 0))) ∧ Aside0 (Below w.heap.size w wc))
      case first =>
       have H := HC77.out
       clear HC77
       by_cases c87 : (t337.size : Int) = (ji76)
       ·rw [if_pos c87] at H
        have c87b0 : ((t337.size : Int) == (ji76)) = true := beq_iff_eq.mpr c87
        have c87b1 : ((t337.size : Int) != (ji76)) = false := bne_eq_false_iff_eq.mpr c87
        clear c87
        (first | rw [c87b0] | (simp only [i64_w, i32_w]; rw [c87b0]) | skip)
        have H' := Aside0.mk H
        clear H
        have hnb88 := NB340_320.out
        have hnc88 := NB320_340.out
        have hnb89 := NB340_321.out
        have hnc89 := NB321_340.out
        have hnb90 := NB340_332.out
        have hnc90 := NB332_340.out
        have hnb91 := NB340_347.out
        have hnc91 := NB347_340.out
        obtain ⟨hcz92_0, hcz92_1, hcz92_2, hfz92_0, hfz92_1, hfz92_2⟩ := bo3_ BK340
        go_wp2
        go_meet
        case rel => first | (exact ⟨_, (false), eq_, (by first | exact H' | (rw [hji76]; exact H') | (simp only [hji76]; exact H')), ⟨by have := HJ11.out; first | omega | exact Nat.le_refl _⟩, (bk_ BK320), (bk_ BK321), (bk_ BK332), (bk_ BK340), (bk_ BK347), (bl_ HB)⟩) | (rw [← hji76] at H'; exact ⟨_, (false), eq_, (by first | exact H' | (rw [hji76]; exact H') | (simp only [hji76]; exact H')), ⟨by have := HJ11.out; first | omega | exact Nat.le_refl _⟩, (bk_ BK320), (bk_ BK321), (bk_ BK332), (bk_ BK340), (bk_ BK347), (bl_ HB)⟩)
       ·rw [if_neg c87] at H
        have c87b0 : ((t337.size : Int) == (ji76)) = false := beq_eq_false_iff_ne.mpr c87
        have c87b1 : ((t337.size : Int) != (ji76)) = true := bne_iff_ne.mpr c87
        (first | rw [c87b0] | (simp only [i64_w, i32_w]; rw [c87b0]) | skip)
        by_cases c93 : (ji76) = 0
        ·rw [if_pos c93] at H
         have c93b0 : ((ji76) == 0) = true := beq_iff_eq.mpr c93
         have c93b1 : ((ji76) != 0) = false := bne_eq_false_iff_eq.mpr c93
         clear c93
         by_cases c94 : t337.toList = ([48] : List UInt8)
         ·rw [if_pos c94] at H
          have c94b0 : (t337.toList == ([48] : List UInt8)) = true := beq_iff_eq.mpr c94
          have c94b1 : (t337.toList != ([48] : List UInt8)) = false := bne_eq_false_iff_eq.mpr c94
          clear c94
          have H' := Aside0.mk H
          clear H
          have hnb95 := NB340_320.out
          have hnc95 := NB320_340.out
          have hnb96 := NB340_321.out
          have hnc96 := NB321_340.out
          have hnb97 := NB340_332.out
          have hnc97 := NB332_340.out
          have hnb98 := NB340_347.out
          have hnc98 := NB347_340.out
          obtain ⟨hcz99_0, hcz99_1, hcz99_2, hfz99_0, hfz99_1, hfz99_2⟩ := bo3_ BK340
          go_wp2
          go_meet
          case rel => first | (exact ⟨_, (!(t338.toList == ([] : List UInt8))), eq_, (by first | exact H' | (rw [hji76]; exact H') | (simp only [hji76]; exact H')), ⟨by have := HJ11.out; first | omega | exact Nat.le_refl _⟩, (bk_ BK320), (bk_ BK321), (bk_ BK332), (bk_ BK340), (bk_ BK347), (bl_ HB)⟩) | (rw [← hji76] at H'; exact ⟨_, (!(t338.toList == ([] : List UInt8))), eq_, (by first | exact H' | (rw [hji76]; exact H') | (simp only [hji76]; exact H')), ⟨by have := HJ11.out; first | omega | exact Nat.le_refl _⟩, (bk_ BK320), (bk_ BK321), (bk_ BK332), (bk_ BK340), (bk_ BK347), (bl_ HB)⟩)
         ·rw [if_neg c94] at H
          have c94b0 : (t337.toList == ([48] : List UInt8)) = false := beq_eq_false_iff_ne.mpr c94
          have c94b1 : (t337.toList != ([48] : List UInt8)) = true := bne_iff_ne.mpr c94
          have H' := Aside0.mk H
          clear H
          have hnb100 := NB340_320.out
          have hnc100 := NB320_340.out
          have hnb101 := NB340_321.out
          have hnc101 := NB321_340.out
          have hnb102 := NB340_332.out
          have hnc102 := NB332_340.out
          have hnb103 := NB340_347.out
          have hnc103 := NB347_340.out
          obtain ⟨hcz104_0, hcz104_1, hcz104_2, hfz104_0, hfz104_1, hfz104_2⟩ := bo3_ BK340
          go_wp2
          go_meet
          case rel => first | (exact ⟨_, (!false), eq_, (by first | exact H' | (rw [hji76]; exact H') | (simp only [hji76]; exact H')), ⟨by have := HJ11.out; first | omega | exact Nat.le_refl _⟩, (bk_ BK320), (bk_ BK321), (bk_ BK332), (bk_ BK340), (bk_ BK347), (bl_ HB)⟩) | (rw [← hji76] at H'; exact ⟨_, (!false), eq_, (by first | exact H' | (rw [hji76]; exact H') | (simp only [hji76]; exact H')), ⟨by have := HJ11.out; first | omega | exact Nat.le_refl _⟩, (bk_ BK320), (bk_ BK321), (bk_ BK332), (bk_ BK340), (bk_ BK347), (bl_ HB)⟩)
        ·rw [if_neg c93] at H
         have c93b0 : ((ji76) == 0) = false := beq_eq_false_iff_ne.mpr c93
         have c93b1 : ((ji76) != 0) = true := bne_iff_ne.mpr c93
         have H' := Aside0.mk H
         clear H
         have hnb105 := NB340_320.out
         have hnc105 := NB320_340.out
         have hnb106 := NB340_321.out
         have hnc106 := NB321_340.out
         have hnb107 := NB340_332.out
         have hnc107 := NB332_340.out
         have hnb108 := NB340_347.out
         have hnc108 := NB347_340.out
         obtain ⟨hcz109_0, hcz109_1, hcz109_2, hfz109_0, hfz109_1, hfz109_2⟩ := bo3_ BK340
         go_wp2
         go_meet
         case rel => first | (exact ⟨_, (!false), eq_, (by first | exact H' | (rw [hji76]; exact H') | (simp only [hji76]; exact H')), ⟨by have := HJ11.out; first | omega | exact Nat.le_refl _⟩, (bk_ BK320), (bk_ BK321), (bk_ BK332), (bk_ BK340), (bk_ BK347), (bl_ HB)⟩) | (rw [← hji76] at H'; exact ⟨_, (!false), eq_, (by first | exact H' | (rw [hji76]; exact H') | (simp only [hji76]; exact H')), ⟨by have := HJ11.out; first | omega | exact Nat.le_refl _⟩, (bk_ BK320), (bk_ BK321), (bk_ BK332), (bk_ BK340), (bk_ BK347), (bl_ HB)⟩)
      case rest =>
       clear HC77
       try clear c1
       try clear p2
       try clear c4
       try clear c5
       try clear c6
       try clear p6
       try clear c7
       try clear c8
       try clear c9
       try clear c10
       try clear c14
       try clear c18
       try clear c43
       try clear c43b0
       try clear c43b1
       try clear c45
       try clear c47
       try clear c48
       try clear c48b0
       try clear c48b1
       try clear c48b2
       try clear c49
       try clear c49b0
       try clear c49b1
       try clear c49b2
       try clear c50
       try clear c51
       try clear c52
       try clear c53
       try clear c55
       try clear c56
       try clear c57
       try clear c58
       try clear c60
       try clear c61
       try clear c62
       try clear c64
       try clear p64
       try clear c65
       try clear c66
       try clear c67
       try clear c69
       try clear c70
       try clear c71
       try clear c72
       try clear c74
       try clear c78
       try clear c79
       try clear c80
       try clear c81
       try clear c83
       try clear c84
       try clear c85
       try clear c87
       try clear c87b0
       try clear c87b1
       try clear c88
       try clear c89
       try clear c90
       try clear c91
       try clear c93
       try clear c93b0
       try clear c93b1
       try clear c94
       try clear c94b0
       try clear c94b1
       try clear c95
       try clear c96
       try clear c97
       try clear c98
       try clear c100
       try clear c101
       try clear c102
       try clear c103
       try clear c105
       try clear c106
       try clear c107
       try clear c108
       try clear hcz104_0
       try clear hcz104_1
       try clear hcz104_2
       try clear hcz109_0
       try clear hcz109_1
       try clear hcz109_2
       try clear hcz54_0
       try clear hcz54_1
       try clear hcz54_2
       try clear hcz59_0
       try clear hcz59_1
       try clear hcz59_2
       try clear hcz63_0
       try clear hcz63_1
       try clear hcz63_2
       try clear hcz68_0
       try clear hcz68_1
       try clear hcz68_2
       try clear hcz73_0
       try clear hcz73_1
       try clear hcz73_2
       try clear hcz82_0
       try clear hcz82_1
       try clear hcz82_2
       try clear hcz86_0
       try clear hcz86_1
       try clear hcz86_2
       try clear hcz86_3
       try clear hcz86_4
       try clear hcz86_5
       try clear hcz86_6
       try clear hcz86_7
       try clear hcz92_0
       try clear hcz92_1
       try clear hcz92_2
       try clear hcz99_0
       try clear hcz99_1
       try clear hcz99_2
       try clear hfz104_0
       try clear hfz104_1
       try clear hfz104_2
       try clear hfz109_0
       try clear hfz109_1
       try clear hfz109_2
       try clear hfz54_0
       try clear hfz54_1
       try clear hfz54_2
       try clear hfz59_0
       try clear hfz59_1
       try clear hfz59_2
       try clear hfz63_0
       try clear hfz63_1
       try clear hfz63_2
       try clear hfz68_0
       try clear hfz68_1
       try clear hfz68_2
       try clear hfz73_0
       try clear hfz73_1
       try clear hfz73_2
       try clear hfz82_0
       try clear hfz82_1
       try clear hfz82_2
       try clear hfz86_0
       try clear hfz86_1
       try clear hfz86_2
       try clear hfz86_3
       try clear hfz86_4
       try clear hfz86_5
       try clear hfz86_6
       try clear hfz86_7
       try clear hfz92_0
       try clear hfz92_1
       try clear hfz92_2
       try clear hfz99_0
       try clear hfz99_1
       try clear hfz99_2
       try clear p2
       try clear p6
       try clear p64
       obtain ⟨kq, x88_76, rfl, HA, HJ76, BK320, BK321, BK332, BK340, BK347, HB⟩ := hcut
       cases kq with
       | zero => exact absurd HA.out (by simp [florinlaw04_ShowDigits.j1])
       | succ kj76 =>
        have H := HA.out
        clear HA
        simp only [florinlaw04_ShowDigits.j1] at H
        by_cases c110 : x88_76 = true
        ·subst c110
         have H1 : (some false) = some r := by rw [if_pos rfl] at H; exact H
         clear H
         have H := H1
         clear H1
         obtain rfl := Option.some.inj H
         go_wp2
         go_ret
         exact ⟨by first | rfl | (simp [errW_none, errW_some] <;> rfl) | (simp only [← hji76]; first | rfl | (simp [errW_none, errW_some] <;> rfl)) | (simp [*, errW_none, errW_some] <;> first | rfl | exact given_isEmpty _ | exact (given_isEmpty _).symm), by repeat (first | (with_reducible first | exact HB.out | apply below_alloc | apply pw_below_drewN | apply below_drew1 | refine below_set ?_ GE320.out | refine below_set ?_ GE321.out | refine below_set ?_ GE332.out | refine below_set ?_ GE340.out | refine below_set ?_ GE347.out) | exact HB.out)⟩
        ·replace c110 := Bool.eq_false_iff.mpr c110
         subst c110
         have H1 : (if t324 = 1 then (if (t350.size : Int) = 0 then ((dec_Dec_Zero.f kj76 t344 t345 t346).bind fun t351 => (if t351 = true then ((florinlaw04_trimEnd.f kj76 t338).bind fun t352 => (if (t338.size : Int) = (mx (mx (wrap64 (t325 - 1)) 0) (t352.size : Int)) then (if t324 = 2 then (some true) else (some (decide ((t338.size : Int) ≤ 200)))) else (some false))) else (florinlaw04_ShowDigits.l0 kj76 1 0 t324 t325 t326 t327 t328 t329 t330 t331 t336 t337 t338))) else ((florinlaw04_trimEnd.f kj76 t338).bind fun t355 => (if (t338.size : Int) = (mx (mx (wrap64 (t325 - (t350.size : Int))) 0) (t355.size : Int)) then (if t324 = 2 then (some true) else (some (decide ((t338.size : Int) ≤ 200)))) else (some false)))) else ((florinlaw04_trimEnd.f kj76 t338).bind fun t356 => (if (t338.size : Int) = (mx t325 (t356.size : Int)) then (if t324 = 2 then (some true) else (some (decide ((t338.size : Int) ≤ 200)))) else (some false)))) = some r := by rw [if_neg (show ¬ (false = true) by decide)] at H; exact H
         clear H
         have H := H1
         clear H1
         by_cases c111 : t324 = 1
         ·rw [if_pos c111] at H
          have c111b0 : (t324 == 1) = true := beq_iff_eq.mpr c111
          have c111b1 : (t324 != 1) = false := bne_eq_false_iff_eq.mpr c111
          clear c111
          by_cases c112 : (t350.size : Int) = 0
          ·rw [if_pos c112] at H
           have c112b0 : ((t350.size : Int) == 0) = true := beq_iff_eq.mpr c112
           have c112b1 : ((t350.size : Int) != 0) = false := bne_eq_false_iff_eq.mpr c112
           clear c112
           replace H := Option.bind_eq_some_iff.mp H
           obtain ⟨t351, A1130, H⟩ := H
           replace H : (if t351 = true then ((florinlaw04_trimEnd.f kj76 t338).bind fun t352 => (if (t338.size : Int) = (mx (mx (wrap64 (t325 - 1)) 0) (t352.size : Int)) then (if t324 = 2 then (some true) else (some (decide ((t338.size : Int) ≤ 200)))) else (some false))) else (florinlaw04_ShowDigits.l0 kj76 1 0 t324 t325 t326 t327 t328 t329 t330 t331 t336 t337 t338)) = some r := H
           have A113 := Aside0.mk A1130
           clear A1130
           by_cases c114 : t351 = true
           ·subst c114
            have H1 : ((florinlaw04_trimEnd.f kj76 t338).bind fun t352 => (if (t338.size : Int) = (mx (mx (wrap64 (t325 - 1)) 0) (t352.size : Int)) then (if t324 = 2 then (some true) else (some (decide ((t338.size : Int) ≤ 200)))) else (some false))) = some r := by rw [if_pos rfl] at H; exact H
            clear H
            have H := H1
            clear H1
            obtain ⟨ji115, hji115⟩ : ∃ j_ : Int, (mx (wrap64 (t325 - 1)) 0) = j_ := ⟨_, rfl⟩
            replace H : ((florinlaw04_trimEnd.f kj76 t338).bind fun t352 => (if (t338.size : Int) = (mx (ji115) (t352.size : Int)) then (if t324 = 2 then (some true) else (some (decide ((t338.size : Int) ≤ 200)))) else (some false))) = some r := by first | (rw [hji115] at H; exact H) | (simp only [hji115] at H ⊢; exact H)
            (try rw [hji115] at A113)
            have hji115_ : (if (wrap64 (t325 - 1)) < 0 then 0 else (wrap64 (t325 - 1))) = ji115 := hji115
            replace H := Option.bind_eq_some_iff.mp H
            obtain ⟨t352, A1160, H⟩ := H
            replace H : (if (t338.size : Int) = (mx (ji115) (t352.size : Int)) then (if t324 = 2 then (some true) else (some (decide ((t338.size : Int) ≤ 200)))) else (some false)) = some r := H
            have A116 := Aside0.mk A1160
            clear A1160
            obtain ⟨ji117, hji117⟩ : ∃ j_ : Int, (mx (ji115) (t352.size : Int)) = j_ := ⟨_, rfl⟩
            replace H : (if (t338.size : Int) = (ji117) then (if t324 = 2 then (some true) else (some (decide ((t338.size : Int) ≤ 200)))) else (some false)) = some r := by first | (rw [hji117] at H; exact H) | (simp only [hji117] at H ⊢; exact H)
            (try rw [hji117] at A113)
            (try rw [hji117] at A116)
            have hji117_ : (if (ji115) < (t352.size : Int) then (t352.size : Int) else (ji115)) = ji117 := hji117
            by_cases c118 : (t338.size : Int) = (ji117)
            ·rw [if_pos c118] at H
             have c118b0 : ((t338.size : Int) == (ji117)) = true := beq_iff_eq.mpr c118
             have c118b1 : ((t338.size : Int) != (ji117)) = false := bne_eq_false_iff_eq.mpr c118
             clear c118
             by_cases c119 : t324 = 2
             ·rw [if_pos c119] at H
              have c119b0 : (t324 == 2) = true := beq_iff_eq.mpr c119
              have c119b1 : (t324 != 2) = false := bne_eq_false_iff_eq.mpr c119
              clear c119
              obtain rfl := Option.some.inj H
              have hnb120 := NB332_320.out
              have hnc120 := NB320_332.out
              have hnb121 := NB332_321.out
              have hnc121 := NB321_332.out
              have hnb122 := NB332_340.out
              have hnc122 := NB340_332.out
              have hnb123 := NB332_347.out
              have hnc123 := NB347_332.out
              obtain ⟨hcz124_0, hcz124_1, hcz124_2, hcz124_3, hcz124_4, hcz124_5, hcz124_6, hcz124_7, hfz124_0, hfz124_1, hfz124_2, hfz124_3, hfz124_4, hfz124_5, hfz124_6, hfz124_7⟩ := bo8_ BK332
              have hnb125 := NB347_320.out
              have hnc125 := NB320_347.out
              have hnb126 := NB347_321.out
              have hnc126 := NB321_347.out
              have hnb127 := NB347_340.out
              have hnc127 := NB340_347.out
              obtain ⟨hcz128_0, hcz128_1, hcz128_2, hfz128_0, hfz128_1, hfz128_2⟩ := bo3_ BK347
              try go_wp2_with (first | ((with_reducible refine gate_callee (f := 19) rfl ?_); refine gl_ (some 99) Tryd.func19 #[.agg #[.bool t344, .string t345, .int .i64 t346]] ?_; (with_reducible refine (dec_Dec_Zero.calls kj76 t344 t345 t346 true _ A113.out).mono ?_); rintro e w129 ⟨rfl, hb⟩; refine ⟨_, rfl, ?_⟩; replace BK320 := bb_ BK320 hb; replace BK321 := bb_ BK321 hb; replace BK332 := bb_ BK332 hb; replace BK340 := bb_ BK340 hb; replace BK347 := bb_ BK347 hb; replace HB := Aside0.mk (below_step (bl_ HB).out hb); (try clear hb); (try clear hb2); (try clear hk); (try clear hi); obtain ⟨hcz130_0, hcz130_1, hcz130_2, hcz130_3, hcz130_4, hcz130_5, hcz130_6, hcz130_7, hfz130_0, hfz130_1, hfz130_2, hfz130_3, hfz130_4, hfz130_5, hfz130_6, hfz130_7⟩ := bo8_ BK332))
              replace BK320 := Aside0.mk (blk_drew BK320.out)
              replace BK321 := Aside0.mk (blk_drew BK321.out)
              replace BK332 := Aside0.mk (blk_drew BK332.out)
              replace BK340 := Aside0.mk (blk_drew BK340.out)
              replace BK347 := Aside0.mk (blk_drew BK347.out)
              replace HB := Aside0.mk (below_drew1 HB.out)
              refine start_ (n := 22) (S := fun w' => w'.cell? ⟨gb340, 0, none⟩ = some (.bool t336) ∧ w'.cell? ⟨gb340, 1, none⟩ = some (.string t337) ∧ w'.cell? ⟨gb340, 2, none⟩ = some (.string t338) ∧ w'.cell? ⟨gb332, 0, none⟩ = some (.int .i64 t324) ∧ w'.cell? ⟨gb332, 1, none⟩ = some (.int .i64 t325) ∧ w'.cell? ⟨gb332, 2, none⟩ = some (.int .i64 t326) ∧ w'.cell? ⟨gb332, 3, none⟩ = some (.bool t327) ∧ w'.cell? ⟨gb332, 4, none⟩ = some (.string t328) ∧ w'.cell? ⟨gb332, 5, none⟩ = some (.int .i64 t329) ∧ w'.cell? ⟨gb332, 6, none⟩ = some (.int .i64 t330) ∧ w'.cell? ⟨gb332, 7, none⟩ = some (.int .i64 t331)) (ds := []) #[false, false, false, false, false, false, false, false, false, false, false, false, false, false, false, false, false, false, false, false, false, false] (by kernel_rfl) rfl rfl ⟨bc_ BK340 0, bc_ BK340 1, bc_ BK340 2, bc_ BK332 0, bc_ BK332 1, bc_ BK332 2, bc_ BK332 3, bc_ BK332 4, bc_ BK332 5, bc_ BK332 6, bc_ BK332 7⟩ (fun hHeld => ?_); refine with_tabW florinlaw04_ShowDigits.tab26 florinlaw04_ShowDigits.bits26 (fun HT_ HW_ => ?_)
              generalize w129.drew = w131 at BK320 BK321 BK332 BK340 BK347 HB hHeld ⊢
              refine pu_ 0 124 (bm_ 22 1) HT_ ?_
              refine pu_ 3 127 (bm_ 22 9) HT_ ?_
              refine pu_ 4 128 (bm_ 22 25) HT_ ?_
              refine tk_ 1 125 (bm_ 22 27) HT_ HW_ hHeld rfl (by rintro w' ⟨s0, s1, s2, s3, s4, s5, s6, s7, s8, s9, s10⟩; go_simp; with_reducible rfl) ?_
              refine pu_ 2 126 (bm_ 22 31) HT_ ?_
              refine tk_ 5 129 (bm_ 22 63) HT_ HW_ hHeld rfl (by rintro w' ⟨s0, s1, s2, s3, s4, s5, s6, s7, s8, s9, s10⟩; go_simp; with_reducible rfl) ?_
              refine one_ (i := 6) (N := some 130) (bm_ 22 127) rfl rfl (one_of HT_.out (by kernel_rfl)) (by decide) (fun K hK => ?_)
              refine gs_ Tryd.func20 #[.string t338] ?_
              with_reducible refine (florinlaw04_trimEnd.calls kj76 t338 t352 _ A116.out).mono ?_
              rintro e w' ⟨rfl, ⟨nd, rfl⟩⟩
              refine ⟨_, rfl, ?_⟩
              refine hK.out _ _ ⟨bc_ BK340 0, bc_ BK340 1, bc_ BK340 2, bc_ BK332 0, bc_ BK332 1, bc_ BK332 2, bc_ BK332 3, bc_ BK332 4, bc_ BK332 5, bc_ BK332 6, bc_ BK332 7⟩ (fun hHeld => ?_)
              clear hK K
              refine nm_ 130 ?_
              refine pu_ 7 131 (bm_ 22 255) HT_ ?_
              refine pu_ 8 132 (bm_ 22 511) HT_ ?_
              refine pu_ 9 133 (bm_ 22 1023) HT_ ?_
              refine pu_ 10 134 (bm_ 22 2047) HT_ ?_
              refine pu_ 11 135 (bm_ 22 4095) HT_ ?_
              refine tk_ 12 136 (bm_ 22 8191) HT_ HW_ hHeld rfl (by rintro w' ⟨s0, s1, s2, s3, s4, s5, s6, s7, s8, s9, s10⟩; go_simp; with_reducible rfl) ?_
              refine pu_ 13 137 (bm_ 22 16383) HT_ ?_
              refine pu_ 14 138 (bm_ 22 32767) HT_ ?_
              refine pn_ 15 139 (bm_ 22 65535) HT_ ?_
              refine pn_ 16 140 (bm_ 22 131071) HT_ ?_
              refine pn_ 17 141 (bm_ 22 262143) HT_ ?_
              refine pn_ 18 142 (bm_ 22 524287) HT_ ?_
              refine pu_ 19 143 (bm_ 22 1048575) HT_ ?_
              refine pu_ 20 144 (bm_ 22 2097151) HT_ ?_
              refine pu_ 21 4 (bm_ 22 4194303) HT_ ?_
              refine done_ (done_of HT_.out (by kernel_rfl)) ?_
              try go_wp2
              go_ret
              exact ⟨by first | rfl | (simp [errW_none, errW_some] <;> rfl) | (simp only [← hji76, ← hji115, ← hji117]; first | rfl | (simp [errW_none, errW_some] <;> rfl)) | (simp [*, errW_none, errW_some] <;> first | rfl | exact given_isEmpty _ | exact (given_isEmpty _).symm), by repeat (first | (with_reducible first | exact HB.out | apply below_alloc | apply pw_below_drewN | apply below_drew1 | refine below_set ?_ GE320.out | refine below_set ?_ GE321.out | refine below_set ?_ GE332.out | refine below_set ?_ GE340.out | refine below_set ?_ GE347.out) | exact HB.out)⟩
             ·rw [if_neg c119] at H
              have c119b0 : (t324 == 2) = false := beq_eq_false_iff_ne.mpr c119
              have c119b1 : (t324 != 2) = true := bne_iff_ne.mpr c119
              obtain rfl := Option.some.inj H
              have hnb132 := NB332_320.out
              have hnc132 := NB320_332.out
              have hnb133 := NB332_321.out
              have hnc133 := NB321_332.out
              have hnb134 := NB332_340.out
              have hnc134 := NB340_332.out
              have hnb135 := NB332_347.out
              have hnc135 := NB347_332.out
              obtain ⟨hcz136_0, hcz136_1, hcz136_2, hcz136_3, hcz136_4, hcz136_5, hcz136_6, hcz136_7, hfz136_0, hfz136_1, hfz136_2, hfz136_3, hfz136_4, hfz136_5, hfz136_6, hfz136_7⟩ := bo8_ BK332
              have hnb137 := NB347_320.out
              have hnc137 := NB320_347.out
              have hnb138 := NB347_321.out
              have hnc138 := NB321_347.out
              have hnb139 := NB347_340.out
              have hnc139 := NB340_347.out
              obtain ⟨hcz140_0, hcz140_1, hcz140_2, hfz140_0, hfz140_1, hfz140_2⟩ := bo3_ BK347
              try go_wp2_with (first | ((with_reducible refine gate_callee (f := 19) rfl ?_); refine gl_ (some 99) Tryd.func19 #[.agg #[.bool t344, .string t345, .int .i64 t346]] ?_; (with_reducible refine (dec_Dec_Zero.calls kj76 t344 t345 t346 true _ A113.out).mono ?_); rintro e w141 ⟨rfl, hb⟩; refine ⟨_, rfl, ?_⟩; replace BK320 := bb_ BK320 hb; replace BK321 := bb_ BK321 hb; replace BK332 := bb_ BK332 hb; replace BK340 := bb_ BK340 hb; replace BK347 := bb_ BK347 hb; replace HB := Aside0.mk (below_step (bl_ HB).out hb); (try clear hb); (try clear hb2); (try clear hk); (try clear hi); obtain ⟨hcz142_0, hcz142_1, hcz142_2, hcz142_3, hcz142_4, hcz142_5, hcz142_6, hcz142_7, hfz142_0, hfz142_1, hfz142_2, hfz142_3, hfz142_4, hfz142_5, hfz142_6, hfz142_7⟩ := bo8_ BK332))
              replace BK320 := Aside0.mk (blk_drew BK320.out)
              replace BK321 := Aside0.mk (blk_drew BK321.out)
              replace BK332 := Aside0.mk (blk_drew BK332.out)
              replace BK340 := Aside0.mk (blk_drew BK340.out)
              replace BK347 := Aside0.mk (blk_drew BK347.out)
              replace HB := Aside0.mk (below_drew1 HB.out)
              refine start_ (n := 22) (S := fun w' => w'.cell? ⟨gb340, 0, none⟩ = some (.bool t336) ∧ w'.cell? ⟨gb340, 1, none⟩ = some (.string t337) ∧ w'.cell? ⟨gb340, 2, none⟩ = some (.string t338) ∧ w'.cell? ⟨gb332, 0, none⟩ = some (.int .i64 t324) ∧ w'.cell? ⟨gb332, 1, none⟩ = some (.int .i64 t325) ∧ w'.cell? ⟨gb332, 2, none⟩ = some (.int .i64 t326) ∧ w'.cell? ⟨gb332, 3, none⟩ = some (.bool t327) ∧ w'.cell? ⟨gb332, 4, none⟩ = some (.string t328) ∧ w'.cell? ⟨gb332, 5, none⟩ = some (.int .i64 t329) ∧ w'.cell? ⟨gb332, 6, none⟩ = some (.int .i64 t330) ∧ w'.cell? ⟨gb332, 7, none⟩ = some (.int .i64 t331)) (ds := []) #[false, false, false, false, false, false, false, false, false, false, false, false, false, false, false, false, false, false, false, false, false, false] (by kernel_rfl) rfl rfl ⟨bc_ BK340 0, bc_ BK340 1, bc_ BK340 2, bc_ BK332 0, bc_ BK332 1, bc_ BK332 2, bc_ BK332 3, bc_ BK332 4, bc_ BK332 5, bc_ BK332 6, bc_ BK332 7⟩ (fun hHeld => ?_); refine with_tabW florinlaw04_ShowDigits.tab26 florinlaw04_ShowDigits.bits26 (fun HT_ HW_ => ?_)
              generalize w141.drew = w143 at BK320 BK321 BK332 BK340 BK347 HB hHeld ⊢
              refine pu_ 0 124 (bm_ 22 1) HT_ ?_
              refine pu_ 3 127 (bm_ 22 9) HT_ ?_
              refine pu_ 4 128 (bm_ 22 25) HT_ ?_
              refine tk_ 1 125 (bm_ 22 27) HT_ HW_ hHeld rfl (by rintro w' ⟨s0, s1, s2, s3, s4, s5, s6, s7, s8, s9, s10⟩; go_simp; with_reducible rfl) ?_
              refine pu_ 2 126 (bm_ 22 31) HT_ ?_
              refine tk_ 5 129 (bm_ 22 63) HT_ HW_ hHeld rfl (by rintro w' ⟨s0, s1, s2, s3, s4, s5, s6, s7, s8, s9, s10⟩; go_simp; with_reducible rfl) ?_
              refine one_ (i := 6) (N := some 130) (bm_ 22 127) rfl rfl (one_of HT_.out (by kernel_rfl)) (by decide) (fun K hK => ?_)
              refine gs_ Tryd.func20 #[.string t338] ?_
              with_reducible refine (florinlaw04_trimEnd.calls kj76 t338 t352 _ A116.out).mono ?_
              rintro e w' ⟨rfl, ⟨nd, rfl⟩⟩
              refine ⟨_, rfl, ?_⟩
              refine hK.out _ _ ⟨bc_ BK340 0, bc_ BK340 1, bc_ BK340 2, bc_ BK332 0, bc_ BK332 1, bc_ BK332 2, bc_ BK332 3, bc_ BK332 4, bc_ BK332 5, bc_ BK332 6, bc_ BK332 7⟩ (fun hHeld => ?_)
              clear hK K
              refine nm_ 130 ?_
              refine pu_ 7 131 (bm_ 22 255) HT_ ?_
              refine pu_ 8 132 (bm_ 22 511) HT_ ?_
              refine pu_ 9 133 (bm_ 22 1023) HT_ ?_
              refine pu_ 10 134 (bm_ 22 2047) HT_ ?_
              refine pu_ 11 135 (bm_ 22 4095) HT_ ?_
              refine tk_ 12 136 (bm_ 22 8191) HT_ HW_ hHeld rfl (by rintro w' ⟨s0, s1, s2, s3, s4, s5, s6, s7, s8, s9, s10⟩; go_simp; with_reducible rfl) ?_
              refine pu_ 13 137 (bm_ 22 16383) HT_ ?_
              refine pu_ 14 138 (bm_ 22 32767) HT_ ?_
              refine pu_ 15 139 (bm_ 22 65535) HT_ ?_
              refine tk_ 16 140 (bm_ 22 131071) HT_ HW_ hHeld rfl (by rintro w' ⟨s0, s1, s2, s3, s4, s5, s6, s7, s8, s9, s10⟩; go_simp; with_reducible rfl) ?_
              refine pu_ 17 141 (bm_ 22 262143) HT_ ?_
              refine pu_ 18 142 (bm_ 22 524287) HT_ ?_
              refine pu_ 19 143 (bm_ 22 1048575) HT_ ?_
              refine pu_ 20 144 (bm_ 22 2097151) HT_ ?_
              refine pu_ 21 4 (bm_ 22 4194303) HT_ ?_
              refine done_ (done_of HT_.out (by kernel_rfl)) ?_
              try go_wp2
              go_ret
              exact ⟨by first | rfl | (simp [errW_none, errW_some] <;> rfl) | (simp only [← hji76, ← hji115, ← hji117]; first | rfl | (simp [errW_none, errW_some] <;> rfl)) | (simp [*, errW_none, errW_some] <;> first | rfl | exact given_isEmpty _ | exact (given_isEmpty _).symm), by repeat (first | (with_reducible first | exact HB.out | apply below_alloc | apply pw_below_drewN | apply below_drew1 | refine below_set ?_ GE320.out | refine below_set ?_ GE321.out | refine below_set ?_ GE332.out | refine below_set ?_ GE340.out | refine below_set ?_ GE347.out) | exact HB.out)⟩
            ·rw [if_neg c118] at H
             have c118b0 : ((t338.size : Int) == (ji117)) = false := beq_eq_false_iff_ne.mpr c118
             have c118b1 : ((t338.size : Int) != (ji117)) = true := bne_iff_ne.mpr c118
             obtain rfl := Option.some.inj H
             have hnb144 := NB332_320.out
             have hnc144 := NB320_332.out
             have hnb145 := NB332_321.out
             have hnc145 := NB321_332.out
             have hnb146 := NB332_340.out
             have hnc146 := NB340_332.out
             have hnb147 := NB332_347.out
             have hnc147 := NB347_332.out
             obtain ⟨hcz148_0, hcz148_1, hcz148_2, hcz148_3, hcz148_4, hcz148_5, hcz148_6, hcz148_7, hfz148_0, hfz148_1, hfz148_2, hfz148_3, hfz148_4, hfz148_5, hfz148_6, hfz148_7⟩ := bo8_ BK332
             have hnb149 := NB347_320.out
             have hnc149 := NB320_347.out
             have hnb150 := NB347_321.out
             have hnc150 := NB321_347.out
             have hnb151 := NB347_340.out
             have hnc151 := NB340_347.out
             obtain ⟨hcz152_0, hcz152_1, hcz152_2, hfz152_0, hfz152_1, hfz152_2⟩ := bo3_ BK347
             try go_wp2_with (first | ((with_reducible refine gate_callee (f := 19) rfl ?_); refine gl_ (some 99) Tryd.func19 #[.agg #[.bool t344, .string t345, .int .i64 t346]] ?_; (with_reducible refine (dec_Dec_Zero.calls kj76 t344 t345 t346 true _ A113.out).mono ?_); rintro e w153 ⟨rfl, hb⟩; refine ⟨_, rfl, ?_⟩; replace BK320 := bb_ BK320 hb; replace BK321 := bb_ BK321 hb; replace BK332 := bb_ BK332 hb; replace BK340 := bb_ BK340 hb; replace BK347 := bb_ BK347 hb; replace HB := Aside0.mk (below_step (bl_ HB).out hb); (try clear hb); (try clear hb2); (try clear hk); (try clear hi); obtain ⟨hcz154_0, hcz154_1, hcz154_2, hcz154_3, hcz154_4, hcz154_5, hcz154_6, hcz154_7, hfz154_0, hfz154_1, hfz154_2, hfz154_3, hfz154_4, hfz154_5, hfz154_6, hfz154_7⟩ := bo8_ BK332))
             replace BK320 := Aside0.mk (blk_drew BK320.out)
             replace BK321 := Aside0.mk (blk_drew BK321.out)
             replace BK332 := Aside0.mk (blk_drew BK332.out)
             replace BK340 := Aside0.mk (blk_drew BK340.out)
             replace BK347 := Aside0.mk (blk_drew BK347.out)
             replace HB := Aside0.mk (below_drew1 HB.out)
             refine start_ (n := 22) (S := fun w' => w'.cell? ⟨gb340, 0, none⟩ = some (.bool t336) ∧ w'.cell? ⟨gb340, 1, none⟩ = some (.string t337) ∧ w'.cell? ⟨gb340, 2, none⟩ = some (.string t338)) (ds := []) #[false, false, false, false, false, false, false, false, false, false, false, false, false, false, false, false, false, false, false, false, false, false] (by kernel_rfl) rfl rfl ⟨bc_ BK340 0, bc_ BK340 1, bc_ BK340 2⟩ (fun hHeld => ?_); refine with_tabW florinlaw04_ShowDigits.tab26 florinlaw04_ShowDigits.bits26 (fun HT_ HW_ => ?_)
             generalize w153.drew = w155 at BK320 BK321 BK332 BK340 BK347 HB hHeld ⊢
             refine pu_ 0 124 (bm_ 22 1) HT_ ?_
             refine pu_ 3 127 (bm_ 22 9) HT_ ?_
             refine pu_ 4 128 (bm_ 22 25) HT_ ?_
             refine tk_ 1 125 (bm_ 22 27) HT_ HW_ hHeld rfl (by rintro w' ⟨s0, s1, s2⟩; go_simp; with_reducible rfl) ?_
             refine pu_ 2 126 (bm_ 22 31) HT_ ?_
             refine tk_ 5 129 (bm_ 22 63) HT_ HW_ hHeld rfl (by rintro w' ⟨s0, s1, s2⟩; go_simp; with_reducible rfl) ?_
             refine one_ (i := 6) (N := some 130) (bm_ 22 127) rfl rfl (one_of HT_.out (by kernel_rfl)) (by decide) (fun K hK => ?_)
             refine gs_ Tryd.func20 #[.string t338] ?_
             with_reducible refine (florinlaw04_trimEnd.calls kj76 t338 t352 _ A116.out).mono ?_
             rintro e w' ⟨rfl, ⟨nd, rfl⟩⟩
             refine ⟨_, rfl, ?_⟩
             refine hK.out _ _ ⟨bc_ BK340 0, bc_ BK340 1, bc_ BK340 2⟩ (fun hHeld => ?_)
             clear hK K
             refine nm_ 130 ?_
             refine pu_ 7 131 (bm_ 22 255) HT_ ?_
             refine pu_ 8 132 (bm_ 22 511) HT_ ?_
             refine pu_ 9 133 (bm_ 22 1023) HT_ ?_
             refine pu_ 10 134 (bm_ 22 2047) HT_ ?_
             refine pn_ 11 135 (bm_ 22 4095) HT_ ?_
             refine pn_ 12 136 (bm_ 22 8191) HT_ ?_
             refine pn_ 13 137 (bm_ 22 16383) HT_ ?_
             refine pn_ 14 138 (bm_ 22 32767) HT_ ?_
             refine pn_ 15 139 (bm_ 22 65535) HT_ ?_
             refine pn_ 16 140 (bm_ 22 131071) HT_ ?_
             refine pn_ 17 141 (bm_ 22 262143) HT_ ?_
             refine pn_ 18 142 (bm_ 22 524287) HT_ ?_
             refine pn_ 19 143 (bm_ 22 1048575) HT_ ?_
             refine pu_ 20 144 (bm_ 22 2097151) HT_ ?_
             refine pu_ 21 4 (bm_ 22 4194303) HT_ ?_
             refine done_ (done_of HT_.out (by kernel_rfl)) ?_
             try go_wp2
             go_ret
             exact ⟨by first | rfl | (simp [errW_none, errW_some] <;> rfl) | (simp only [← hji76, ← hji115, ← hji117]; first | rfl | (simp [errW_none, errW_some] <;> rfl)) | (simp [*, errW_none, errW_some] <;> first | rfl | exact given_isEmpty _ | exact (given_isEmpty _).symm), by repeat (first | (with_reducible first | exact HB.out | apply below_alloc | apply pw_below_drewN | apply below_drew1 | refine below_set ?_ GE320.out | refine below_set ?_ GE321.out | refine below_set ?_ GE332.out | refine below_set ?_ GE340.out | refine below_set ?_ GE347.out) | exact HB.out)⟩
           ·replace c114 := Bool.eq_false_iff.mpr c114
            subst c114
            have H1 : (florinlaw04_ShowDigits.l0 kj76 1 0 t324 t325 t326 t327 t328 t329 t330 t331 t336 t337 t338) = some r := by rw [if_neg (show ¬ (false = true) by decide)] at H; exact H
            clear H
            have H := H1
            clear H1
            have H' := Aside0.mk H
            clear H
            have hnb156 := NB332_320.out
            have hnc156 := NB320_332.out
            have hnb157 := NB332_321.out
            have hnc157 := NB321_332.out
            have hnb158 := NB332_340.out
            have hnc158 := NB340_332.out
            have hnb159 := NB332_347.out
            have hnc159 := NB347_332.out
            obtain ⟨hcz160_0, hcz160_1, hcz160_2, hcz160_3, hcz160_4, hcz160_5, hcz160_6, hcz160_7, hfz160_0, hfz160_1, hfz160_2, hfz160_3, hfz160_4, hfz160_5, hfz160_6, hfz160_7⟩ := bo8_ BK332
            have hnb161 := NB347_320.out
            have hnc161 := NB320_347.out
            have hnb162 := NB347_321.out
            have hnc162 := NB321_347.out
            have hnb163 := NB347_340.out
            have hnc163 := NB340_347.out
            obtain ⟨hcz164_0, hcz164_1, hcz164_2, hfz164_0, hfz164_1, hfz164_2⟩ := bo3_ BK347
            go_wp2_with (first | ((with_reducible refine gate_callee (f := 19) rfl ?_); refine gl_ (some 99) Tryd.func19 #[.agg #[.bool t344, .string t345, .int .i64 t346]] ?_; (with_reducible refine (dec_Dec_Zero.calls kj76 t344 t345 t346 false _ A113.out).mono ?_); rintro e w165 ⟨rfl, hb⟩; refine ⟨_, rfl, ?_⟩; replace BK320 := bb_ BK320 hb; replace BK321 := bb_ BK321 hb; replace BK332 := bb_ BK332 hb; replace BK340 := bb_ BK340 hb; replace BK347 := bb_ BK347 hb; replace HB := Aside0.mk (below_step (bl_ HB).out hb); (try clear hb); (try clear hb2); (try clear hk); (try clear hi)))
            go_loopg [12, 13] kj76 (fun kq v12 v13 w' => ∃ (x12_3 : Int) (x13_3 : Int), v12 = .int .i64 x12_3 ∧ v13 = .int .i64 x13_3 ∧ Aside0 (florinlaw04_ShowDigits.l0 kq x12_3 x13_3 t324 t325 t326 t327 t328 t329 t330 t331 t336 t337 t338 = some r) ∧ Aside0 (kq ≤ kj76) ∧ Aside0 (w'.heap[gb320]? = some (.cells #[.bool a0_0, (.slice A0_1 l0_1.length c0_1), .int .i64 a0_2] 24 (0, 0))) ∧ Aside0 (w'.heap[gb321]? = some (.cells #[.int .i64 a1_0, .int .i64 a1_1, .int .i64 a1_2, .int .i64 a1_3, .int .i64 a1_4, .int .i64 a1_5, .int .i64 a1_6] 42 (0, 0))) ∧ Aside0 (w'.heap[gb332]? = some (.cells #[.int .i64 t324, .int .i64 t325, .int .i64 t326, .bool t327, .string t328, .int .i64 t329, .int .i64 t330, .int .i64 t331] 32 (0, 0))) ∧ Aside0 (w'.heap[gb340]? = some (.cells #[.bool t336, .string t337, .string t338] 35 (0, 0))) ∧ Aside0 (w'.heap[gb347]? = some (.cells #[.bool t344, .string t345, .int .i64 t346] 29 (0, 0))) ∧ Aside0 (Below w.heap.size w w'))
            case atStart => exact ⟨(1), (0), eq_, eq_, H', ⟨Nat.le_refl _⟩, (bk_ BK320), (bk_ BK321), (bk_ BK332), (bk_ BK340), (bk_ BK347), (bl_ HB)⟩
            case round =>
             clear H'
             try clear c1
             try clear c2
             try clear p2
             try clear p6
             try clear c11
             try clear c13
             try clear c14
             try clear c15
             try clear c16
             try clear c19
             try clear c20
             try clear p64
             try clear c114
             try clear c118
             try clear c118b0
             try clear c118b1
             try clear c119
             try clear c119b0
             try clear c119b1
             try clear c132
             try clear c133
             try clear c134
             try clear c135
             try clear c137
             try clear c138
             try clear c139
             try clear c144
             try clear c145
             try clear c146
             try clear c147
             try clear c149
             try clear c150
             try clear c151
             try clear c156
             try clear c157
             try clear c158
             try clear c159
             try clear c161
             try clear c162
             try clear c163
             try clear hcz136_0
             try clear hcz136_1
             try clear hcz136_2
             try clear hcz136_3
             try clear hcz136_4
             try clear hcz136_5
             try clear hcz136_6
             try clear hcz136_7
             try clear hcz140_0
             try clear hcz140_1
             try clear hcz140_2
             try clear hcz142_0
             try clear hcz142_1
             try clear hcz142_2
             try clear hcz142_3
             try clear hcz142_4
             try clear hcz142_5
             try clear hcz142_6
             try clear hcz142_7
             try clear hcz148_0
             try clear hcz148_1
             try clear hcz148_2
             try clear hcz148_3
             try clear hcz148_4
             try clear hcz148_5
             try clear hcz148_6
             try clear hcz148_7
             try clear hcz152_0
             try clear hcz152_1
             try clear hcz152_2
             try clear hcz154_0
             try clear hcz154_1
             try clear hcz154_2
             try clear hcz154_3
             try clear hcz154_4
             try clear hcz154_5
             try clear hcz154_6
             try clear hcz154_7
             try clear hcz160_0
             try clear hcz160_1
             try clear hcz160_2
             try clear hcz160_3
             try clear hcz160_4
             try clear hcz160_5
             try clear hcz160_6
             try clear hcz160_7
             try clear hcz164_0
             try clear hcz164_1
             try clear hcz164_2
             try clear hfz136_0
             try clear hfz136_1
             try clear hfz136_2
             try clear hfz136_3
             try clear hfz136_4
             try clear hfz136_5
             try clear hfz136_6
             try clear hfz136_7
             try clear hfz140_0
             try clear hfz140_1
             try clear hfz140_2
             try clear hfz142_0
             try clear hfz142_1
             try clear hfz142_2
             try clear hfz142_3
             try clear hfz142_4
             try clear hfz142_5
             try clear hfz142_6
             try clear hfz142_7
             try clear hfz148_0
             try clear hfz148_1
             try clear hfz148_2
             try clear hfz148_3
             try clear hfz148_4
             try clear hfz148_5
             try clear hfz148_6
             try clear hfz148_7
             try clear hfz152_0
             try clear hfz152_1
             try clear hfz152_2
             try clear hfz154_0
             try clear hfz154_1
             try clear hfz154_2
             try clear hfz154_3
             try clear hfz154_4
             try clear hfz154_5
             try clear hfz154_6
             try clear hfz154_7
             try clear hfz160_0
             try clear hfz160_1
             try clear hfz160_2
             try clear hfz160_3
             try clear hfz160_4
             try clear hfz160_5
             try clear hfz160_6
             try clear hfz160_7
             try clear hfz164_0
             try clear hfz164_1
             try clear hfz164_2
             obtain ⟨x12_3, x13_3, rfl, rfl, HA, HK3, BK320, BK321, BK332, BK340, BK347, HB⟩ := hrel
             cases gk with
             | zero => exact absurd HA.out (by simp [florinlaw04_ShowDigits.l0])
             | succ k3 =>
              have H := HA.out
              clear HA
              simp only [florinlaw04_ShowDigits.l0] at H
              by_cases c166 : x13_3 < (t338.size : Int)
              ·rw [if_pos c166] at H
               have c166b0 : decide (x13_3 < (t338.size : Int)) = true := decide_eq_true c166
               clear c166
               by_cases c167 : 0 ≤ x13_3
               ·rw [if_pos c167] at H
                have c167b0 : decide (0 ≤ x13_3) = true := decide_eq_true c167
                clear c167
                by_cases c169 : (bt t338 x13_3) = 48
                ·rw [if_pos c169] at H
                 have c169b0 : ((bt t338 x13_3) == 48) = true := beq_iff_eq.mpr c169
                 have c169b1 : ((bt t338 x13_3) != 48) = false := bne_eq_false_iff_eq.mpr c169
                 clear c169
                 have H' := Aside0.mk H
                 clear H
                 have hnb170 := NB340_320.out
                 have hnc170 := NB320_340.out
                 have hnb171 := NB340_321.out
                 have hnc171 := NB321_340.out
                 have hnb172 := NB340_332.out
                 have hnc172 := NB332_340.out
                 have hnb173 := NB340_347.out
                 have hnc173 := NB347_340.out
                 obtain ⟨hcz174_0, hcz174_1, hcz174_2, hfz174_0, hfz174_1, hfz174_2⟩ := bo3_ BK340
                 have p168 : 0 ≤ (x13_3 : Int) := of_decide_eq_true (by first | (with_reducible assumption) | assumption)
                 have q168 : x13_3 < (t338.size : Int) := of_decide_eq_true (by first | (with_reducible assumption) | assumption)
                 have hx168 := bt_at t338 x13_3
                 replace p168 := eq_true p168
                 replace q168 := eq_true q168
                 go_wp2
                 go_roundg k3
                 case measure => have := HJ11.out; have := HJ76.out; have := HK3.out; omega
                 case rel => exact ⟨(wrap64 (x12_3 - 1)), (wrap64 (x13_3 + 1)), eq_, eq_, H', ⟨by have := HJ11.out; have := HJ76.out; have := HK3.out; omega⟩, (bk_ BK320), (bk_ BK321), (bk_ BK332), (bk_ BK340), (bk_ BK347), (bl_ HB)⟩
                ·rw [if_neg c169] at H
                 have c169b0 : ((bt t338 x13_3) == 48) = false := beq_eq_false_iff_ne.mpr c169
                 have c169b1 : ((bt t338 x13_3) != 48) = true := bne_iff_ne.mpr c169
                 obtain ⟨ji175, hji175⟩ : ∃ j_ : Int, (mx (wrap64 (t325 - (wrap64 (x12_3 - 1)))) 0) = j_ := ⟨_, rfl⟩
                 replace H : ((florinlaw04_trimEnd.f k3 t338).bind fun t353 => (if (t338.size : Int) = (mx (ji175) (t353.size : Int)) then (if t324 = 2 then (some true) else (some (decide ((t338.size : Int) ≤ 200)))) else (some false))) = some r := by first | (rw [hji175] at H; exact H) | (simp only [hji175] at H ⊢; exact H)
                 have hji175_ : (if (wrap64 (t325 - (wrap64 (x12_3 - 1)))) < 0 then 0 else (wrap64 (t325 - (wrap64 (x12_3 - 1))))) = ji175 := hji175
                 replace H := Option.bind_eq_some_iff.mp H
                 obtain ⟨t353, A1760, H⟩ := H
                 replace H : (if (t338.size : Int) = (mx (ji175) (t353.size : Int)) then (if t324 = 2 then (some true) else (some (decide ((t338.size : Int) ≤ 200)))) else (some false)) = some r := H
                 have A176 := Aside0.mk A1760
                 clear A1760
                 obtain ⟨ji177, hji177⟩ : ∃ j_ : Int, (mx (ji175) (t353.size : Int)) = j_ := ⟨_, rfl⟩
                 replace H : (if (t338.size : Int) = (ji177) then (if t324 = 2 then (some true) else (some (decide ((t338.size : Int) ≤ 200)))) else (some false)) = some r := by first | (rw [hji177] at H; exact H) | (simp only [hji177] at H ⊢; exact H)
                 (try rw [hji177] at A176)
                 have hji177_ : (if (ji175) < (t353.size : Int) then (t353.size : Int) else (ji175)) = ji177 := hji177
                 by_cases c178 : (t338.size : Int) = (ji177)
                 ·rw [if_pos c178] at H
                  have c178b0 : ((t338.size : Int) == (ji177)) = true := beq_iff_eq.mpr c178
                  have c178b1 : ((t338.size : Int) != (ji177)) = false := bne_eq_false_iff_eq.mpr c178
                  clear c178
                  by_cases c179 : t324 = 2
                  ·rw [if_pos c179] at H
                   have c179b0 : (t324 == 2) = true := beq_iff_eq.mpr c179
                   have c179b1 : (t324 != 2) = false := bne_eq_false_iff_eq.mpr c179
                   clear c179
                   obtain rfl := Option.some.inj H
                   have hnb180 := NB340_320.out
                   have hnc180 := NB320_340.out
                   have hnb181 := NB340_321.out
                   have hnc181 := NB321_340.out
                   have hnb182 := NB340_332.out
                   have hnc182 := NB332_340.out
                   have hnb183 := NB340_347.out
                   have hnc183 := NB347_340.out
                   obtain ⟨hcz184_0, hcz184_1, hcz184_2, hfz184_0, hfz184_1, hfz184_2⟩ := bo3_ BK340
                   have p168 : 0 ≤ (x13_3 : Int) := of_decide_eq_true (by first | (with_reducible assumption) | assumption)
                   have q168 : x13_3 < (t338.size : Int) := of_decide_eq_true (by first | (with_reducible assumption) | assumption)
                   have hx168 := bt_at t338 x13_3
                   replace p168 := eq_true p168
                   replace q168 := eq_true q168
                   have hnb185 := NB332_320.out
                   have hnc185 := NB320_332.out
                   have hnb186 := NB332_321.out
                   have hnc186 := NB321_332.out
                   have hnb187 := NB332_347.out
                   have hnc187 := NB347_332.out
                   obtain ⟨hcz188_0, hcz188_1, hcz188_2, hcz188_3, hcz188_4, hcz188_5, hcz188_6, hcz188_7, hfz188_0, hfz188_1, hfz188_2, hfz188_3, hfz188_4, hfz188_5, hfz188_6, hfz188_7⟩ := bo8_ BK332
                   try go_wp2
                   replace BK320 := Aside0.mk (blk_drew BK320.out)
                   replace BK321 := Aside0.mk (blk_drew BK321.out)
                   replace BK332 := Aside0.mk (blk_drew BK332.out)
                   replace BK340 := Aside0.mk (blk_drew BK340.out)
                   replace BK347 := Aside0.mk (blk_drew BK347.out)
                   replace HB := Aside0.mk (below_drew1 HB.out)
                   refine start_ (n := 22) (S := fun w' => w'.cell? ⟨gb340, 0, none⟩ = some (.bool t336) ∧ w'.cell? ⟨gb340, 1, none⟩ = some (.string t337) ∧ w'.cell? ⟨gb340, 2, none⟩ = some (.string t338) ∧ w'.cell? ⟨gb332, 0, none⟩ = some (.int .i64 t324) ∧ w'.cell? ⟨gb332, 1, none⟩ = some (.int .i64 t325) ∧ w'.cell? ⟨gb332, 2, none⟩ = some (.int .i64 t326) ∧ w'.cell? ⟨gb332, 3, none⟩ = some (.bool t327) ∧ w'.cell? ⟨gb332, 4, none⟩ = some (.string t328) ∧ w'.cell? ⟨gb332, 5, none⟩ = some (.int .i64 t329) ∧ w'.cell? ⟨gb332, 6, none⟩ = some (.int .i64 t330) ∧ w'.cell? ⟨gb332, 7, none⟩ = some (.int .i64 t331)) (ds := []) #[false, false, false, false, false, false, false, false, false, false, false, false, false, false, false, false, false, false, false, false, false, false] (by kernel_rfl) rfl rfl ⟨bc_ BK340 0, bc_ BK340 1, bc_ BK340 2, bc_ BK332 0, bc_ BK332 1, bc_ BK332 2, bc_ BK332 3, bc_ BK332 4, bc_ BK332 5, bc_ BK332 6, bc_ BK332 7⟩ (fun hHeld => ?_); refine with_tabW florinlaw04_ShowDigits.tab26 florinlaw04_ShowDigits.bits26 (fun HT_ HW_ => ?_)
                   generalize wr.drew = w189 at BK320 BK321 BK332 BK340 BK347 HB hHeld ⊢
                   refine pu_ 0 124 (bm_ 22 1) HT_ ?_
                   refine pu_ 3 127 (bm_ 22 9) HT_ ?_
                   refine pu_ 4 128 (bm_ 22 25) HT_ ?_
                   refine tk_ 1 125 (bm_ 22 27) HT_ HW_ hHeld rfl (by rintro w' ⟨s0, s1, s2, s3, s4, s5, s6, s7, s8, s9, s10⟩; go_simp; with_reducible rfl) ?_
                   refine pu_ 2 126 (bm_ 22 31) HT_ ?_
                   refine tk_ 5 129 (bm_ 22 63) HT_ HW_ hHeld rfl (by rintro w' ⟨s0, s1, s2, s3, s4, s5, s6, s7, s8, s9, s10⟩; go_simp; with_reducible rfl) ?_
                   refine one_ (i := 6) (N := some 130) (bm_ 22 127) rfl rfl (one_of HT_.out (by kernel_rfl)) (by decide) (fun K hK => ?_)
                   refine gs_ Tryd.func20 #[.string t338] ?_
                   with_reducible refine (florinlaw04_trimEnd.calls k3 t338 t353 _ A176.out).mono ?_
                   rintro e w' ⟨rfl, ⟨nd, rfl⟩⟩
                   refine ⟨_, rfl, ?_⟩
                   refine hK.out _ _ ⟨bc_ BK340 0, bc_ BK340 1, bc_ BK340 2, bc_ BK332 0, bc_ BK332 1, bc_ BK332 2, bc_ BK332 3, bc_ BK332 4, bc_ BK332 5, bc_ BK332 6, bc_ BK332 7⟩ (fun hHeld => ?_)
                   clear hK K
                   refine nm_ 130 ?_
                   refine pu_ 7 131 (bm_ 22 255) HT_ ?_
                   refine pu_ 8 132 (bm_ 22 511) HT_ ?_
                   refine pu_ 9 133 (bm_ 22 1023) HT_ ?_
                   refine pu_ 10 134 (bm_ 22 2047) HT_ ?_
                   refine pu_ 11 135 (bm_ 22 4095) HT_ ?_
                   refine tk_ 12 136 (bm_ 22 8191) HT_ HW_ hHeld rfl (by rintro w' ⟨s0, s1, s2, s3, s4, s5, s6, s7, s8, s9, s10⟩; go_simp; with_reducible rfl) ?_
                   refine pu_ 13 137 (bm_ 22 16383) HT_ ?_
                   refine pu_ 14 138 (bm_ 22 32767) HT_ ?_
                   refine pn_ 15 139 (bm_ 22 65535) HT_ ?_
                   refine pn_ 16 140 (bm_ 22 131071) HT_ ?_
                   refine pn_ 17 141 (bm_ 22 262143) HT_ ?_
                   refine pn_ 18 142 (bm_ 22 524287) HT_ ?_
                   refine pu_ 19 143 (bm_ 22 1048575) HT_ ?_
                   refine pu_ 20 144 (bm_ 22 2097151) HT_ ?_
                   refine pu_ 21 4 (bm_ 22 4194303) HT_ ?_
                   refine done_ (done_of HT_.out (by kernel_rfl)) ?_
                   try go_wp2
                   go_ret
                   exact ⟨by first | rfl | (simp [errW_none, errW_some] <;> rfl) | (simp only [← hji76, ← hji175, ← hji177]; first | rfl | (simp [errW_none, errW_some] <;> rfl)) | (simp [*, errW_none, errW_some] <;> first | rfl | exact given_isEmpty _ | exact (given_isEmpty _).symm), by repeat (first | (with_reducible first | exact HB.out | apply below_alloc | apply pw_below_drewN | apply below_drew1 | refine below_set ?_ GE320.out | refine below_set ?_ GE321.out | refine below_set ?_ GE332.out | refine below_set ?_ GE340.out | refine below_set ?_ GE347.out) | exact HB.out)⟩
                  ·rw [if_neg c179] at H
                   have c179b0 : (t324 == 2) = false := beq_eq_false_iff_ne.mpr c179
                   have c179b1 : (t324 != 2) = true := bne_iff_ne.mpr c179
                   obtain rfl := Option.some.inj H
                   have hnb190 := NB340_320.out
                   have hnc190 := NB320_340.out
                   have hnb191 := NB340_321.out
                   have hnc191 := NB321_340.out
                   have hnb192 := NB340_332.out
                   have hnc192 := NB332_340.out
                   have hnb193 := NB340_347.out
                   have hnc193 := NB347_340.out
                   obtain ⟨hcz194_0, hcz194_1, hcz194_2, hfz194_0, hfz194_1, hfz194_2⟩ := bo3_ BK340
                   have p168 : 0 ≤ (x13_3 : Int) := of_decide_eq_true (by first | (with_reducible assumption) | assumption)
                   have q168 : x13_3 < (t338.size : Int) := of_decide_eq_true (by first | (with_reducible assumption) | assumption)
                   have hx168 := bt_at t338 x13_3
                   replace p168 := eq_true p168
                   replace q168 := eq_true q168
                   have hnb195 := NB332_320.out
                   have hnc195 := NB320_332.out
                   have hnb196 := NB332_321.out
                   have hnc196 := NB321_332.out
                   have hnb197 := NB332_347.out
                   have hnc197 := NB347_332.out
                   obtain ⟨hcz198_0, hcz198_1, hcz198_2, hcz198_3, hcz198_4, hcz198_5, hcz198_6, hcz198_7, hfz198_0, hfz198_1, hfz198_2, hfz198_3, hfz198_4, hfz198_5, hfz198_6, hfz198_7⟩ := bo8_ BK332
                   try go_wp2
                   replace BK320 := Aside0.mk (blk_drew BK320.out)
                   replace BK321 := Aside0.mk (blk_drew BK321.out)
                   replace BK332 := Aside0.mk (blk_drew BK332.out)
                   replace BK340 := Aside0.mk (blk_drew BK340.out)
                   replace BK347 := Aside0.mk (blk_drew BK347.out)
                   replace HB := Aside0.mk (below_drew1 HB.out)
                   refine start_ (n := 22) (S := fun w' => w'.cell? ⟨gb340, 0, none⟩ = some (.bool t336) ∧ w'.cell? ⟨gb340, 1, none⟩ = some (.string t337) ∧ w'.cell? ⟨gb340, 2, none⟩ = some (.string t338) ∧ w'.cell? ⟨gb332, 0, none⟩ = some (.int .i64 t324) ∧ w'.cell? ⟨gb332, 1, none⟩ = some (.int .i64 t325) ∧ w'.cell? ⟨gb332, 2, none⟩ = some (.int .i64 t326) ∧ w'.cell? ⟨gb332, 3, none⟩ = some (.bool t327) ∧ w'.cell? ⟨gb332, 4, none⟩ = some (.string t328) ∧ w'.cell? ⟨gb332, 5, none⟩ = some (.int .i64 t329) ∧ w'.cell? ⟨gb332, 6, none⟩ = some (.int .i64 t330) ∧ w'.cell? ⟨gb332, 7, none⟩ = some (.int .i64 t331)) (ds := []) #[false, false, false, false, false, false, false, false, false, false, false, false, false, false, false, false, false, false, false, false, false, false] (by kernel_rfl) rfl rfl ⟨bc_ BK340 0, bc_ BK340 1, bc_ BK340 2, bc_ BK332 0, bc_ BK332 1, bc_ BK332 2, bc_ BK332 3, bc_ BK332 4, bc_ BK332 5, bc_ BK332 6, bc_ BK332 7⟩ (fun hHeld => ?_); refine with_tabW florinlaw04_ShowDigits.tab26 florinlaw04_ShowDigits.bits26 (fun HT_ HW_ => ?_)
                   generalize wr.drew = w199 at BK320 BK321 BK332 BK340 BK347 HB hHeld ⊢
                   refine pu_ 0 124 (bm_ 22 1) HT_ ?_
                   refine pu_ 3 127 (bm_ 22 9) HT_ ?_
                   refine pu_ 4 128 (bm_ 22 25) HT_ ?_
                   refine tk_ 1 125 (bm_ 22 27) HT_ HW_ hHeld rfl (by rintro w' ⟨s0, s1, s2, s3, s4, s5, s6, s7, s8, s9, s10⟩; go_simp; with_reducible rfl) ?_
                   refine pu_ 2 126 (bm_ 22 31) HT_ ?_
                   refine tk_ 5 129 (bm_ 22 63) HT_ HW_ hHeld rfl (by rintro w' ⟨s0, s1, s2, s3, s4, s5, s6, s7, s8, s9, s10⟩; go_simp; with_reducible rfl) ?_
                   refine one_ (i := 6) (N := some 130) (bm_ 22 127) rfl rfl (one_of HT_.out (by kernel_rfl)) (by decide) (fun K hK => ?_)
                   refine gs_ Tryd.func20 #[.string t338] ?_
                   with_reducible refine (florinlaw04_trimEnd.calls k3 t338 t353 _ A176.out).mono ?_
                   rintro e w' ⟨rfl, ⟨nd, rfl⟩⟩
                   refine ⟨_, rfl, ?_⟩
                   refine hK.out _ _ ⟨bc_ BK340 0, bc_ BK340 1, bc_ BK340 2, bc_ BK332 0, bc_ BK332 1, bc_ BK332 2, bc_ BK332 3, bc_ BK332 4, bc_ BK332 5, bc_ BK332 6, bc_ BK332 7⟩ (fun hHeld => ?_)
                   clear hK K
                   refine nm_ 130 ?_
                   refine pu_ 7 131 (bm_ 22 255) HT_ ?_
                   refine pu_ 8 132 (bm_ 22 511) HT_ ?_
                   refine pu_ 9 133 (bm_ 22 1023) HT_ ?_
                   refine pu_ 10 134 (bm_ 22 2047) HT_ ?_
                   refine pu_ 11 135 (bm_ 22 4095) HT_ ?_
                   refine tk_ 12 136 (bm_ 22 8191) HT_ HW_ hHeld rfl (by rintro w' ⟨s0, s1, s2, s3, s4, s5, s6, s7, s8, s9, s10⟩; go_simp; with_reducible rfl) ?_
                   refine pu_ 13 137 (bm_ 22 16383) HT_ ?_
                   refine pu_ 14 138 (bm_ 22 32767) HT_ ?_
                   refine pu_ 15 139 (bm_ 22 65535) HT_ ?_
                   refine tk_ 16 140 (bm_ 22 131071) HT_ HW_ hHeld rfl (by rintro w' ⟨s0, s1, s2, s3, s4, s5, s6, s7, s8, s9, s10⟩; go_simp; with_reducible rfl) ?_
                   refine pu_ 17 141 (bm_ 22 262143) HT_ ?_
                   refine pu_ 18 142 (bm_ 22 524287) HT_ ?_
                   refine pu_ 19 143 (bm_ 22 1048575) HT_ ?_
                   refine pu_ 20 144 (bm_ 22 2097151) HT_ ?_
                   refine pu_ 21 4 (bm_ 22 4194303) HT_ ?_
                   refine done_ (done_of HT_.out (by kernel_rfl)) ?_
                   try go_wp2
                   go_ret
                   exact ⟨by first | rfl | (simp [errW_none, errW_some] <;> rfl) | (simp only [← hji76, ← hji175, ← hji177]; first | rfl | (simp [errW_none, errW_some] <;> rfl)) | (simp [*, errW_none, errW_some] <;> first | rfl | exact given_isEmpty _ | exact (given_isEmpty _).symm), by repeat (first | (with_reducible first | exact HB.out | apply below_alloc | apply pw_below_drewN | apply below_drew1 | refine below_set ?_ GE320.out | refine below_set ?_ GE321.out | refine below_set ?_ GE332.out | refine below_set ?_ GE340.out | refine below_set ?_ GE347.out) | exact HB.out)⟩
                 ·rw [if_neg c178] at H
                  have c178b0 : ((t338.size : Int) == (ji177)) = false := beq_eq_false_iff_ne.mpr c178
                  have c178b1 : ((t338.size : Int) != (ji177)) = true := bne_iff_ne.mpr c178
                  obtain rfl := Option.some.inj H
                  have hnb200 := NB340_320.out
                  have hnc200 := NB320_340.out
                  have hnb201 := NB340_321.out
                  have hnc201 := NB321_340.out
                  have hnb202 := NB340_332.out
                  have hnc202 := NB332_340.out
                  have hnb203 := NB340_347.out
                  have hnc203 := NB347_340.out
                  obtain ⟨hcz204_0, hcz204_1, hcz204_2, hfz204_0, hfz204_1, hfz204_2⟩ := bo3_ BK340
                  have p168 : 0 ≤ (x13_3 : Int) := of_decide_eq_true (by first | (with_reducible assumption) | assumption)
                  have q168 : x13_3 < (t338.size : Int) := of_decide_eq_true (by first | (with_reducible assumption) | assumption)
                  have hx168 := bt_at t338 x13_3
                  replace p168 := eq_true p168
                  replace q168 := eq_true q168
                  have hnb205 := NB332_320.out
                  have hnc205 := NB320_332.out
                  have hnb206 := NB332_321.out
                  have hnc206 := NB321_332.out
                  have hnb207 := NB332_347.out
                  have hnc207 := NB347_332.out
                  obtain ⟨hcz208_0, hcz208_1, hcz208_2, hcz208_3, hcz208_4, hcz208_5, hcz208_6, hcz208_7, hfz208_0, hfz208_1, hfz208_2, hfz208_3, hfz208_4, hfz208_5, hfz208_6, hfz208_7⟩ := bo8_ BK332
                  try go_wp2
                  replace BK320 := Aside0.mk (blk_drew BK320.out)
                  replace BK321 := Aside0.mk (blk_drew BK321.out)
                  replace BK332 := Aside0.mk (blk_drew BK332.out)
                  replace BK340 := Aside0.mk (blk_drew BK340.out)
                  replace BK347 := Aside0.mk (blk_drew BK347.out)
                  replace HB := Aside0.mk (below_drew1 HB.out)
                  refine start_ (n := 22) (S := fun w' => w'.cell? ⟨gb340, 0, none⟩ = some (.bool t336) ∧ w'.cell? ⟨gb340, 1, none⟩ = some (.string t337) ∧ w'.cell? ⟨gb340, 2, none⟩ = some (.string t338)) (ds := []) #[false, false, false, false, false, false, false, false, false, false, false, false, false, false, false, false, false, false, false, false, false, false] (by kernel_rfl) rfl rfl ⟨bc_ BK340 0, bc_ BK340 1, bc_ BK340 2⟩ (fun hHeld => ?_); refine with_tabW florinlaw04_ShowDigits.tab26 florinlaw04_ShowDigits.bits26 (fun HT_ HW_ => ?_)
                  generalize wr.drew = w209 at BK320 BK321 BK332 BK340 BK347 HB hHeld ⊢
                  refine pu_ 0 124 (bm_ 22 1) HT_ ?_
                  refine pu_ 3 127 (bm_ 22 9) HT_ ?_
                  refine pu_ 4 128 (bm_ 22 25) HT_ ?_
                  refine tk_ 1 125 (bm_ 22 27) HT_ HW_ hHeld rfl (by rintro w' ⟨s0, s1, s2⟩; go_simp; with_reducible rfl) ?_
                  refine pu_ 2 126 (bm_ 22 31) HT_ ?_
                  refine tk_ 5 129 (bm_ 22 63) HT_ HW_ hHeld rfl (by rintro w' ⟨s0, s1, s2⟩; go_simp; with_reducible rfl) ?_
                  refine one_ (i := 6) (N := some 130) (bm_ 22 127) rfl rfl (one_of HT_.out (by kernel_rfl)) (by decide) (fun K hK => ?_)
                  refine gs_ Tryd.func20 #[.string t338] ?_
                  with_reducible refine (florinlaw04_trimEnd.calls k3 t338 t353 _ A176.out).mono ?_
                  rintro e w' ⟨rfl, ⟨nd, rfl⟩⟩
                  refine ⟨_, rfl, ?_⟩
                  refine hK.out _ _ ⟨bc_ BK340 0, bc_ BK340 1, bc_ BK340 2⟩ (fun hHeld => ?_)
                  clear hK K
                  refine nm_ 130 ?_
                  refine pu_ 7 131 (bm_ 22 255) HT_ ?_
                  refine pu_ 8 132 (bm_ 22 511) HT_ ?_
                  refine pu_ 9 133 (bm_ 22 1023) HT_ ?_
                  refine pu_ 10 134 (bm_ 22 2047) HT_ ?_
                  refine pn_ 11 135 (bm_ 22 4095) HT_ ?_
                  refine pn_ 12 136 (bm_ 22 8191) HT_ ?_
                  refine pn_ 13 137 (bm_ 22 16383) HT_ ?_
                  refine pn_ 14 138 (bm_ 22 32767) HT_ ?_
                  refine pn_ 15 139 (bm_ 22 65535) HT_ ?_
                  refine pn_ 16 140 (bm_ 22 131071) HT_ ?_
                  refine pn_ 17 141 (bm_ 22 262143) HT_ ?_
                  refine pn_ 18 142 (bm_ 22 524287) HT_ ?_
                  refine pn_ 19 143 (bm_ 22 1048575) HT_ ?_
                  refine pu_ 20 144 (bm_ 22 2097151) HT_ ?_
                  refine pu_ 21 4 (bm_ 22 4194303) HT_ ?_
                  refine done_ (done_of HT_.out (by kernel_rfl)) ?_
                  try go_wp2
                  go_ret
                  exact ⟨by first | rfl | (simp [errW_none, errW_some] <;> rfl) | (simp only [← hji76, ← hji175, ← hji177]; first | rfl | (simp [errW_none, errW_some] <;> rfl)) | (simp [*, errW_none, errW_some] <;> first | rfl | exact given_isEmpty _ | exact (given_isEmpty _).symm), by repeat (first | (with_reducible first | exact HB.out | apply below_alloc | apply pw_below_drewN | apply below_drew1 | refine below_set ?_ GE320.out | refine below_set ?_ GE321.out | refine below_set ?_ GE332.out | refine below_set ?_ GE340.out | refine below_set ?_ GE347.out) | exact HB.out)⟩
               ·rw [if_neg c167] at H
                exact absurd H (by simp)
              ·rw [if_neg c166] at H
               have c166b0 : decide (x13_3 < (t338.size : Int)) = false := decide_eq_false c166
               clear c166
               obtain ⟨ji210, hji210⟩ : ∃ j_ : Int, (mx (wrap64 (t325 - (wrap64 (x12_3 - 1)))) 0) = j_ := ⟨_, rfl⟩
               replace H : ((florinlaw04_trimEnd.f k3 t338).bind fun t354 => (if (t338.size : Int) = (mx (ji210) (t354.size : Int)) then (if t324 = 2 then (some true) else (some (decide ((t338.size : Int) ≤ 200)))) else (some false))) = some r := by first | (rw [hji210] at H; exact H) | (simp only [hji210] at H ⊢; exact H)
               have hji210_ : (if (wrap64 (t325 - (wrap64 (x12_3 - 1)))) < 0 then 0 else (wrap64 (t325 - (wrap64 (x12_3 - 1))))) = ji210 := hji210
               replace H := Option.bind_eq_some_iff.mp H
               obtain ⟨t354, A2110, H⟩ := H
               replace H : (if (t338.size : Int) = (mx (ji210) (t354.size : Int)) then (if t324 = 2 then (some true) else (some (decide ((t338.size : Int) ≤ 200)))) else (some false)) = some r := H
               have A211 := Aside0.mk A2110
               clear A2110
               obtain ⟨ji212, hji212⟩ : ∃ j_ : Int, (mx (ji210) (t354.size : Int)) = j_ := ⟨_, rfl⟩
               replace H : (if (t338.size : Int) = (ji212) then (if t324 = 2 then (some true) else (some (decide ((t338.size : Int) ≤ 200)))) else (some false)) = some r := by first | (rw [hji212] at H; exact H) | (simp only [hji212] at H ⊢; exact H)
               (try rw [hji212] at A211)
               have hji212_ : (if (ji210) < (t354.size : Int) then (t354.size : Int) else (ji210)) = ji212 := hji212
               by_cases c213 : (t338.size : Int) = (ji212)
               ·rw [if_pos c213] at H
                have c213b0 : ((t338.size : Int) == (ji212)) = true := beq_iff_eq.mpr c213
                have c213b1 : ((t338.size : Int) != (ji212)) = false := bne_eq_false_iff_eq.mpr c213
                clear c213
                by_cases c214 : t324 = 2
                ·rw [if_pos c214] at H
                 have c214b0 : (t324 == 2) = true := beq_iff_eq.mpr c214
                 have c214b1 : (t324 != 2) = false := bne_eq_false_iff_eq.mpr c214
                 clear c214
                 obtain rfl := Option.some.inj H
                 have hnb215 := NB340_320.out
                 have hnc215 := NB320_340.out
                 have hnb216 := NB340_321.out
                 have hnc216 := NB321_340.out
                 have hnb217 := NB340_332.out
                 have hnc217 := NB332_340.out
                 have hnb218 := NB340_347.out
                 have hnc218 := NB347_340.out
                 obtain ⟨hcz219_0, hcz219_1, hcz219_2, hfz219_0, hfz219_1, hfz219_2⟩ := bo3_ BK340
                 have hnb220 := NB332_320.out
                 have hnc220 := NB320_332.out
                 have hnb221 := NB332_321.out
                 have hnc221 := NB321_332.out
                 have hnb222 := NB332_347.out
                 have hnc222 := NB347_332.out
                 obtain ⟨hcz223_0, hcz223_1, hcz223_2, hcz223_3, hcz223_4, hcz223_5, hcz223_6, hcz223_7, hfz223_0, hfz223_1, hfz223_2, hfz223_3, hfz223_4, hfz223_5, hfz223_6, hfz223_7⟩ := bo8_ BK332
                 try go_wp2
                 replace BK320 := Aside0.mk (blk_drew BK320.out)
                 replace BK321 := Aside0.mk (blk_drew BK321.out)
                 replace BK332 := Aside0.mk (blk_drew BK332.out)
                 replace BK340 := Aside0.mk (blk_drew BK340.out)
                 replace BK347 := Aside0.mk (blk_drew BK347.out)
                 replace HB := Aside0.mk (below_drew1 HB.out)
                 refine start_ (n := 22) (S := fun w' => w'.cell? ⟨gb340, 0, none⟩ = some (.bool t336) ∧ w'.cell? ⟨gb340, 1, none⟩ = some (.string t337) ∧ w'.cell? ⟨gb340, 2, none⟩ = some (.string t338) ∧ w'.cell? ⟨gb332, 0, none⟩ = some (.int .i64 t324) ∧ w'.cell? ⟨gb332, 1, none⟩ = some (.int .i64 t325) ∧ w'.cell? ⟨gb332, 2, none⟩ = some (.int .i64 t326) ∧ w'.cell? ⟨gb332, 3, none⟩ = some (.bool t327) ∧ w'.cell? ⟨gb332, 4, none⟩ = some (.string t328) ∧ w'.cell? ⟨gb332, 5, none⟩ = some (.int .i64 t329) ∧ w'.cell? ⟨gb332, 6, none⟩ = some (.int .i64 t330) ∧ w'.cell? ⟨gb332, 7, none⟩ = some (.int .i64 t331)) (ds := []) #[false, false, false, false, false, false, false, false, false, false, false, false, false, false, false, false, false, false, false, false, false, false] (by kernel_rfl) rfl rfl ⟨bc_ BK340 0, bc_ BK340 1, bc_ BK340 2, bc_ BK332 0, bc_ BK332 1, bc_ BK332 2, bc_ BK332 3, bc_ BK332 4, bc_ BK332 5, bc_ BK332 6, bc_ BK332 7⟩ (fun hHeld => ?_); refine with_tabW florinlaw04_ShowDigits.tab26 florinlaw04_ShowDigits.bits26 (fun HT_ HW_ => ?_)
                 generalize wr.drew = w224 at BK320 BK321 BK332 BK340 BK347 HB hHeld ⊢
                 refine pu_ 0 124 (bm_ 22 1) HT_ ?_
                 refine pu_ 3 127 (bm_ 22 9) HT_ ?_
                 refine pu_ 4 128 (bm_ 22 25) HT_ ?_
                 refine tk_ 1 125 (bm_ 22 27) HT_ HW_ hHeld rfl (by rintro w' ⟨s0, s1, s2, s3, s4, s5, s6, s7, s8, s9, s10⟩; go_simp; with_reducible rfl) ?_
                 refine pu_ 2 126 (bm_ 22 31) HT_ ?_
                 refine tk_ 5 129 (bm_ 22 63) HT_ HW_ hHeld rfl (by rintro w' ⟨s0, s1, s2, s3, s4, s5, s6, s7, s8, s9, s10⟩; go_simp; with_reducible rfl) ?_
                 refine one_ (i := 6) (N := some 130) (bm_ 22 127) rfl rfl (one_of HT_.out (by kernel_rfl)) (by decide) (fun K hK => ?_)
                 refine gs_ Tryd.func20 #[.string t338] ?_
                 with_reducible refine (florinlaw04_trimEnd.calls k3 t338 t354 _ A211.out).mono ?_
                 rintro e w' ⟨rfl, ⟨nd, rfl⟩⟩
                 refine ⟨_, rfl, ?_⟩
                 refine hK.out _ _ ⟨bc_ BK340 0, bc_ BK340 1, bc_ BK340 2, bc_ BK332 0, bc_ BK332 1, bc_ BK332 2, bc_ BK332 3, bc_ BK332 4, bc_ BK332 5, bc_ BK332 6, bc_ BK332 7⟩ (fun hHeld => ?_)
                 clear hK K
                 refine nm_ 130 ?_
                 refine pu_ 7 131 (bm_ 22 255) HT_ ?_
                 refine pu_ 8 132 (bm_ 22 511) HT_ ?_
                 refine pu_ 9 133 (bm_ 22 1023) HT_ ?_
                 refine pu_ 10 134 (bm_ 22 2047) HT_ ?_
                 refine pu_ 11 135 (bm_ 22 4095) HT_ ?_
                 refine tk_ 12 136 (bm_ 22 8191) HT_ HW_ hHeld rfl (by rintro w' ⟨s0, s1, s2, s3, s4, s5, s6, s7, s8, s9, s10⟩; go_simp; with_reducible rfl) ?_
                 refine pu_ 13 137 (bm_ 22 16383) HT_ ?_
                 refine pu_ 14 138 (bm_ 22 32767) HT_ ?_
                 refine pn_ 15 139 (bm_ 22 65535) HT_ ?_
                 refine pn_ 16 140 (bm_ 22 131071) HT_ ?_
                 refine pn_ 17 141 (bm_ 22 262143) HT_ ?_
                 refine pn_ 18 142 (bm_ 22 524287) HT_ ?_
                 refine pu_ 19 143 (bm_ 22 1048575) HT_ ?_
                 refine pu_ 20 144 (bm_ 22 2097151) HT_ ?_
                 refine pu_ 21 4 (bm_ 22 4194303) HT_ ?_
                 refine done_ (done_of HT_.out (by kernel_rfl)) ?_
                 try go_wp2
                 go_ret
                 exact ⟨by first | rfl | (simp [errW_none, errW_some] <;> rfl) | (simp only [← hji76, ← hji210, ← hji212]; first | rfl | (simp [errW_none, errW_some] <;> rfl)) | (simp [*, errW_none, errW_some] <;> first | rfl | exact given_isEmpty _ | exact (given_isEmpty _).symm), by repeat (first | (with_reducible first | exact HB.out | apply below_alloc | apply pw_below_drewN | apply below_drew1 | refine below_set ?_ GE320.out | refine below_set ?_ GE321.out | refine below_set ?_ GE332.out | refine below_set ?_ GE340.out | refine below_set ?_ GE347.out) | exact HB.out)⟩
                ·rw [if_neg c214] at H
                 have c214b0 : (t324 == 2) = false := beq_eq_false_iff_ne.mpr c214
                 have c214b1 : (t324 != 2) = true := bne_iff_ne.mpr c214
                 obtain rfl := Option.some.inj H
                 have hnb225 := NB340_320.out
                 have hnc225 := NB320_340.out
                 have hnb226 := NB340_321.out
                 have hnc226 := NB321_340.out
                 have hnb227 := NB340_332.out
                 have hnc227 := NB332_340.out
                 have hnb228 := NB340_347.out
                 have hnc228 := NB347_340.out
                 obtain ⟨hcz229_0, hcz229_1, hcz229_2, hfz229_0, hfz229_1, hfz229_2⟩ := bo3_ BK340
                 have hnb230 := NB332_320.out
                 have hnc230 := NB320_332.out
                 have hnb231 := NB332_321.out
                 have hnc231 := NB321_332.out
                 have hnb232 := NB332_347.out
                 have hnc232 := NB347_332.out
                 obtain ⟨hcz233_0, hcz233_1, hcz233_2, hcz233_3, hcz233_4, hcz233_5, hcz233_6, hcz233_7, hfz233_0, hfz233_1, hfz233_2, hfz233_3, hfz233_4, hfz233_5, hfz233_6, hfz233_7⟩ := bo8_ BK332
                 try go_wp2
                 replace BK320 := Aside0.mk (blk_drew BK320.out)
                 replace BK321 := Aside0.mk (blk_drew BK321.out)
                 replace BK332 := Aside0.mk (blk_drew BK332.out)
                 replace BK340 := Aside0.mk (blk_drew BK340.out)
                 replace BK347 := Aside0.mk (blk_drew BK347.out)
                 replace HB := Aside0.mk (below_drew1 HB.out)
                 refine start_ (n := 22) (S := fun w' => w'.cell? ⟨gb340, 0, none⟩ = some (.bool t336) ∧ w'.cell? ⟨gb340, 1, none⟩ = some (.string t337) ∧ w'.cell? ⟨gb340, 2, none⟩ = some (.string t338) ∧ w'.cell? ⟨gb332, 0, none⟩ = some (.int .i64 t324) ∧ w'.cell? ⟨gb332, 1, none⟩ = some (.int .i64 t325) ∧ w'.cell? ⟨gb332, 2, none⟩ = some (.int .i64 t326) ∧ w'.cell? ⟨gb332, 3, none⟩ = some (.bool t327) ∧ w'.cell? ⟨gb332, 4, none⟩ = some (.string t328) ∧ w'.cell? ⟨gb332, 5, none⟩ = some (.int .i64 t329) ∧ w'.cell? ⟨gb332, 6, none⟩ = some (.int .i64 t330) ∧ w'.cell? ⟨gb332, 7, none⟩ = some (.int .i64 t331)) (ds := []) #[false, false, false, false, false, false, false, false, false, false, false, false, false, false, false, false, false, false, false, false, false, false] (by kernel_rfl) rfl rfl ⟨bc_ BK340 0, bc_ BK340 1, bc_ BK340 2, bc_ BK332 0, bc_ BK332 1, bc_ BK332 2, bc_ BK332 3, bc_ BK332 4, bc_ BK332 5, bc_ BK332 6, bc_ BK332 7⟩ (fun hHeld => ?_); refine with_tabW florinlaw04_ShowDigits.tab26 florinlaw04_ShowDigits.bits26 (fun HT_ HW_ => ?_)
                 generalize wr.drew = w234 at BK320 BK321 BK332 BK340 BK347 HB hHeld ⊢
                 refine pu_ 0 124 (bm_ 22 1) HT_ ?_
                 refine pu_ 3 127 (bm_ 22 9) HT_ ?_
                 refine pu_ 4 128 (bm_ 22 25) HT_ ?_
                 refine tk_ 1 125 (bm_ 22 27) HT_ HW_ hHeld rfl (by rintro w' ⟨s0, s1, s2, s3, s4, s5, s6, s7, s8, s9, s10⟩; go_simp; with_reducible rfl) ?_
                 refine pu_ 2 126 (bm_ 22 31) HT_ ?_
                 refine tk_ 5 129 (bm_ 22 63) HT_ HW_ hHeld rfl (by rintro w' ⟨s0, s1, s2, s3, s4, s5, s6, s7, s8, s9, s10⟩; go_simp; with_reducible rfl) ?_
                 refine one_ (i := 6) (N := some 130) (bm_ 22 127) rfl rfl (one_of HT_.out (by kernel_rfl)) (by decide) (fun K hK => ?_)
                 refine gs_ Tryd.func20 #[.string t338] ?_
                 with_reducible refine (florinlaw04_trimEnd.calls k3 t338 t354 _ A211.out).mono ?_
                 rintro e w' ⟨rfl, ⟨nd, rfl⟩⟩
                 refine ⟨_, rfl, ?_⟩
                 refine hK.out _ _ ⟨bc_ BK340 0, bc_ BK340 1, bc_ BK340 2, bc_ BK332 0, bc_ BK332 1, bc_ BK332 2, bc_ BK332 3, bc_ BK332 4, bc_ BK332 5, bc_ BK332 6, bc_ BK332 7⟩ (fun hHeld => ?_)
                 clear hK K
                 refine nm_ 130 ?_
                 refine pu_ 7 131 (bm_ 22 255) HT_ ?_
                 refine pu_ 8 132 (bm_ 22 511) HT_ ?_
                 refine pu_ 9 133 (bm_ 22 1023) HT_ ?_
                 refine pu_ 10 134 (bm_ 22 2047) HT_ ?_
                 refine pu_ 11 135 (bm_ 22 4095) HT_ ?_
                 refine tk_ 12 136 (bm_ 22 8191) HT_ HW_ hHeld rfl (by rintro w' ⟨s0, s1, s2, s3, s4, s5, s6, s7, s8, s9, s10⟩; go_simp; with_reducible rfl) ?_
                 refine pu_ 13 137 (bm_ 22 16383) HT_ ?_
                 refine pu_ 14 138 (bm_ 22 32767) HT_ ?_
                 refine pu_ 15 139 (bm_ 22 65535) HT_ ?_
                 refine tk_ 16 140 (bm_ 22 131071) HT_ HW_ hHeld rfl (by rintro w' ⟨s0, s1, s2, s3, s4, s5, s6, s7, s8, s9, s10⟩; go_simp; with_reducible rfl) ?_
                 refine pu_ 17 141 (bm_ 22 262143) HT_ ?_
                 refine pu_ 18 142 (bm_ 22 524287) HT_ ?_
                 refine pu_ 19 143 (bm_ 22 1048575) HT_ ?_
                 refine pu_ 20 144 (bm_ 22 2097151) HT_ ?_
                 refine pu_ 21 4 (bm_ 22 4194303) HT_ ?_
                 refine done_ (done_of HT_.out (by kernel_rfl)) ?_
                 try go_wp2
                 go_ret
                 exact ⟨by first | rfl | (simp [errW_none, errW_some] <;> rfl) | (simp only [← hji76, ← hji210, ← hji212]; first | rfl | (simp [errW_none, errW_some] <;> rfl)) | (simp [*, errW_none, errW_some] <;> first | rfl | exact given_isEmpty _ | exact (given_isEmpty _).symm), by repeat (first | (with_reducible first | exact HB.out | apply below_alloc | apply pw_below_drewN | apply below_drew1 | refine below_set ?_ GE320.out | refine below_set ?_ GE321.out | refine below_set ?_ GE332.out | refine below_set ?_ GE340.out | refine below_set ?_ GE347.out) | exact HB.out)⟩
               ·rw [if_neg c213] at H
                have c213b0 : ((t338.size : Int) == (ji212)) = false := beq_eq_false_iff_ne.mpr c213
                have c213b1 : ((t338.size : Int) != (ji212)) = true := bne_iff_ne.mpr c213
                obtain rfl := Option.some.inj H
                have hnb235 := NB340_320.out
                have hnc235 := NB320_340.out
                have hnb236 := NB340_321.out
                have hnc236 := NB321_340.out
                have hnb237 := NB340_332.out
                have hnc237 := NB332_340.out
                have hnb238 := NB340_347.out
                have hnc238 := NB347_340.out
                obtain ⟨hcz239_0, hcz239_1, hcz239_2, hfz239_0, hfz239_1, hfz239_2⟩ := bo3_ BK340
                have hnb240 := NB332_320.out
                have hnc240 := NB320_332.out
                have hnb241 := NB332_321.out
                have hnc241 := NB321_332.out
                have hnb242 := NB332_347.out
                have hnc242 := NB347_332.out
                obtain ⟨hcz243_0, hcz243_1, hcz243_2, hcz243_3, hcz243_4, hcz243_5, hcz243_6, hcz243_7, hfz243_0, hfz243_1, hfz243_2, hfz243_3, hfz243_4, hfz243_5, hfz243_6, hfz243_7⟩ := bo8_ BK332
                try go_wp2
                replace BK320 := Aside0.mk (blk_drew BK320.out)
                replace BK321 := Aside0.mk (blk_drew BK321.out)
                replace BK332 := Aside0.mk (blk_drew BK332.out)
                replace BK340 := Aside0.mk (blk_drew BK340.out)
                replace BK347 := Aside0.mk (blk_drew BK347.out)
                replace HB := Aside0.mk (below_drew1 HB.out)
                refine start_ (n := 22) (S := fun w' => w'.cell? ⟨gb340, 0, none⟩ = some (.bool t336) ∧ w'.cell? ⟨gb340, 1, none⟩ = some (.string t337) ∧ w'.cell? ⟨gb340, 2, none⟩ = some (.string t338)) (ds := []) #[false, false, false, false, false, false, false, false, false, false, false, false, false, false, false, false, false, false, false, false, false, false] (by kernel_rfl) rfl rfl ⟨bc_ BK340 0, bc_ BK340 1, bc_ BK340 2⟩ (fun hHeld => ?_); refine with_tabW florinlaw04_ShowDigits.tab26 florinlaw04_ShowDigits.bits26 (fun HT_ HW_ => ?_)
                generalize wr.drew = w244 at BK320 BK321 BK332 BK340 BK347 HB hHeld ⊢
                refine pu_ 0 124 (bm_ 22 1) HT_ ?_
                refine pu_ 3 127 (bm_ 22 9) HT_ ?_
                refine pu_ 4 128 (bm_ 22 25) HT_ ?_
                refine tk_ 1 125 (bm_ 22 27) HT_ HW_ hHeld rfl (by rintro w' ⟨s0, s1, s2⟩; go_simp; with_reducible rfl) ?_
                refine pu_ 2 126 (bm_ 22 31) HT_ ?_
                refine tk_ 5 129 (bm_ 22 63) HT_ HW_ hHeld rfl (by rintro w' ⟨s0, s1, s2⟩; go_simp; with_reducible rfl) ?_
                refine one_ (i := 6) (N := some 130) (bm_ 22 127) rfl rfl (one_of HT_.out (by kernel_rfl)) (by decide) (fun K hK => ?_)
                refine gs_ Tryd.func20 #[.string t338] ?_
                with_reducible refine (florinlaw04_trimEnd.calls k3 t338 t354 _ A211.out).mono ?_
                rintro e w' ⟨rfl, ⟨nd, rfl⟩⟩
                refine ⟨_, rfl, ?_⟩
                refine hK.out _ _ ⟨bc_ BK340 0, bc_ BK340 1, bc_ BK340 2⟩ (fun hHeld => ?_)
                clear hK K
                refine nm_ 130 ?_
                refine pu_ 7 131 (bm_ 22 255) HT_ ?_
                refine pu_ 8 132 (bm_ 22 511) HT_ ?_
                refine pu_ 9 133 (bm_ 22 1023) HT_ ?_
                refine pu_ 10 134 (bm_ 22 2047) HT_ ?_
                refine pn_ 11 135 (bm_ 22 4095) HT_ ?_
                refine pn_ 12 136 (bm_ 22 8191) HT_ ?_
                refine pn_ 13 137 (bm_ 22 16383) HT_ ?_
                refine pn_ 14 138 (bm_ 22 32767) HT_ ?_
                refine pn_ 15 139 (bm_ 22 65535) HT_ ?_
                refine pn_ 16 140 (bm_ 22 131071) HT_ ?_
                refine pn_ 17 141 (bm_ 22 262143) HT_ ?_
                refine pn_ 18 142 (bm_ 22 524287) HT_ ?_
                refine pn_ 19 143 (bm_ 22 1048575) HT_ ?_
                refine pu_ 20 144 (bm_ 22 2097151) HT_ ?_
                refine pu_ 21 4 (bm_ 22 4194303) HT_ ?_
                refine done_ (done_of HT_.out (by kernel_rfl)) ?_
                try go_wp2
                go_ret
                exact ⟨by first | rfl | (simp [errW_none, errW_some] <;> rfl) | (simp only [← hji76, ← hji210, ← hji212]; first | rfl | (simp [errW_none, errW_some] <;> rfl)) | (simp [*, errW_none, errW_some] <;> first | rfl | exact given_isEmpty _ | exact (given_isEmpty _).symm), by repeat (first | (with_reducible first | exact HB.out | apply below_alloc | apply pw_below_drewN | apply below_drew1 | refine below_set ?_ GE320.out | refine below_set ?_ GE321.out | refine below_set ?_ GE332.out | refine below_set ?_ GE340.out | refine below_set ?_ GE347.out) | exact HB.out)⟩
          ·rw [if_neg c112] at H
           have c112b0 : ((t350.size : Int) == 0) = false := beq_eq_false_iff_ne.mpr c112
           have c112b1 : ((t350.size : Int) != 0) = true := bne_iff_ne.mpr c112
           obtain ⟨ji245, hji245⟩ : ∃ j_ : Int, (mx (wrap64 (t325 - (t350.size : Int))) 0) = j_ := ⟨_, rfl⟩
           replace H : ((florinlaw04_trimEnd.f kj76 t338).bind fun t355 => (if (t338.size : Int) = (mx (ji245) (t355.size : Int)) then (if t324 = 2 then (some true) else (some (decide ((t338.size : Int) ≤ 200)))) else (some false))) = some r := by first | (rw [hji245] at H; exact H) | (simp only [hji245] at H ⊢; exact H)
           have hji245_ : (if (wrap64 (t325 - (t350.size : Int))) < 0 then 0 else (wrap64 (t325 - (t350.size : Int)))) = ji245 := hji245
           replace H := Option.bind_eq_some_iff.mp H
           obtain ⟨t355, A2460, H⟩ := H
           replace H : (if (t338.size : Int) = (mx (ji245) (t355.size : Int)) then (if t324 = 2 then (some true) else (some (decide ((t338.size : Int) ≤ 200)))) else (some false)) = some r := H
           have A246 := Aside0.mk A2460
           clear A2460
           obtain ⟨ji247, hji247⟩ : ∃ j_ : Int, (mx (ji245) (t355.size : Int)) = j_ := ⟨_, rfl⟩
           replace H : (if (t338.size : Int) = (ji247) then (if t324 = 2 then (some true) else (some (decide ((t338.size : Int) ≤ 200)))) else (some false)) = some r := by first | (rw [hji247] at H; exact H) | (simp only [hji247] at H ⊢; exact H)
           (try rw [hji247] at A246)
           have hji247_ : (if (ji245) < (t355.size : Int) then (t355.size : Int) else (ji245)) = ji247 := hji247
           by_cases c248 : (t338.size : Int) = (ji247)
           ·rw [if_pos c248] at H
            have c248b0 : ((t338.size : Int) == (ji247)) = true := beq_iff_eq.mpr c248
            have c248b1 : ((t338.size : Int) != (ji247)) = false := bne_eq_false_iff_eq.mpr c248
            clear c248
            by_cases c249 : t324 = 2
            ·rw [if_pos c249] at H
             have c249b0 : (t324 == 2) = true := beq_iff_eq.mpr c249
             have c249b1 : (t324 != 2) = false := bne_eq_false_iff_eq.mpr c249
             clear c249
             obtain rfl := Option.some.inj H
             have hnb250 := NB332_320.out
             have hnc250 := NB320_332.out
             have hnb251 := NB332_321.out
             have hnc251 := NB321_332.out
             have hnb252 := NB332_340.out
             have hnc252 := NB340_332.out
             have hnb253 := NB332_347.out
             have hnc253 := NB347_332.out
             obtain ⟨hcz254_0, hcz254_1, hcz254_2, hcz254_3, hcz254_4, hcz254_5, hcz254_6, hcz254_7, hfz254_0, hfz254_1, hfz254_2, hfz254_3, hfz254_4, hfz254_5, hfz254_6, hfz254_7⟩ := bo8_ BK332
             try go_wp2
             replace BK320 := Aside0.mk (blk_drew BK320.out)
             replace BK321 := Aside0.mk (blk_drew BK321.out)
             replace BK332 := Aside0.mk (blk_drew BK332.out)
             replace BK340 := Aside0.mk (blk_drew BK340.out)
             replace BK347 := Aside0.mk (blk_drew BK347.out)
             replace HB := Aside0.mk (below_drew1 HB.out)
             refine start_ (n := 22) (S := fun w' => w'.cell? ⟨gb340, 0, none⟩ = some (.bool t336) ∧ w'.cell? ⟨gb340, 1, none⟩ = some (.string t337) ∧ w'.cell? ⟨gb340, 2, none⟩ = some (.string t338) ∧ w'.cell? ⟨gb332, 0, none⟩ = some (.int .i64 t324) ∧ w'.cell? ⟨gb332, 1, none⟩ = some (.int .i64 t325) ∧ w'.cell? ⟨gb332, 2, none⟩ = some (.int .i64 t326) ∧ w'.cell? ⟨gb332, 3, none⟩ = some (.bool t327) ∧ w'.cell? ⟨gb332, 4, none⟩ = some (.string t328) ∧ w'.cell? ⟨gb332, 5, none⟩ = some (.int .i64 t329) ∧ w'.cell? ⟨gb332, 6, none⟩ = some (.int .i64 t330) ∧ w'.cell? ⟨gb332, 7, none⟩ = some (.int .i64 t331)) (ds := []) #[false, false, false, false, false, false, false, false, false, false, false, false, false, false, false, false, false, false, false, false, false, false] (by kernel_rfl) rfl rfl ⟨bc_ BK340 0, bc_ BK340 1, bc_ BK340 2, bc_ BK332 0, bc_ BK332 1, bc_ BK332 2, bc_ BK332 3, bc_ BK332 4, bc_ BK332 5, bc_ BK332 6, bc_ BK332 7⟩ (fun hHeld => ?_); refine with_tabW florinlaw04_ShowDigits.tab26 florinlaw04_ShowDigits.bits26 (fun HT_ HW_ => ?_)
             generalize wc.drew = w255 at BK320 BK321 BK332 BK340 BK347 HB hHeld ⊢
             refine pu_ 0 124 (bm_ 22 1) HT_ ?_
             refine pu_ 3 127 (bm_ 22 9) HT_ ?_
             refine pu_ 4 128 (bm_ 22 25) HT_ ?_
             refine tk_ 1 125 (bm_ 22 27) HT_ HW_ hHeld rfl (by rintro w' ⟨s0, s1, s2, s3, s4, s5, s6, s7, s8, s9, s10⟩; go_simp; with_reducible rfl) ?_
             refine pu_ 2 126 (bm_ 22 31) HT_ ?_
             refine tk_ 5 129 (bm_ 22 63) HT_ HW_ hHeld rfl (by rintro w' ⟨s0, s1, s2, s3, s4, s5, s6, s7, s8, s9, s10⟩; go_simp; with_reducible rfl) ?_
             refine one_ (i := 6) (N := some 130) (bm_ 22 127) rfl rfl (one_of HT_.out (by kernel_rfl)) (by decide) (fun K hK => ?_)
             refine gs_ Tryd.func20 #[.string t338] ?_
             with_reducible refine (florinlaw04_trimEnd.calls kj76 t338 t355 _ A246.out).mono ?_
             rintro e w' ⟨rfl, ⟨nd, rfl⟩⟩
             refine ⟨_, rfl, ?_⟩
             refine hK.out _ _ ⟨bc_ BK340 0, bc_ BK340 1, bc_ BK340 2, bc_ BK332 0, bc_ BK332 1, bc_ BK332 2, bc_ BK332 3, bc_ BK332 4, bc_ BK332 5, bc_ BK332 6, bc_ BK332 7⟩ (fun hHeld => ?_)
             clear hK K
             refine nm_ 130 ?_
             refine pu_ 7 131 (bm_ 22 255) HT_ ?_
             refine pu_ 8 132 (bm_ 22 511) HT_ ?_
             refine pu_ 9 133 (bm_ 22 1023) HT_ ?_
             refine pu_ 10 134 (bm_ 22 2047) HT_ ?_
             refine pu_ 11 135 (bm_ 22 4095) HT_ ?_
             refine tk_ 12 136 (bm_ 22 8191) HT_ HW_ hHeld rfl (by rintro w' ⟨s0, s1, s2, s3, s4, s5, s6, s7, s8, s9, s10⟩; go_simp; with_reducible rfl) ?_
             refine pu_ 13 137 (bm_ 22 16383) HT_ ?_
             refine pu_ 14 138 (bm_ 22 32767) HT_ ?_
             refine pn_ 15 139 (bm_ 22 65535) HT_ ?_
             refine pn_ 16 140 (bm_ 22 131071) HT_ ?_
             refine pn_ 17 141 (bm_ 22 262143) HT_ ?_
             refine pn_ 18 142 (bm_ 22 524287) HT_ ?_
             refine pu_ 19 143 (bm_ 22 1048575) HT_ ?_
             refine pu_ 20 144 (bm_ 22 2097151) HT_ ?_
             refine pu_ 21 4 (bm_ 22 4194303) HT_ ?_
             refine done_ (done_of HT_.out (by kernel_rfl)) ?_
             try go_wp2
             go_ret
             exact ⟨by first | rfl | (simp [errW_none, errW_some] <;> rfl) | (simp only [← hji76, ← hji245, ← hji247]; first | rfl | (simp [errW_none, errW_some] <;> rfl)) | (simp [*, errW_none, errW_some] <;> first | rfl | exact given_isEmpty _ | exact (given_isEmpty _).symm), by repeat (first | (with_reducible first | exact HB.out | apply below_alloc | apply pw_below_drewN | apply below_drew1 | refine below_set ?_ GE320.out | refine below_set ?_ GE321.out | refine below_set ?_ GE332.out | refine below_set ?_ GE340.out | refine below_set ?_ GE347.out) | exact HB.out)⟩
            ·rw [if_neg c249] at H
             have c249b0 : (t324 == 2) = false := beq_eq_false_iff_ne.mpr c249
             have c249b1 : (t324 != 2) = true := bne_iff_ne.mpr c249
             obtain rfl := Option.some.inj H
             have hnb256 := NB332_320.out
             have hnc256 := NB320_332.out
             have hnb257 := NB332_321.out
             have hnc257 := NB321_332.out
             have hnb258 := NB332_340.out
             have hnc258 := NB340_332.out
             have hnb259 := NB332_347.out
             have hnc259 := NB347_332.out
             obtain ⟨hcz260_0, hcz260_1, hcz260_2, hcz260_3, hcz260_4, hcz260_5, hcz260_6, hcz260_7, hfz260_0, hfz260_1, hfz260_2, hfz260_3, hfz260_4, hfz260_5, hfz260_6, hfz260_7⟩ := bo8_ BK332
             try go_wp2
             replace BK320 := Aside0.mk (blk_drew BK320.out)
             replace BK321 := Aside0.mk (blk_drew BK321.out)
             replace BK332 := Aside0.mk (blk_drew BK332.out)
             replace BK340 := Aside0.mk (blk_drew BK340.out)
             replace BK347 := Aside0.mk (blk_drew BK347.out)
             replace HB := Aside0.mk (below_drew1 HB.out)
             refine start_ (n := 22) (S := fun w' => w'.cell? ⟨gb340, 0, none⟩ = some (.bool t336) ∧ w'.cell? ⟨gb340, 1, none⟩ = some (.string t337) ∧ w'.cell? ⟨gb340, 2, none⟩ = some (.string t338) ∧ w'.cell? ⟨gb332, 0, none⟩ = some (.int .i64 t324) ∧ w'.cell? ⟨gb332, 1, none⟩ = some (.int .i64 t325) ∧ w'.cell? ⟨gb332, 2, none⟩ = some (.int .i64 t326) ∧ w'.cell? ⟨gb332, 3, none⟩ = some (.bool t327) ∧ w'.cell? ⟨gb332, 4, none⟩ = some (.string t328) ∧ w'.cell? ⟨gb332, 5, none⟩ = some (.int .i64 t329) ∧ w'.cell? ⟨gb332, 6, none⟩ = some (.int .i64 t330) ∧ w'.cell? ⟨gb332, 7, none⟩ = some (.int .i64 t331)) (ds := []) #[false, false, false, false, false, false, false, false, false, false, false, false, false, false, false, false, false, false, false, false, false, false] (by kernel_rfl) rfl rfl ⟨bc_ BK340 0, bc_ BK340 1, bc_ BK340 2, bc_ BK332 0, bc_ BK332 1, bc_ BK332 2, bc_ BK332 3, bc_ BK332 4, bc_ BK332 5, bc_ BK332 6, bc_ BK332 7⟩ (fun hHeld => ?_); refine with_tabW florinlaw04_ShowDigits.tab26 florinlaw04_ShowDigits.bits26 (fun HT_ HW_ => ?_)
             generalize wc.drew = w261 at BK320 BK321 BK332 BK340 BK347 HB hHeld ⊢
             refine pu_ 0 124 (bm_ 22 1) HT_ ?_
             refine pu_ 3 127 (bm_ 22 9) HT_ ?_
             refine pu_ 4 128 (bm_ 22 25) HT_ ?_
             refine tk_ 1 125 (bm_ 22 27) HT_ HW_ hHeld rfl (by rintro w' ⟨s0, s1, s2, s3, s4, s5, s6, s7, s8, s9, s10⟩; go_simp; with_reducible rfl) ?_
             refine pu_ 2 126 (bm_ 22 31) HT_ ?_
             refine tk_ 5 129 (bm_ 22 63) HT_ HW_ hHeld rfl (by rintro w' ⟨s0, s1, s2, s3, s4, s5, s6, s7, s8, s9, s10⟩; go_simp; with_reducible rfl) ?_
             refine one_ (i := 6) (N := some 130) (bm_ 22 127) rfl rfl (one_of HT_.out (by kernel_rfl)) (by decide) (fun K hK => ?_)
             refine gs_ Tryd.func20 #[.string t338] ?_
             with_reducible refine (florinlaw04_trimEnd.calls kj76 t338 t355 _ A246.out).mono ?_
             rintro e w' ⟨rfl, ⟨nd, rfl⟩⟩
             refine ⟨_, rfl, ?_⟩
             refine hK.out _ _ ⟨bc_ BK340 0, bc_ BK340 1, bc_ BK340 2, bc_ BK332 0, bc_ BK332 1, bc_ BK332 2, bc_ BK332 3, bc_ BK332 4, bc_ BK332 5, bc_ BK332 6, bc_ BK332 7⟩ (fun hHeld => ?_)
             clear hK K
             refine nm_ 130 ?_
             refine pu_ 7 131 (bm_ 22 255) HT_ ?_
             refine pu_ 8 132 (bm_ 22 511) HT_ ?_
             refine pu_ 9 133 (bm_ 22 1023) HT_ ?_
             refine pu_ 10 134 (bm_ 22 2047) HT_ ?_
             refine pu_ 11 135 (bm_ 22 4095) HT_ ?_
             refine tk_ 12 136 (bm_ 22 8191) HT_ HW_ hHeld rfl (by rintro w' ⟨s0, s1, s2, s3, s4, s5, s6, s7, s8, s9, s10⟩; go_simp; with_reducible rfl) ?_
             refine pu_ 13 137 (bm_ 22 16383) HT_ ?_
             refine pu_ 14 138 (bm_ 22 32767) HT_ ?_
             refine pu_ 15 139 (bm_ 22 65535) HT_ ?_
             refine tk_ 16 140 (bm_ 22 131071) HT_ HW_ hHeld rfl (by rintro w' ⟨s0, s1, s2, s3, s4, s5, s6, s7, s8, s9, s10⟩; go_simp; with_reducible rfl) ?_
             refine pu_ 17 141 (bm_ 22 262143) HT_ ?_
             refine pu_ 18 142 (bm_ 22 524287) HT_ ?_
             refine pu_ 19 143 (bm_ 22 1048575) HT_ ?_
             refine pu_ 20 144 (bm_ 22 2097151) HT_ ?_
             refine pu_ 21 4 (bm_ 22 4194303) HT_ ?_
             refine done_ (done_of HT_.out (by kernel_rfl)) ?_
             try go_wp2
             go_ret
             exact ⟨by first | rfl | (simp [errW_none, errW_some] <;> rfl) | (simp only [← hji76, ← hji245, ← hji247]; first | rfl | (simp [errW_none, errW_some] <;> rfl)) | (simp [*, errW_none, errW_some] <;> first | rfl | exact given_isEmpty _ | exact (given_isEmpty _).symm), by repeat (first | (with_reducible first | exact HB.out | apply below_alloc | apply pw_below_drewN | apply below_drew1 | refine below_set ?_ GE320.out | refine below_set ?_ GE321.out | refine below_set ?_ GE332.out | refine below_set ?_ GE340.out | refine below_set ?_ GE347.out) | exact HB.out)⟩
           ·rw [if_neg c248] at H
            have c248b0 : ((t338.size : Int) == (ji247)) = false := beq_eq_false_iff_ne.mpr c248
            have c248b1 : ((t338.size : Int) != (ji247)) = true := bne_iff_ne.mpr c248
            obtain rfl := Option.some.inj H
            have hnb262 := NB332_320.out
            have hnc262 := NB320_332.out
            have hnb263 := NB332_321.out
            have hnc263 := NB321_332.out
            have hnb264 := NB332_340.out
            have hnc264 := NB340_332.out
            have hnb265 := NB332_347.out
            have hnc265 := NB347_332.out
            obtain ⟨hcz266_0, hcz266_1, hcz266_2, hcz266_3, hcz266_4, hcz266_5, hcz266_6, hcz266_7, hfz266_0, hfz266_1, hfz266_2, hfz266_3, hfz266_4, hfz266_5, hfz266_6, hfz266_7⟩ := bo8_ BK332
            try go_wp2
            replace BK320 := Aside0.mk (blk_drew BK320.out)
            replace BK321 := Aside0.mk (blk_drew BK321.out)
            replace BK332 := Aside0.mk (blk_drew BK332.out)
            replace BK340 := Aside0.mk (blk_drew BK340.out)
            replace BK347 := Aside0.mk (blk_drew BK347.out)
            replace HB := Aside0.mk (below_drew1 HB.out)
            refine start_ (n := 22) (S := fun w' => w'.cell? ⟨gb340, 0, none⟩ = some (.bool t336) ∧ w'.cell? ⟨gb340, 1, none⟩ = some (.string t337) ∧ w'.cell? ⟨gb340, 2, none⟩ = some (.string t338)) (ds := []) #[false, false, false, false, false, false, false, false, false, false, false, false, false, false, false, false, false, false, false, false, false, false] (by kernel_rfl) rfl rfl ⟨bc_ BK340 0, bc_ BK340 1, bc_ BK340 2⟩ (fun hHeld => ?_); refine with_tabW florinlaw04_ShowDigits.tab26 florinlaw04_ShowDigits.bits26 (fun HT_ HW_ => ?_)
            generalize wc.drew = w267 at BK320 BK321 BK332 BK340 BK347 HB hHeld ⊢
            refine pu_ 0 124 (bm_ 22 1) HT_ ?_
            refine pu_ 3 127 (bm_ 22 9) HT_ ?_
            refine pu_ 4 128 (bm_ 22 25) HT_ ?_
            refine tk_ 1 125 (bm_ 22 27) HT_ HW_ hHeld rfl (by rintro w' ⟨s0, s1, s2⟩; go_simp; with_reducible rfl) ?_
            refine pu_ 2 126 (bm_ 22 31) HT_ ?_
            refine tk_ 5 129 (bm_ 22 63) HT_ HW_ hHeld rfl (by rintro w' ⟨s0, s1, s2⟩; go_simp; with_reducible rfl) ?_
            refine one_ (i := 6) (N := some 130) (bm_ 22 127) rfl rfl (one_of HT_.out (by kernel_rfl)) (by decide) (fun K hK => ?_)
            refine gs_ Tryd.func20 #[.string t338] ?_
            with_reducible refine (florinlaw04_trimEnd.calls kj76 t338 t355 _ A246.out).mono ?_
            rintro e w' ⟨rfl, ⟨nd, rfl⟩⟩
            refine ⟨_, rfl, ?_⟩
            refine hK.out _ _ ⟨bc_ BK340 0, bc_ BK340 1, bc_ BK340 2⟩ (fun hHeld => ?_)
            clear hK K
            refine nm_ 130 ?_
            refine pu_ 7 131 (bm_ 22 255) HT_ ?_
            refine pu_ 8 132 (bm_ 22 511) HT_ ?_
            refine pu_ 9 133 (bm_ 22 1023) HT_ ?_
            refine pu_ 10 134 (bm_ 22 2047) HT_ ?_
            refine pn_ 11 135 (bm_ 22 4095) HT_ ?_
            refine pn_ 12 136 (bm_ 22 8191) HT_ ?_
            refine pn_ 13 137 (bm_ 22 16383) HT_ ?_
            refine pn_ 14 138 (bm_ 22 32767) HT_ ?_
            refine pn_ 15 139 (bm_ 22 65535) HT_ ?_
            refine pn_ 16 140 (bm_ 22 131071) HT_ ?_
            refine pn_ 17 141 (bm_ 22 262143) HT_ ?_
            refine pn_ 18 142 (bm_ 22 524287) HT_ ?_
            refine pn_ 19 143 (bm_ 22 1048575) HT_ ?_
            refine pu_ 20 144 (bm_ 22 2097151) HT_ ?_
            refine pu_ 21 4 (bm_ 22 4194303) HT_ ?_
            refine done_ (done_of HT_.out (by kernel_rfl)) ?_
            try go_wp2
            go_ret
            exact ⟨by first | rfl | (simp [errW_none, errW_some] <;> rfl) | (simp only [← hji76, ← hji245, ← hji247]; first | rfl | (simp [errW_none, errW_some] <;> rfl)) | (simp [*, errW_none, errW_some] <;> first | rfl | exact given_isEmpty _ | exact (given_isEmpty _).symm), by repeat (first | (with_reducible first | exact HB.out | apply below_alloc | apply pw_below_drewN | apply below_drew1 | refine below_set ?_ GE320.out | refine below_set ?_ GE321.out | refine below_set ?_ GE332.out | refine below_set ?_ GE340.out | refine below_set ?_ GE347.out) | exact HB.out)⟩
         ·rw [if_neg c111] at H
          have c111b0 : (t324 == 1) = false := beq_eq_false_iff_ne.mpr c111
          have c111b1 : (t324 != 1) = true := bne_iff_ne.mpr c111
          replace H := Option.bind_eq_some_iff.mp H
          obtain ⟨t356, A2680, H⟩ := H
          replace H : (if (t338.size : Int) = (mx t325 (t356.size : Int)) then (if t324 = 2 then (some true) else (some (decide ((t338.size : Int) ≤ 200)))) else (some false)) = some r := H
          have A268 := Aside0.mk A2680
          clear A2680
          obtain ⟨ji269, hji269⟩ : ∃ j_ : Int, (mx t325 (t356.size : Int)) = j_ := ⟨_, rfl⟩
          replace H : (if (t338.size : Int) = (ji269) then (if t324 = 2 then (some true) else (some (decide ((t338.size : Int) ≤ 200)))) else (some false)) = some r := by first | (rw [hji269] at H; exact H) | (simp only [hji269] at H ⊢; exact H)
          (try rw [hji269] at A268)
          have hji269_ : (if t325 < (t356.size : Int) then (t356.size : Int) else t325) = ji269 := hji269
          by_cases c270 : (t338.size : Int) = (ji269)
          ·rw [if_pos c270] at H
           have c270b0 : ((t338.size : Int) == (ji269)) = true := beq_iff_eq.mpr c270
           have c270b1 : ((t338.size : Int) != (ji269)) = false := bne_eq_false_iff_eq.mpr c270
           clear c270
           by_cases c271 : t324 = 2
           ·rw [if_pos c271] at H
            have c271b0 : (t324 == 2) = true := beq_iff_eq.mpr c271
            have c271b1 : (t324 != 2) = false := bne_eq_false_iff_eq.mpr c271
            clear c271
            obtain rfl := Option.some.inj H
            have hnb272 := NB332_320.out
            have hnc272 := NB320_332.out
            have hnb273 := NB332_321.out
            have hnc273 := NB321_332.out
            have hnb274 := NB332_340.out
            have hnc274 := NB340_332.out
            have hnb275 := NB332_347.out
            have hnc275 := NB347_332.out
            obtain ⟨hcz276_0, hcz276_1, hcz276_2, hcz276_3, hcz276_4, hcz276_5, hcz276_6, hcz276_7, hfz276_0, hfz276_1, hfz276_2, hfz276_3, hfz276_4, hfz276_5, hfz276_6, hfz276_7⟩ := bo8_ BK332
            try go_wp2
            replace BK320 := Aside0.mk (blk_drew BK320.out)
            replace BK321 := Aside0.mk (blk_drew BK321.out)
            replace BK332 := Aside0.mk (blk_drew BK332.out)
            replace BK340 := Aside0.mk (blk_drew BK340.out)
            replace BK347 := Aside0.mk (blk_drew BK347.out)
            replace HB := Aside0.mk (below_drew1 HB.out)
            refine start_ (n := 22) (S := fun w' => w'.cell? ⟨gb340, 0, none⟩ = some (.bool t336) ∧ w'.cell? ⟨gb340, 1, none⟩ = some (.string t337) ∧ w'.cell? ⟨gb340, 2, none⟩ = some (.string t338) ∧ w'.cell? ⟨gb332, 0, none⟩ = some (.int .i64 t324) ∧ w'.cell? ⟨gb332, 1, none⟩ = some (.int .i64 t325) ∧ w'.cell? ⟨gb332, 2, none⟩ = some (.int .i64 t326) ∧ w'.cell? ⟨gb332, 3, none⟩ = some (.bool t327) ∧ w'.cell? ⟨gb332, 4, none⟩ = some (.string t328) ∧ w'.cell? ⟨gb332, 5, none⟩ = some (.int .i64 t329) ∧ w'.cell? ⟨gb332, 6, none⟩ = some (.int .i64 t330) ∧ w'.cell? ⟨gb332, 7, none⟩ = some (.int .i64 t331)) (ds := []) #[false, false, false, false, false, false, false, false, false, false, false, false, false, false, false, false, false, false, false, false, false, false] (by kernel_rfl) rfl rfl ⟨bc_ BK340 0, bc_ BK340 1, bc_ BK340 2, bc_ BK332 0, bc_ BK332 1, bc_ BK332 2, bc_ BK332 3, bc_ BK332 4, bc_ BK332 5, bc_ BK332 6, bc_ BK332 7⟩ (fun hHeld => ?_); refine with_tabW florinlaw04_ShowDigits.tab26 florinlaw04_ShowDigits.bits26 (fun HT_ HW_ => ?_)
            generalize wc.drew = w277 at BK320 BK321 BK332 BK340 BK347 HB hHeld ⊢
            refine pu_ 0 124 (bm_ 22 1) HT_ ?_
            refine pu_ 3 127 (bm_ 22 9) HT_ ?_
            refine pu_ 4 128 (bm_ 22 25) HT_ ?_
            refine tk_ 1 125 (bm_ 22 27) HT_ HW_ hHeld rfl (by rintro w' ⟨s0, s1, s2, s3, s4, s5, s6, s7, s8, s9, s10⟩; go_simp; with_reducible rfl) ?_
            refine pu_ 2 126 (bm_ 22 31) HT_ ?_
            refine tk_ 5 129 (bm_ 22 63) HT_ HW_ hHeld rfl (by rintro w' ⟨s0, s1, s2, s3, s4, s5, s6, s7, s8, s9, s10⟩; go_simp; with_reducible rfl) ?_
            refine one_ (i := 6) (N := some 130) (bm_ 22 127) rfl rfl (one_of HT_.out (by kernel_rfl)) (by decide) (fun K hK => ?_)
            refine gs_ Tryd.func20 #[.string t338] ?_
            with_reducible refine (florinlaw04_trimEnd.calls kj76 t338 t356 _ A268.out).mono ?_
            rintro e w' ⟨rfl, ⟨nd, rfl⟩⟩
            refine ⟨_, rfl, ?_⟩
            refine hK.out _ _ ⟨bc_ BK340 0, bc_ BK340 1, bc_ BK340 2, bc_ BK332 0, bc_ BK332 1, bc_ BK332 2, bc_ BK332 3, bc_ BK332 4, bc_ BK332 5, bc_ BK332 6, bc_ BK332 7⟩ (fun hHeld => ?_)
            clear hK K
            refine nm_ 130 ?_
            refine pu_ 7 131 (bm_ 22 255) HT_ ?_
            refine pu_ 8 132 (bm_ 22 511) HT_ ?_
            refine pu_ 9 133 (bm_ 22 1023) HT_ ?_
            refine pu_ 10 134 (bm_ 22 2047) HT_ ?_
            refine pu_ 11 135 (bm_ 22 4095) HT_ ?_
            refine tk_ 12 136 (bm_ 22 8191) HT_ HW_ hHeld rfl (by rintro w' ⟨s0, s1, s2, s3, s4, s5, s6, s7, s8, s9, s10⟩; go_simp; with_reducible rfl) ?_
            refine pu_ 13 137 (bm_ 22 16383) HT_ ?_
            refine pu_ 14 138 (bm_ 22 32767) HT_ ?_
            refine pn_ 15 139 (bm_ 22 65535) HT_ ?_
            refine pn_ 16 140 (bm_ 22 131071) HT_ ?_
            refine pn_ 17 141 (bm_ 22 262143) HT_ ?_
            refine pn_ 18 142 (bm_ 22 524287) HT_ ?_
            refine pu_ 19 143 (bm_ 22 1048575) HT_ ?_
            refine pu_ 20 144 (bm_ 22 2097151) HT_ ?_
            refine pu_ 21 4 (bm_ 22 4194303) HT_ ?_
            refine done_ (done_of HT_.out (by kernel_rfl)) ?_
            try go_wp2
            go_ret
            exact ⟨by first | rfl | (simp [errW_none, errW_some] <;> rfl) | (simp only [← hji76, ← hji269]; first | rfl | (simp [errW_none, errW_some] <;> rfl)) | (simp [*, errW_none, errW_some] <;> first | rfl | exact given_isEmpty _ | exact (given_isEmpty _).symm), by repeat (first | (with_reducible first | exact HB.out | apply below_alloc | apply pw_below_drewN | apply below_drew1 | refine below_set ?_ GE320.out | refine below_set ?_ GE321.out | refine below_set ?_ GE332.out | refine below_set ?_ GE340.out | refine below_set ?_ GE347.out) | exact HB.out)⟩
           ·rw [if_neg c271] at H
            have c271b0 : (t324 == 2) = false := beq_eq_false_iff_ne.mpr c271
            have c271b1 : (t324 != 2) = true := bne_iff_ne.mpr c271
            obtain rfl := Option.some.inj H
            have hnb278 := NB332_320.out
            have hnc278 := NB320_332.out
            have hnb279 := NB332_321.out
            have hnc279 := NB321_332.out
            have hnb280 := NB332_340.out
            have hnc280 := NB340_332.out
            have hnb281 := NB332_347.out
            have hnc281 := NB347_332.out
            obtain ⟨hcz282_0, hcz282_1, hcz282_2, hcz282_3, hcz282_4, hcz282_5, hcz282_6, hcz282_7, hfz282_0, hfz282_1, hfz282_2, hfz282_3, hfz282_4, hfz282_5, hfz282_6, hfz282_7⟩ := bo8_ BK332
            try go_wp2
            replace BK320 := Aside0.mk (blk_drew BK320.out)
            replace BK321 := Aside0.mk (blk_drew BK321.out)
            replace BK332 := Aside0.mk (blk_drew BK332.out)
            replace BK340 := Aside0.mk (blk_drew BK340.out)
            replace BK347 := Aside0.mk (blk_drew BK347.out)
            replace HB := Aside0.mk (below_drew1 HB.out)
            refine start_ (n := 22) (S := fun w' => w'.cell? ⟨gb340, 0, none⟩ = some (.bool t336) ∧ w'.cell? ⟨gb340, 1, none⟩ = some (.string t337) ∧ w'.cell? ⟨gb340, 2, none⟩ = some (.string t338) ∧ w'.cell? ⟨gb332, 0, none⟩ = some (.int .i64 t324) ∧ w'.cell? ⟨gb332, 1, none⟩ = some (.int .i64 t325) ∧ w'.cell? ⟨gb332, 2, none⟩ = some (.int .i64 t326) ∧ w'.cell? ⟨gb332, 3, none⟩ = some (.bool t327) ∧ w'.cell? ⟨gb332, 4, none⟩ = some (.string t328) ∧ w'.cell? ⟨gb332, 5, none⟩ = some (.int .i64 t329) ∧ w'.cell? ⟨gb332, 6, none⟩ = some (.int .i64 t330) ∧ w'.cell? ⟨gb332, 7, none⟩ = some (.int .i64 t331)) (ds := []) #[false, false, false, false, false, false, false, false, false, false, false, false, false, false, false, false, false, false, false, false, false, false] (by kernel_rfl) rfl rfl ⟨bc_ BK340 0, bc_ BK340 1, bc_ BK340 2, bc_ BK332 0, bc_ BK332 1, bc_ BK332 2, bc_ BK332 3, bc_ BK332 4, bc_ BK332 5, bc_ BK332 6, bc_ BK332 7⟩ (fun hHeld => ?_); refine with_tabW florinlaw04_ShowDigits.tab26 florinlaw04_ShowDigits.bits26 (fun HT_ HW_ => ?_)
            generalize wc.drew = w283 at BK320 BK321 BK332 BK340 BK347 HB hHeld ⊢
            refine pu_ 0 124 (bm_ 22 1) HT_ ?_
            refine pu_ 3 127 (bm_ 22 9) HT_ ?_
            refine pu_ 4 128 (bm_ 22 25) HT_ ?_
            refine tk_ 1 125 (bm_ 22 27) HT_ HW_ hHeld rfl (by rintro w' ⟨s0, s1, s2, s3, s4, s5, s6, s7, s8, s9, s10⟩; go_simp; with_reducible rfl) ?_
            refine pu_ 2 126 (bm_ 22 31) HT_ ?_
            refine tk_ 5 129 (bm_ 22 63) HT_ HW_ hHeld rfl (by rintro w' ⟨s0, s1, s2, s3, s4, s5, s6, s7, s8, s9, s10⟩; go_simp; with_reducible rfl) ?_
            refine one_ (i := 6) (N := some 130) (bm_ 22 127) rfl rfl (one_of HT_.out (by kernel_rfl)) (by decide) (fun K hK => ?_)
            refine gs_ Tryd.func20 #[.string t338] ?_
            with_reducible refine (florinlaw04_trimEnd.calls kj76 t338 t356 _ A268.out).mono ?_
            rintro e w' ⟨rfl, ⟨nd, rfl⟩⟩
            refine ⟨_, rfl, ?_⟩
            refine hK.out _ _ ⟨bc_ BK340 0, bc_ BK340 1, bc_ BK340 2, bc_ BK332 0, bc_ BK332 1, bc_ BK332 2, bc_ BK332 3, bc_ BK332 4, bc_ BK332 5, bc_ BK332 6, bc_ BK332 7⟩ (fun hHeld => ?_)
            clear hK K
            refine nm_ 130 ?_
            refine pu_ 7 131 (bm_ 22 255) HT_ ?_
            refine pu_ 8 132 (bm_ 22 511) HT_ ?_
            refine pu_ 9 133 (bm_ 22 1023) HT_ ?_
            refine pu_ 10 134 (bm_ 22 2047) HT_ ?_
            refine pu_ 11 135 (bm_ 22 4095) HT_ ?_
            refine tk_ 12 136 (bm_ 22 8191) HT_ HW_ hHeld rfl (by rintro w' ⟨s0, s1, s2, s3, s4, s5, s6, s7, s8, s9, s10⟩; go_simp; with_reducible rfl) ?_
            refine pu_ 13 137 (bm_ 22 16383) HT_ ?_
            refine pu_ 14 138 (bm_ 22 32767) HT_ ?_
            refine pu_ 15 139 (bm_ 22 65535) HT_ ?_
            refine tk_ 16 140 (bm_ 22 131071) HT_ HW_ hHeld rfl (by rintro w' ⟨s0, s1, s2, s3, s4, s5, s6, s7, s8, s9, s10⟩; go_simp; with_reducible rfl) ?_
            refine pu_ 17 141 (bm_ 22 262143) HT_ ?_
            refine pu_ 18 142 (bm_ 22 524287) HT_ ?_
            refine pu_ 19 143 (bm_ 22 1048575) HT_ ?_
            refine pu_ 20 144 (bm_ 22 2097151) HT_ ?_
            refine pu_ 21 4 (bm_ 22 4194303) HT_ ?_
            refine done_ (done_of HT_.out (by kernel_rfl)) ?_
            try go_wp2
            go_ret
            exact ⟨by first | rfl | (simp [errW_none, errW_some] <;> rfl) | (simp only [← hji76, ← hji269]; first | rfl | (simp [errW_none, errW_some] <;> rfl)) | (simp [*, errW_none, errW_some] <;> first | rfl | exact given_isEmpty _ | exact (given_isEmpty _).symm), by repeat (first | (with_reducible first | exact HB.out | apply below_alloc | apply pw_below_drewN | apply below_drew1 | refine below_set ?_ GE320.out | refine below_set ?_ GE321.out | refine below_set ?_ GE332.out | refine below_set ?_ GE340.out | refine below_set ?_ GE347.out) | exact HB.out)⟩
          ·rw [if_neg c270] at H
           have c270b0 : ((t338.size : Int) == (ji269)) = false := beq_eq_false_iff_ne.mpr c270
           have c270b1 : ((t338.size : Int) != (ji269)) = true := bne_iff_ne.mpr c270
           obtain rfl := Option.some.inj H
           have hnb284 := NB332_320.out
           have hnc284 := NB320_332.out
           have hnb285 := NB332_321.out
           have hnc285 := NB321_332.out
           have hnb286 := NB332_340.out
           have hnc286 := NB340_332.out
           have hnb287 := NB332_347.out
           have hnc287 := NB347_332.out
           obtain ⟨hcz288_0, hcz288_1, hcz288_2, hcz288_3, hcz288_4, hcz288_5, hcz288_6, hcz288_7, hfz288_0, hfz288_1, hfz288_2, hfz288_3, hfz288_4, hfz288_5, hfz288_6, hfz288_7⟩ := bo8_ BK332
           try go_wp2
           replace BK320 := Aside0.mk (blk_drew BK320.out)
           replace BK321 := Aside0.mk (blk_drew BK321.out)
           replace BK332 := Aside0.mk (blk_drew BK332.out)
           replace BK340 := Aside0.mk (blk_drew BK340.out)
           replace BK347 := Aside0.mk (blk_drew BK347.out)
           replace HB := Aside0.mk (below_drew1 HB.out)
           refine start_ (n := 22) (S := fun w' => w'.cell? ⟨gb340, 0, none⟩ = some (.bool t336) ∧ w'.cell? ⟨gb340, 1, none⟩ = some (.string t337) ∧ w'.cell? ⟨gb340, 2, none⟩ = some (.string t338)) (ds := []) #[false, false, false, false, false, false, false, false, false, false, false, false, false, false, false, false, false, false, false, false, false, false] (by kernel_rfl) rfl rfl ⟨bc_ BK340 0, bc_ BK340 1, bc_ BK340 2⟩ (fun hHeld => ?_); refine with_tabW florinlaw04_ShowDigits.tab26 florinlaw04_ShowDigits.bits26 (fun HT_ HW_ => ?_)
           generalize wc.drew = w289 at BK320 BK321 BK332 BK340 BK347 HB hHeld ⊢
           refine pu_ 0 124 (bm_ 22 1) HT_ ?_
           refine pu_ 3 127 (bm_ 22 9) HT_ ?_
           refine pu_ 4 128 (bm_ 22 25) HT_ ?_
           refine tk_ 1 125 (bm_ 22 27) HT_ HW_ hHeld rfl (by rintro w' ⟨s0, s1, s2⟩; go_simp; with_reducible rfl) ?_
           refine pu_ 2 126 (bm_ 22 31) HT_ ?_
           refine tk_ 5 129 (bm_ 22 63) HT_ HW_ hHeld rfl (by rintro w' ⟨s0, s1, s2⟩; go_simp; with_reducible rfl) ?_
           refine one_ (i := 6) (N := some 130) (bm_ 22 127) rfl rfl (one_of HT_.out (by kernel_rfl)) (by decide) (fun K hK => ?_)
           refine gs_ Tryd.func20 #[.string t338] ?_
           with_reducible refine (florinlaw04_trimEnd.calls kj76 t338 t356 _ A268.out).mono ?_
           rintro e w' ⟨rfl, ⟨nd, rfl⟩⟩
           refine ⟨_, rfl, ?_⟩
           refine hK.out _ _ ⟨bc_ BK340 0, bc_ BK340 1, bc_ BK340 2⟩ (fun hHeld => ?_)
           clear hK K
           refine nm_ 130 ?_
           refine pu_ 7 131 (bm_ 22 255) HT_ ?_
           refine pu_ 8 132 (bm_ 22 511) HT_ ?_
           refine pu_ 9 133 (bm_ 22 1023) HT_ ?_
           refine pu_ 10 134 (bm_ 22 2047) HT_ ?_
           refine pn_ 11 135 (bm_ 22 4095) HT_ ?_
           refine pn_ 12 136 (bm_ 22 8191) HT_ ?_
           refine pn_ 13 137 (bm_ 22 16383) HT_ ?_
           refine pn_ 14 138 (bm_ 22 32767) HT_ ?_
           refine pn_ 15 139 (bm_ 22 65535) HT_ ?_
           refine pn_ 16 140 (bm_ 22 131071) HT_ ?_
           refine pn_ 17 141 (bm_ 22 262143) HT_ ?_
           refine pn_ 18 142 (bm_ 22 524287) HT_ ?_
           refine pn_ 19 143 (bm_ 22 1048575) HT_ ?_
           refine pu_ 20 144 (bm_ 22 2097151) HT_ ?_
           refine pu_ 21 4 (bm_ 22 4194303) HT_ ?_
           refine done_ (done_of HT_.out (by kernel_rfl)) ?_
           try go_wp2
           go_ret
           exact ⟨by first | rfl | (simp [errW_none, errW_some] <;> rfl) | (simp only [← hji76, ← hji269]; first | rfl | (simp [errW_none, errW_some] <;> rfl)) | (simp [*, errW_none, errW_some] <;> first | rfl | exact given_isEmpty _ | exact (given_isEmpty _).symm), by repeat (first | (with_reducible first | exact HB.out | apply below_alloc | apply pw_below_drewN | apply below_drew1 | refine below_set ?_ GE320.out | refine below_set ?_ GE321.out | refine below_set ?_ GE332.out | refine below_set ?_ GE340.out | refine below_set ?_ GE347.out) | exact HB.out)⟩
  ·replace c6 := Bool.eq_false_iff.mpr c6
   subst c6
   have H1 : (some true) = some r := by rw [if_neg (show ¬ (false = true) by decide)] at H; exact H
   clear H
   have H := H1
   clear H1
   obtain rfl := Option.some.inj H
   go_enter Tryd.func4, Tryd.ntmps4
   go_wp2_with (first | ((with_reducible refine gate_dst (N := 2) rfl ?_); (try (refine gate_guard (by rfl) ?_; dsimp only)); refine be_ 2 #[.bool a0_0, .slice A0_1 l0_1.length c0_1, .int .i64 a0_2] 24 ?_; intro gb320 hg w290 hbox hb; have BK320 := Aside0.mk (hbox); have GW320 := sz_ HB hg; have GE320 := sz_ HB hg; replace HB := Aside0.mk (below_step (bl_ HB).out hb); clear hb hbox hg) | ((with_reducible refine gate_dst (N := 3) rfl ?_); (try (refine gate_guard (by rfl) ?_; dsimp only)); refine be_ 3 #[.int .i64 a1_0, .int .i64 a1_1, .int .i64 a1_2, .int .i64 a1_3, .int .i64 a1_4, .int .i64 a1_5, .int .i64 a1_6] 42 ?_; intro gb321 hg w291 hbox hb; have BK321 := Aside0.mk (hbox); have GW321 := sz_ HB hg; have GE321 := sz_ HB hg; have NB320_321 := na_ BK320 hg; have NB321_320 := nb_ BK320 hg; replace BK320 := bb_ BK320 hb; replace HB := Aside0.mk (below_step (bl_ HB).out hb); clear hb hbox hg) | ((with_reducible refine gate_callee (f := 8) rfl ?_); refine gl_ (some 14) Tryd.func8 #[] ?_; (with_reducible refine (florinlaw04_head.calls k  true _ A3.out).mono ?_); rintro e w292 ⟨rfl, hb⟩; refine ⟨_, rfl, ?_⟩; replace BK320 := bb_ BK320 hb; replace BK321 := bb_ BK321 hb; replace HB := Aside0.mk (below_step (bl_ HB).out hb); (try clear hb); (try clear hb2); (try clear hk); (try clear hi); have hnb293 := NB320_321.out; have hnc293 := NB321_320.out; obtain ⟨hcz294_0, hcz294_1, hcz294_2, hfz294_0, hfz294_1, hfz294_2⟩ := bo3_ BK320) | ((with_reducible refine gate_callee (f := 15) rfl ?_); refine gl_ (some 17) Tryd.func15 #[.agg #[.bool a0_0, .slice A0_1 l0_1.length c0_1, .int .i64 a0_2], .int .i64 30] ?_; (with_reducible refine (florinlaw02_Raw_Few.calls a0_0 _ _ l0_1 a0_2 30 false _ ?side1 ?side2 A5.out).mono ?_); (case side1 => repeat (first | exact (Kd.C_below HR0_1.out HB.out) | (with_reducible refine Kd.C_alloc ?_ _) | (with_reducible refine Kd.C_drewN ?_ _) | (with_reducible refine Kd.C_drew ?_))); (case side2 => exact HC0_1.out); rintro e w295 ⟨rfl, hb⟩; refine ⟨_, rfl, ?_⟩; replace BK320 := bb_ BK320 hb; replace BK321 := bb_ BK321 hb; replace HB := Aside0.mk (below_step (bl_ HB).out hb); (try clear hb); (try clear hb2); (try clear hk); (try clear hi)))
   go_ret
   exact ⟨ew_, (bl_ HB).out⟩
 ·replace c4 := Bool.eq_false_iff.mpr c4
  subst c4
  have H1 : (some false) = some r := by rw [if_neg (show ¬ (false = true) by decide)] at H; exact H
  clear H
  have H := H1
  clear H1
  obtain rfl := Option.some.inj H
  go_enter Tryd.func4, Tryd.ntmps4
  go_wp2_with (first | ((with_reducible refine gate_dst (N := 2) rfl ?_); (try (refine gate_guard (by rfl) ?_; dsimp only)); refine be_ 2 #[.bool a0_0, .slice A0_1 l0_1.length c0_1, .int .i64 a0_2] 24 ?_; intro gb320 hg w296 hbox hb; have BK320 := Aside0.mk (hbox); have GW320 := sz_ HB hg; have GE320 := sz_ HB hg; replace HB := Aside0.mk (below_step (bl_ HB).out hb); clear hb hbox hg) | ((with_reducible refine gate_dst (N := 3) rfl ?_); (try (refine gate_guard (by rfl) ?_; dsimp only)); refine be_ 3 #[.int .i64 a1_0, .int .i64 a1_1, .int .i64 a1_2, .int .i64 a1_3, .int .i64 a1_4, .int .i64 a1_5, .int .i64 a1_6] 42 ?_; intro gb321 hg w297 hbox hb; have BK321 := Aside0.mk (hbox); have GW321 := sz_ HB hg; have GE321 := sz_ HB hg; have NB320_321 := na_ BK320 hg; have NB321_320 := nb_ BK320 hg; replace BK320 := bb_ BK320 hb; replace HB := Aside0.mk (below_step (bl_ HB).out hb); clear hb hbox hg) | ((with_reducible refine gate_callee (f := 8) rfl ?_); refine gl_ (some 14) Tryd.func8 #[] ?_; (with_reducible refine (florinlaw04_head.calls k  false _ A3.out).mono ?_); rintro e w298 ⟨rfl, hb⟩; refine ⟨_, rfl, ?_⟩; replace BK320 := bb_ BK320 hb; replace BK321 := bb_ BK321 hb; replace HB := Aside0.mk (below_step (bl_ HB).out hb); (try clear hb); (try clear hb2); (try clear hk); (try clear hi)))
  go_ret
  exact ⟨ew_, (bl_ HB).out⟩

end Go.Proofs.YthkpmiajcmihjaaDoor.P
