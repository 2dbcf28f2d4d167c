-- written by a program of this session (wip/p2)
import Derived.Test.YtlkiaeipbekpkaaDoorPx0
import Derived.Test.YtlkiaeipbekpkaaDoorPx1
import Derived.Test.YtlkiaeipbekpkaaDoorPx3
import Derived.Test.YtlkiaeipbekpkaaDoorPx4
import Derived.Test.YtlkiaeipbekpkaaDoorPx9
import Derived.Test.YtlkiaeipbekpkaaDoorPx11
import Derived.Test.YtlkiaeipbekpkaaDoorPx19
import Derived.Test.YtlkiaeipbekpkaaDoorPx20
import Derived.Test.YtlkiaeipbekpkaaDoorPx23
import Derived.Test.YtlkiaeipbekpkaaDoorPx25
namespace Go.Proofs.YtlkiaeipbekpkaaDoor.P
open Go.RowKit Go.Proofs.YtlkiaeipbekpkaaDoorW.PrintWords Go.Proofs.YtlkiaeipbekpkaaDoorW.PrintLast Go.Proofs.YtlkiaeipbekpkaaDoorW.PrintMore
attribute [local go_sem] max2_int min2_int max_two min_two max_three min_three max_four min_four   -- for this text's walks alone
set_option linter.unusedVariables false
set_option linter.unusedSimpArgs false

attribute [local go_sem high] eqA24
/-! ### florinlaw02_DecOrders: function 10 -/
mutual
def florinlaw02_DecOrders.j0 : Nat → Bool → Bool → List Int → Int → Bool → List Int → Int → Bool → List Int → Int → Option (Bool)
 | 0, _, _, _, _, _, _, _, _, _, _ => none
 | k + 1, x26, x552000, x552001, x552002, x553000, x553001, x553002, x554000, x554001, x554002 => if x26 = true then (some true) else ((florinlaw02_Raw_Make.f k x552000 x552001 x552002).bind fun bt558 => ((florinlaw02_Raw_Make.f k x553000 x553001 x553002).bind fun bt562 => ((florinlaw02_Raw_Make.f k x554000 x554001 x554002).bind fun bt566 => ((dec_Cmp.f k bt558.1 bt558.2.1 bt558.2.2 bt562.1 bt562.2.1 bt562.2.2).bind fun t570 => ((dec_Cmp.f k bt562.1 bt562.2.1 bt562.2.2 bt558.1 bt558.2.1 bt558.2.2).bind fun t571 => (if t570 = (wrap64 (-t571)) then ((dec_Dec_Norm.f k bt558.1 bt558.2.1 bt558.2.2).bind fun bt572 => ((dec_Dec_Norm.f k bt562.1 bt562.2.1 bt562.2.2).bind fun bt575 => (if ((t570 == 0) != (bt572.1 == bt575.1 && (bt572.2.1.toList == bt575.2.1.toList && (bt572.2.2 == bt575.2.2)))) = true then (florinlaw02_DecOrders.j1 k t570 true bt558.1 bt558.2.1 bt558.2.2 bt562.1 bt562.2.1 bt562.2.2 bt566.1 bt566.2.1 bt566.2.2) else ((dec_Dec_Minus.f k bt558.1 bt558.2.1 bt558.2.2).bind fun bt578 => ((dec_Dec_Minus.f k bt562.1 bt562.2.1 bt562.2.2).bind fun bt581 => ((dec_Cmp.f k bt578.1 bt578.2.1 bt578.2.2 bt581.1 bt581.2.1 bt581.2.2).bind fun t584 => (if t584 = (wrap64 (-t570)) then ((dec_Add.f k bt558.1 bt558.2.1 bt558.2.2 bt566.1 bt566.2.1 bt566.2.2).bind fun bt585 => ((dec_Add.f k bt562.1 bt562.2.1 bt562.2.2 bt566.1 bt566.2.1 bt566.2.2).bind fun bt588 => ((dec_Cmp.f k bt585.1 bt585.2.1 bt585.2.2 bt588.1 bt588.2.1 bt588.2.2).bind fun t591 => (florinlaw02_DecOrders.j1 k t570 (t591 != t570) bt558.1 bt558.2.1 bt558.2.2 bt562.1 bt562.2.1 bt562.2.2 bt566.1 bt566.2.1 bt566.2.2)))) else (florinlaw02_DecOrders.j1 k t570 true bt558.1 bt558.2.1 bt558.2.2 bt562.1 bt562.2.1 bt562.2.2 bt566.1 bt566.2.1 bt566.2.2)))))))) else (florinlaw02_DecOrders.j1 k t570 true bt558.1 bt558.2.1 bt558.2.2 bt562.1 bt562.2.1 bt562.2.2 bt566.1 bt566.2.1 bt566.2.2)))))))
def florinlaw02_DecOrders.j1 : Nat → Int → Bool → Bool → ByteArray → Int → Bool → ByteArray → Int → Bool → ByteArray → Int → Option (Bool)
 | 0, _, _, _, _, _, _, _, _, _, _, _ => none
 | k + 1, x10, x72, x562000, x562001, x562002, x566000, x566001, x566002, x570000, x570001, x570002 => if x72 = true then (some false) else (if x10 ≤ 0 then ((dec_Cmp.f k x566000 x566001 x566002 x570000 x570001 x570002).bind fun t592 => (if t592 ≤ 0 then ((dec_Cmp.f k x562000 x562001 x562002 x570000 x570001 x570002).bind fun t593 => (florinlaw02_DecOrders.j2 k (decide (t593 > 0)) x562000 x562001 x562002 x566000 x566001 x566002)) else (florinlaw02_DecOrders.j2 k false x562000 x562001 x562002 x566000 x566001 x566002))) else (florinlaw02_DecOrders.j2 k false x562000 x562001 x562002 x566000 x566001 x566002))
def florinlaw02_DecOrders.j2 : Nat → Bool → Bool → ByteArray → Int → Bool → ByteArray → Int → Option (Bool)
 | 0, _, _, _, _, _, _, _ => none
 | k + 1, x86, x562000, x562001, x562002, x566000, x566001, x566002 => if x86 = true then (some false) else ((dec_Dec_Abs.f k x562000 x562001 x562002).bind fun bt594 => ((florinlaw02_Places.f k bt594.1 bt594.2.1 bt594.2.2 50).bind fun t597 => ((dec_Dec_Abs.f k x566000 x566001 x566002).bind fun bt598 => ((florinlaw02_Places.f k bt598.1 bt598.2.1 bt598.2.2 50).bind fun t601 => ((num_Cmp.f k t597 t601).bind fun t602 => ((dec_Dec_Abs.f k x562000 x562001 x562002).bind fun bt603 => ((dec_Dec_Abs.f k x566000 x566001 x566002).bind fun bt606 => ((dec_Cmp.f k bt603.1 bt603.2.1 bt603.2.2 bt606.1 bt606.2.1 bt606.2.2).bind fun t609 => (if t609 = t602 then ((dec_Dec_Minus.f k x562000 x562001 x562002).bind fun bt610 => ((dec_Dec_Minus.f k bt610.1 bt610.2.1 bt610.2.2).bind fun bt613 => ((dec_Dec_Norm.f k x562000 x562001 x562002).bind fun bt616 => (if (bt613.1 == bt616.1 && (bt613.2.1.toList == bt616.2.1.toList && (bt613.2.2 == bt616.2.2))) = true then ((dec_Dec_Abs.f k x562000 x562001 x562002).bind fun bt619 => ((dec_Cmp.f k bt619.1 bt619.2.1 bt619.2.2 false (⟨#[]⟩ : ByteArray) 0).bind fun t622 => ((dec_Dec_Norm.f k x562000 x562001 x562002).bind fun bt623 => (some (t622 == (mn 1 (bt623.2.1.size : Int))))))) else (some false))))) else (some false))))))))))
end
def florinlaw02_DecOrders.f (k : Nat) (a0_0 : Bool) (l0_1 : List Int) (a0_2 : Int) (a1_0 : Bool) (l1_1 : List Int) (a1_2 : Int) (a2_0 : Bool) (l2_1 : List Int) (a2_2 : Int) : Option (Bool) := (florinlaw02_head.f k).bind fun t554 => (if t554 = true then ((florinlaw02_Raw_Few.f a0_0 l0_1 a0_2 50).bind fun t555 => (if t555 = true then ((florinlaw02_Raw_Few.f a1_0 l1_1 a1_2 50).bind fun t556 => (if t556 = true then ((florinlaw02_Raw_Few.f a2_0 l2_1 a2_2 50).bind fun t557 => (florinlaw02_DecOrders.j0 k (!t557) a0_0 l0_1 a0_2 a1_0 l1_1 a1_2 a2_0 l2_1 a2_2)) else (florinlaw02_DecOrders.j0 k true a0_0 l0_1 a0_2 a1_0 l1_1 a1_2 a2_0 l2_1 a2_2))) else (florinlaw02_DecOrders.j0 k true a0_0 l0_1 a0_2 a1_0 l1_1 a1_2 a2_0 l2_1 a2_2))) else (some false))
theorem florinlaw02_DecOrders.mono_l : ∀ k, (∀ y0 y1 y2 y3 y4 y5 y6 y7 y8 y9, LeO (florinlaw02_DecOrders.j0 k y0 y1 y2 y3 y4 y5 y6 y7 y8 y9) (florinlaw02_DecOrders.j0 (k + 1) y0 y1 y2 y3 y4 y5 y6 y7 y8 y9)) ∧ (∀ y0 y1 y2 y3 y4 y5 y6 y7 y8 y9 y10, LeO (florinlaw02_DecOrders.j1 k y0 y1 y2 y3 y4 y5 y6 y7 y8 y9 y10) (florinlaw02_DecOrders.j1 (k + 1) y0 y1 y2 y3 y4 y5 y6 y7 y8 y9 y10)) ∧ (∀ y0 y1 y2 y3 y4 y5 y6, LeO (florinlaw02_DecOrders.j2 k y0 y1 y2 y3 y4 y5 y6) (florinlaw02_DecOrders.j2 (k + 1) y0 y1 y2 y3 y4 y5 y6))
 | 0 => ⟨fun _ _ _ _ _ _ _ _ _ _ r h => by simp [florinlaw02_DecOrders.j0] at h, fun _ _ _ _ _ _ _ _ _ _ _ r h => by simp [florinlaw02_DecOrders.j1] at h, fun _ _ _ _ _ _ _ r h => by simp [florinlaw02_DecOrders.j2] at h⟩
 | k + 1 => by
  obtain ⟨ih0, ih1, ih2⟩ := florinlaw02_DecOrders.mono_l k
  refine ⟨?_, ?_, ?_⟩
  ·intro y0 y1 y2 y3 y4 y5 y6 y7 y8 y9
   unfold florinlaw02_DecOrders.j0
   repeat' first
   | (with_reducible exact ih0 _ _ _ _ _ _ _ _ _ _)
   | (with_reducible exact ih1 _ _ _ _ _ _ _ _ _ _ _)
   | (with_reducible exact ih2 _ _ _ _ _ _ _)
   | (with_reducible exact dec_Add.mono _ _ _ _ _ _ _)
   | (with_reducible exact dec_Cmp.mono _ _ _ _ _ _ _)
   | (with_reducible exact dec_Dec_Abs.mono _ _ _ _)
   | (with_reducible exact dec_Dec_Minus.mono _ _ _ _)
   | (with_reducible exact dec_Dec_Norm.mono _ _ _ _)
   | (with_reducible exact florinlaw02_Places.mono _ _ _ _ _)
   | (with_reducible exact florinlaw02_Raw_Make.mono _ _ _ _)
   | (with_reducible exact florinlaw02_head.mono _)
   | (with_reducible exact num_Cmp.mono _ _ _)
   | (with_reducible exact LeO.refl _)
   | (with_reducible exact LeO.none _)
   | (with_reducible refine LeO.ite ?_ ?_)
   | (with_reducible refine LeO.bind ?_ (fun _ => ?_))
   | exact ih0 _ _ _ _ _ _ _ _ _ _
   | exact ih1 _ _ _ _ _ _ _ _ _ _ _
   | exact ih2 _ _ _ _ _ _ _
   | exact dec_Add.mono _ _ _ _ _ _ _
   | exact dec_Cmp.mono _ _ _ _ _ _ _
   | exact dec_Dec_Abs.mono _ _ _ _
   | exact dec_Dec_Minus.mono _ _ _ _
   | exact dec_Dec_Norm.mono _ _ _ _
   | exact florinlaw02_Places.mono _ _ _ _ _
   | exact florinlaw02_Raw_Make.mono _ _ _ _
   | exact florinlaw02_head.mono _
   | exact num_Cmp.mono _ _ _
   | exact LeO.none _
   | refine LeO.ite ?_ ?_
   | refine LeO.bind ?_ (fun _ => ?_)
  ·intro y0 y1 y2 y3 y4 y5 y6 y7 y8 y9 y10
   unfold florinlaw02_DecOrders.j1
   repeat' first
   | (with_reducible exact ih0 _ _ _ _ _ _ _ _ _ _)
   | (with_reducible exact ih1 _ _ _ _ _ _ _ _ _ _ _)
   | (with_reducible exact ih2 _ _ _ _ _ _ _)
   | (with_reducible exact dec_Add.mono _ _ _ _ _ _ _)
   | (with_reducible exact dec_Cmp.mono _ _ _ _ _ _ _)
   | (with_reducible exact dec_Dec_Abs.mono _ _ _ _)
   | (with_reducible exact dec_Dec_Minus.mono _ _ _ _)
   | (with_reducible exact dec_Dec_Norm.mono _ _ _ _)
   | (with_reducible exact florinlaw02_Places.mono _ _ _ _ _)
   | (with_reducible exact florinlaw02_Raw_Make.mono _ _ _ _)
   | (with_reducible exact florinlaw02_head.mono _)
   | (with_reducible exact num_Cmp.mono _ _ _)
   | (with_reducible exact LeO.refl _)
   | (with_reducible exact LeO.none _)
   | (with_reducible refine LeO.ite ?_ ?_)
   | (with_reducible refine LeO.bind ?_ (fun _ => ?_))
   | exact ih0 _ _ _ _ _ _ _ _ _ _
   | exact ih1 _ _ _ _ _ _ _ _ _ _ _
   | exact ih2 _ _ _ _ _ _ _
   | exact dec_Add.mono _ _ _ _ _ _ _
   | exact dec_Cmp.mono _ _ _ _ _ _ _
   | exact dec_Dec_Abs.mono _ _ _ _
   | exact dec_Dec_Minus.mono _ _ _ _
   | exact dec_Dec_Norm.mono _ _ _ _
   | exact florinlaw02_Places.mono _ _ _ _ _
   | exact florinlaw02_Raw_Make.mono _ _ _ _
   | exact florinlaw02_head.mono _
   | exact num_Cmp.mono _ _ _
   | exact LeO.none _
   | refine LeO.ite ?_ ?_
   | refine LeO.bind ?_ (fun _ => ?_)
  ·intro y0 y1 y2 y3 y4 y5 y6
   unfold florinlaw02_DecOrders.j2
   repeat' first
   | (with_reducible exact ih0 _ _ _ _ _ _ _ _ _ _)
   | (with_reducible exact ih1 _ _ _ _ _ _ _ _ _ _ _)
   | (with_reducible exact ih2 _ _ _ _ _ _ _)
   | (with_reducible exact dec_Add.mono _ _ _ _ _ _ _)
   | (with_reducible exact dec_Cmp.mono _ _ _ _ _ _ _)
   | (with_reducible exact dec_Dec_Abs.mono _ _ _ _)
   | (with_reducible exact dec_Dec_Minus.mono _ _ _ _)
   | (with_reducible exact dec_Dec_Norm.mono _ _ _ _)
   | (with_reducible exact florinlaw02_Places.mono _ _ _ _ _)
   | (with_reducible exact florinlaw02_Raw_Make.mono _ _ _ _)
   | (with_reducible exact florinlaw02_head.mono _)
   | (with_reducible exact num_Cmp.mono _ _ _)
   | (with_reducible exact LeO.refl _)
   | (with_reducible exact LeO.none _)
   | (with_reducible refine LeO.ite ?_ ?_)
   | (with_reducible refine LeO.bind ?_ (fun _ => ?_))
   | exact ih0 _ _ _ _ _ _ _ _ _ _
   | exact ih1 _ _ _ _ _ _ _ _ _ _ _
   | exact ih2 _ _ _ _ _ _ _
   | exact dec_Add.mono _ _ _ _ _ _ _
   | exact dec_Cmp.mono _ _ _ _ _ _ _
   | exact dec_Dec_Abs.mono _ _ _ _
   | exact dec_Dec_Minus.mono _ _ _ _
   | exact dec_Dec_Norm.mono _ _ _ _
   | exact florinlaw02_Places.mono _ _ _ _ _
   | exact florinlaw02_Raw_Make.mono _ _ _ _
   | exact florinlaw02_head.mono _
   | exact num_Cmp.mono _ _ _
   | exact LeO.none _
   | refine LeO.ite ?_ ?_
   | refine LeO.bind ?_ (fun _ => ?_)
theorem florinlaw02_DecOrders.mono : ∀ a0 a1 a2 a3 a4 a5 a6 a7 a8 k, LeO (florinlaw02_DecOrders.f k a0 a1 a2 a3 a4 a5 a6 a7 a8) (florinlaw02_DecOrders.f (k + 1) a0 a1 a2 a3 a4 a5 a6 a7 a8) := by
 intro a0 a1 a2 a3 a4 a5 a6 a7 a8 k
 obtain ⟨ih0, ih1, ih2⟩ := florinlaw02_DecOrders.mono_l k
 unfold florinlaw02_DecOrders.f
 repeat' first
   | (with_reducible exact ih0 _ _ _ _ _ _ _ _ _ _)
   | (with_reducible exact ih1 _ _ _ _ _ _ _ _ _ _ _)
   | (with_reducible exact ih2 _ _ _ _ _ _ _)
   | (with_reducible exact dec_Add.mono _ _ _ _ _ _ _)
   | (with_reducible exact dec_Cmp.mono _ _ _ _ _ _ _)
   | (with_reducible exact dec_Dec_Abs.mono _ _ _ _)
   | (with_reducible exact dec_Dec_Minus.mono _ _ _ _)
   | (with_reducible exact dec_Dec_Norm.mono _ _ _ _)
   | (with_reducible exact florinlaw02_Places.mono _ _ _ _ _)
   | (with_reducible exact florinlaw02_Raw_Make.mono _ _ _ _)
   | (with_reducible exact florinlaw02_head.mono _)
   | (with_reducible exact num_Cmp.mono _ _ _)
   | (with_reducible exact LeO.refl _)
   | (with_reducible exact LeO.none _)
   | (with_reducible refine LeO.ite ?_ ?_)
   | (with_reducible refine LeO.bind ?_ (fun _ => ?_))
   | exact ih0 _ _ _ _ _ _ _ _ _ _
   | exact ih1 _ _ _ _ _ _ _ _ _ _ _
   | exact ih2 _ _ _ _ _ _ _
   | exact dec_Add.mono _ _ _ _ _ _ _
   | exact dec_Cmp.mono _ _ _ _ _ _ _
   | exact dec_Dec_Abs.mono _ _ _ _
   | exact dec_Dec_Minus.mono _ _ _ _
   | exact dec_Dec_Norm.mono _ _ _ _
   | exact florinlaw02_Places.mono _ _ _ _ _
   | exact florinlaw02_Raw_Make.mono _ _ _ _
   | exact florinlaw02_head.mono _
   | exact num_Cmp.mono _ _ _
   | exact LeO.none _
   | refine LeO.ite ?_ ?_
   | refine LeO.bind ?_ (fun _ => ?_)
def florinlaw02_DecOrders.T9 : Bool × List (List Nat × List Nat) := (true, [([], []), ([], []), ([], []), ([1, 2], [1, 2]), ([3], [3]), ([0, 4], [0, 4]), ([5, 3], [5]), ([6], [6]), ([7, 6], [6, 7]), ([6], [6]), ([9, 6, 6], [6, 9]), ([6], [6]), ([11, 10, 6], [6, 11]), ([10, 12, 6], [6, 10, 12]), ([8, 13, 6], [6, 8, 13]), ([6, 14], [6, 14]), ([15, 12], [15]), ([16], [16]), ([17, 16, 16], [16, 17]), ([16], [16]), ([19, 18, 16], [16, 19]), ([18, 20, 20, 16], [16, 18, 20]), ([16], [16]), ([22, 16], [16, 22]), ([21, 23, 16], [16, 21, 23]), ([16, 24], [16, 24]), ([25, 21], [25]), ([26], [26]), ([26], [26]), ([27, 28, 26, 26], [26, 27, 28]), ([26], [26]), ([26], [26]), ([30, 31, 29, 26], [26, 30, 31]), ([29, 32, 32, 26], [26, 29, 32]), ([26], [26]), ([33, 34, 26], [26, 33, 34]), ([26, 35], [26, 35])])
def florinlaw02_DecOrders.B9 : List Nat := [0, 0, 0, 6, 14, 31, 63, 127, 255, 127, 639, 127, 3711, 7807, 16383, 32767, 65535, 131071, 262143, 131071, 1048575, 2097151, 131071, 4325375, 16777215, 33554431, 67108863, 134217727, 134217727, 536870911, 134217727, 134217727, 4294967295, 8589934591, 134217727, 34359738367, 68719476735]
theorem florinlaw02_DecOrders.tab9 : rtab .any (opsOf Tryd.f10 9) = florinlaw02_DecOrders.T9 := by kernel_rfl
theorem florinlaw02_DecOrders.bits9 : waitsOk florinlaw02_DecOrders.T9.2 florinlaw02_DecOrders.B9 = true := by kernel_rfl
def florinlaw02_DecOrders.T13 : Bool × List (List Nat × List Nat) := (true, [([], []), ([0], [0]), ([1, 1], [1]), ([], []), ([3, 2], [3]), ([4, 4], [4]), ([2, 5, 5], [2, 5]), ([6, 6, 0, 1, 2, 3, 4, 5, 6], [6])])
def florinlaw02_DecOrders.B13 : List Nat := [0, 1, 3, 0, 15, 31, 63, 127]
theorem florinlaw02_DecOrders.tab13 : rtab .any (opsOf Tryd.f10 13) = florinlaw02_DecOrders.T13 := by kernel_rfl
theorem florinlaw02_DecOrders.bits13 : waitsOk florinlaw02_DecOrders.T13.2 florinlaw02_DecOrders.B13 = true := by kernel_rfl
def florinlaw02_DecOrders.T14 : Bool × List (List Nat × List Nat) := (true, [([], []), ([0], [0]), ([], []), ([2, 1], [2]), ([1, 3, 3], [1, 3]), ([], []), ([4, 5], [4, 5]), ([6, 4], [6]), ([7], [7]), ([8, 7, 7], [7, 8]), ([9, 9, 7], [7, 9]), ([7], [7]), ([11, 10, 7], [7, 11]), ([10, 12, 7], [7, 10, 12]), ([7, 13], [7, 13]), ([14, 12], [14]), ([15], [15]), ([16, 15, 15], [15, 16]), ([15], [15]), ([17, 18, 17, 15], [15, 17, 18]), ([15], [15]), ([20, 19, 15], [15, 20]), ([21, 15], [15, 21]), ([22, 15], [15, 22]), ([23, 15], [15, 23]), ([19, 24, 15], [15, 19, 24]), ([15, 25], [15, 25]), ([26, 21, 0, 1, 2, 3, 4, 5, 6, 7, 8, 9, 10, 11, 12, 13, 14, 15, 16, 17, 18, 19, 20, 21, 22, 23, 24, 25, 26], [26])])
def florinlaw02_DecOrders.B14 : List Nat := [0, 1, 0, 7, 15, 0, 63, 127, 255, 511, 1023, 255, 4095, 8191, 16383, 32767, 65535, 131071, 65535, 524287, 65535, 2097151, 4194303, 8388607, 16777215, 33554431, 67108863, 134217727]
theorem florinlaw02_DecOrders.tab14 : rtab .any (opsOf Tryd.f10 14) = florinlaw02_DecOrders.T14 := by kernel_rfl
theorem florinlaw02_DecOrders.bits14 : waitsOk florinlaw02_DecOrders.T14.2 florinlaw02_DecOrders.B14 = true := by kernel_rfl
set_option maxHeartbeats 8000000 in
set_option maxRecDepth 100000 in
theorem florinlaw02_DecOrders.calls (k : Nat) (a0_0 : Bool) (A0_1 : Option Addr) (c0_1 : Nat) (l0_1 : List Int) (a0_2 : Int) (a1_0 : Bool) (A1_1 : Option Addr) (c1_1 : Nat) (l1_1 : List Int) (a1_2 : Int) (a2_0 : Bool) (A2_1 : Option Addr) (c2_1 : Nat) (l2_1 : List Int) (a2_2 : Int) (r : Bool) (w : World) (hr0_1 : Kd.C (Kd.int .u8) w A0_1 l0_1.length l0_1) (hc0_1 : l0_1.length ≤ c0_1) (hr1_1 : Kd.C (Kd.int .u8) w A1_1 l1_1.length l1_1) (hc1_1 : l1_1.length ≤ c1_1) (hr2_1 : Kd.C (Kd.int .u8) w A2_1 l2_1.length l2_1) (hc2_1 : l2_1.length ≤ c2_1) (h : florinlaw02_DecOrders.f k a0_0 l0_1 a0_2 a1_0 l1_1 a1_2 a2_0 l2_1 a2_2 = some r) (ht : Lib.TabIs Tryd.prog w "internal/strconv.uint64pow10" .u64 Lib.pow10Tab := by first | assumption | exact tb_ (by assumption) (bl_ (by assumption)).out) :
  Calls Tryd.prog 10 #[.agg #[.bool a0_0, .slice A0_1 l0_1.length c0_1, .int .i64 a0_2], .agg #[.bool a1_0, .slice A1_1 l1_1.length c1_1, .int .i64 a1_2], .agg #[.bool a2_0, .slice A2_1 l2_1.length c2_1, .int .i64 a2_2]] w fun e w' => e = .returned (.bool r) ∧ Below w.heap.size w w' := by
 have hu33 := Tryd.underlying33
 have hu24 := Tryd.underlying24
 have HR0_1 := Aside0.mk hr0_1
 have HC0_1 := Aside0.mk hc0_1
 clear hr0_1 hc0_1
 have HR1_1 := Aside0.mk hr1_1
 have HC1_1 := Aside0.mk hc1_1
 clear hr1_1 hc1_1
 have HR2_1 := Aside0.mk hr2_1
 have HC2_1 := Aside0.mk hc2_1
 clear hr2_1 hc2_1
 have HB := Aside0.mk (Below.refl w.heap.size w)
 have H : ((florinlaw02_head.f k).bind fun t554 => (if t554 = true then ((florinlaw02_Raw_Few.f a0_0 l0_1 a0_2 50).bind fun t555 => (if t555 = true then ((florinlaw02_Raw_Few.f a1_0 l1_1 a1_2 50).bind fun t556 => (if t556 = true then ((florinlaw02_Raw_Few.f a2_0 l2_1 a2_2 50).bind fun t557 => (florinlaw02_DecOrders.j0 k (!t557) a0_0 l0_1 a0_2 a1_0 l1_1 a1_2 a2_0 l2_1 a2_2)) else (florinlaw02_DecOrders.j0 k true a0_0 l0_1 a0_2 a1_0 l1_1 a1_2 a2_0 l2_1 a2_2))) else (florinlaw02_DecOrders.j0 k true a0_0 l0_1 a0_2 a1_0 l1_1 a1_2 a2_0 l2_1 a2_2))) else (some false))) = some r := h
 clear h
 replace H := Option.bind_eq_some_iff.mp H
 obtain ⟨t554, A40, H⟩ := H
 replace H : (if t554 = true then ((florinlaw02_Raw_Few.f a0_0 l0_1 a0_2 50).bind fun t555 => (if t555 = true then ((florinlaw02_Raw_Few.f a1_0 l1_1 a1_2 50).bind fun t556 => (if t556 = true then ((florinlaw02_Raw_Few.f a2_0 l2_1 a2_2 50).bind fun t557 => (florinlaw02_DecOrders.j0 k (!t557) a0_0 l0_1 a0_2 a1_0 l1_1 a1_2 a2_0 l2_1 a2_2)) else (florinlaw02_DecOrders.j0 k true a0_0 l0_1 a0_2 a1_0 l1_1 a1_2 a2_0 l2_1 a2_2))) else (florinlaw02_DecOrders.j0 k true a0_0 l0_1 a0_2 a1_0 l1_1 a1_2 a2_0 l2_1 a2_2))) else (some false)) = some r := H
 have A4 := Aside0.mk A40
 clear A40
 by_cases c5 : t554 = true
 ·subst c5
  have H1 : ((florinlaw02_Raw_Few.f a0_0 l0_1 a0_2 50).bind fun t555 => (if t555 = true then ((florinlaw02_Raw_Few.f a1_0 l1_1 a1_2 50).bind fun t556 => (if t556 = true then ((florinlaw02_Raw_Few.f a2_0 l2_1 a2_2 50).bind fun t557 => (florinlaw02_DecOrders.j0 k (!t557) a0_0 l0_1 a0_2 a1_0 l1_1 a1_2 a2_0 l2_1 a2_2)) else (florinlaw02_DecOrders.j0 k true a0_0 l0_1 a0_2 a1_0 l1_1 a1_2 a2_0 l2_1 a2_2))) else (florinlaw02_DecOrders.j0 k true a0_0 l0_1 a0_2 a1_0 l1_1 a1_2 a2_0 l2_1 a2_2))) = some r := by rw [if_pos rfl] at H; exact H
  clear H
  have H := H1
  clear H1
  have HC6 := Aside0.mk H
  clear H
  go_enter Tryd.func10, Tryd.ntmps10
  go_upto_region 3 with (first | ((with_reducible refine gate_dst (N := 3) rfl ?_); (try (refine gate_guard (by rfl) ?_; dsimp only)); refine box_event ?hg (N := 3) ?hd (cs := #[.bool a0_0, .slice A0_1 l0_1.length c0_1, .int .i64 a0_2]) (t := 33) ?hr ?_; (case hd => rfl); (case hg => rfl); (case hr => first | (go_simp; done) | (go_simp; rfl)); intro gb551 hg w7 hbox hb; have n0_ := Aside0.mk (below_step (bl_ HB).out hb); have n1_ := Aside0.mk (hbox); have n2_ := Aside0.mk ((by rw [hg]; exact (below_size (bl_ HB).out) : w.heap.size ≤ gb551)); have n3_ := Aside0.mk ((by rw [hg]; exact (below_size (bl_ HB).out) : w.heap.size ≤ gb551)); clear HB; have HB := n0_; have BK551 := n1_; have GW551 := n2_; have GE551 := n3_; clear n0_ n1_ n2_ n3_; clear hb hbox hg) | ((with_reducible refine gate_dst (N := 4) rfl ?_); (try (refine gate_guard (by rfl) ?_; dsimp only)); refine box_event ?hg (N := 4) ?hd (cs := #[.bool a1_0, .slice A1_1 l1_1.length c1_1, .int .i64 a1_2]) (t := 33) ?hr ?_; (case hd => rfl); (case hg => rfl); (case hr => first | (go_simp; done) | (go_simp; rfl)); intro gb552 hg w8 hbox hb; have n0_ := bb_ BK551 hb; have n1_ := Aside0.mk (below_step (bl_ HB).out hb); have n2_ := Aside0.mk (hbox); have n3_ := Aside0.mk ((by rw [hg]; exact (below_size (bl_ HB).out) : w.heap.size ≤ gb552)); have n4_ := Aside0.mk ((by rw [hg]; exact (below_size (bl_ HB).out) : w.heap.size ≤ gb552)); have n5_ := Aside0.mk ((by rw [hg]; exact Nat.ne_of_lt (blk_lt (g := gb551) (o := .cells #[.bool a0_0, .slice A0_1 l0_1.length c0_1, .int .i64 a0_2] 33 (0, 0)) (by (with_reducible repeat (first | refine blk_drewN ?_ _ | refine blk_drew ?_ | refine blk_alloc ?_ _)); exact BK551.out)) : gb551 ≠ gb552)); have n6_ := Aside0.mk ((by rw [hg]; exact Nat.ne_of_gt (blk_lt (g := gb551) (o := .cells #[.bool a0_0, .slice A0_1 l0_1.length c0_1, .int .i64 a0_2] 33 (0, 0)) (by (with_reducible repeat (first | refine blk_drewN ?_ _ | refine blk_drew ?_ | refine blk_alloc ?_ _)); exact BK551.out)) : gb552 ≠ gb551)); clear BK551; clear HB; have BK551 := n0_; have HB := n1_; have BK552 := n2_; have GW552 := n3_; have GE552 := n4_; have NB551_552 := n5_; have NB552_551 := n6_; clear n0_ n1_ n2_ n3_ n4_ n5_ n6_; clear hb hbox hg) | ((with_reducible refine gate_dst (N := 5) rfl ?_); (try (refine gate_guard (by rfl) ?_; dsimp only)); refine box_event ?hg (N := 5) ?hd (cs := #[.bool a2_0, .slice A2_1 l2_1.length c2_1, .int .i64 a2_2]) (t := 33) ?hr ?_; (case hd => rfl); (case hg => rfl); (case hr => first | (go_simp; done) | (go_simp; rfl)); intro gb553 hg w9 hbox hb; have n0_ := bb_ BK551 hb; have n1_ := bb_ BK552 hb; have n2_ := Aside0.mk (below_step (bl_ HB).out hb); have n3_ := Aside0.mk (hbox); have n4_ := Aside0.mk ((by rw [hg]; exact (below_size (bl_ HB).out) : w.heap.size ≤ gb553)); have n5_ := Aside0.mk ((by rw [hg]; exact (below_size (bl_ HB).out) : w.heap.size ≤ gb553)); have n6_ := Aside0.mk ((by rw [hg]; exact Nat.ne_of_lt (blk_lt (g := gb551) (o := .cells #[.bool a0_0, .slice A0_1 l0_1.length c0_1, .int .i64 a0_2] 33 (0, 0)) (by (with_reducible repeat (first | refine blk_drewN ?_ _ | refine blk_drew ?_ | refine blk_alloc ?_ _)); exact BK551.out)) : gb551 ≠ gb553)); have n7_ := Aside0.mk ((by rw [hg]; exact Nat.ne_of_gt (blk_lt (g := gb551) (o := .cells #[.bool a0_0, .slice A0_1 l0_1.length c0_1, .int .i64 a0_2] 33 (0, 0)) (by (with_reducible repeat (first | refine blk_drewN ?_ _ | refine blk_drew ?_ | refine blk_alloc ?_ _)); exact BK551.out)) : gb553 ≠ gb551)); have n8_ := Aside0.mk ((by rw [hg]; exact Nat.ne_of_lt (blk_lt (g := gb552) (o := .cells #[.bool a1_0, .slice A1_1 l1_1.length c1_1, .int .i64 a1_2] 33 (0, 0)) (by (with_reducible repeat (first | refine blk_drewN ?_ _ | refine blk_drew ?_ | refine blk_alloc ?_ _)); exact BK552.out)) : gb552 ≠ gb553)); have n9_ := Aside0.mk ((by rw [hg]; exact Nat.ne_of_gt (blk_lt (g := gb552) (o := .cells #[.bool a1_0, .slice A1_1 l1_1.length c1_1, .int .i64 a1_2] 33 (0, 0)) (by (with_reducible repeat (first | refine blk_drewN ?_ _ | refine blk_drew ?_ | refine blk_alloc ?_ _)); exact BK552.out)) : gb553 ≠ gb552)); clear BK551; clear BK552; clear HB; have BK551 := n0_; have BK552 := n1_; have HB := n2_; have BK553 := n3_; have GW553 := n4_; have GE553 := n5_; have NB551_553 := n6_; have NB553_551 := n7_; have NB552_553 := n8_; have NB553_552 := n9_; clear n0_ n1_ n2_ n3_ n4_ n5_ n6_ n7_ n8_ n9_; clear hb hbox hg) | ((with_reducible refine gate_callee (f := 11) rfl ?_); refine goesL_ (some 12) rfl rfl Tryd.func11 (by kernel_rfl) rfl #[] rfl (by (try simp only [List.map_toArray, List.map_cons, List.map_nil]); first | done | rfl | (simp only [List.length_drop, List.length_take]; rfl) | (have z_ : ∀ s_ : ByteArray, s_.size ≤ 9223372036854775807 → -(s_.size : Int) = wrap64 (-(s_.size : Int)) := (fun s_ h_ => by unfold wrap64; omega); rw [← z_ _ (by omega)]; rfl)) ?_; (with_reducible refine (florinlaw02_head.calls k  true _ A4.out).mono ?_); rintro e w10 ⟨rfl, hb⟩; refine ⟨_, rfl, ?_⟩; have n0_ := bb_ BK551 hb; have n1_ := bb_ BK552 hb; have n2_ := bb_ BK553 hb; have n3_ := Aside0.mk (below_step (bl_ HB).out hb); clear BK551; clear BK552; clear BK553; clear HB; have BK551 := n0_; have BK552 := n1_; have BK553 := n2_; have HB := n3_; clear n0_ n1_ n2_ n3_; (try clear hb); (try clear hb2); (try clear hk); (try clear hi)))
  (try simp only [Act.put, List.setIfInBounds_toArray, List.set_cons_zero, List.set_cons_succ])
  go_cut [26] (fun v26 wc => ∃ (kq : Nat) (x26_5 : Bool), v26 = .bool x26_5 ∧ Aside0 (florinlaw02_DecOrders.j0 kq x26_5 a0_0 l0_1 a0_2 a1_0 l1_1 a1_2 a2_0 l2_1 a2_2 = some r) ∧ Aside0 (kq ≤ k) ∧ Aside0 (wc.heap[gb551]? = some (.cells #[.bool a0_0, (.slice A0_1 l0_1.length c0_1), .int .i64 a0_2] 33 (0, 0))) ∧ Aside0 (wc.heap[gb552]? = some (.cells #[.bool a1_0, (.slice A1_1 l1_1.length c1_1), .int .i64 a1_2] 33 (0, 0))) ∧ Aside0 (wc.heap[gb553]? = some (.cells #[.bool a2_0, (.slice A2_1 l2_1.length c2_1), .int .i64 a2_2] 33 (0, 0))) ∧ Aside0 (Below w.heap.size w wc))
  case first =>
   have H := HC6.out
   clear HC6
   replace H := Option.bind_eq_some_iff.mp H
   obtain ⟨t555, A110, H⟩ := H
   replace H : (if t555 = true then ((florinlaw02_Raw_Few.f a1_0 l1_1 a1_2 50).bind fun t556 => (if t556 = true then ((florinlaw02_Raw_Few.f a2_0 l2_1 a2_2 50).bind fun t557 => (florinlaw02_DecOrders.j0 k (!t557) a0_0 l0_1 a0_2 a1_0 l1_1 a1_2 a2_0 l2_1 a2_2)) else (florinlaw02_DecOrders.j0 k true a0_0 l0_1 a0_2 a1_0 l1_1 a1_2 a2_0 l2_1 a2_2))) else (florinlaw02_DecOrders.j0 k true a0_0 l0_1 a0_2 a1_0 l1_1 a1_2 a2_0 l2_1 a2_2)) = some r := H
   have A11 := Aside0.mk A110
   clear A110
   by_cases c12 : t555 = true
   ·subst c12
    have H1 : ((florinlaw02_Raw_Few.f a1_0 l1_1 a1_2 50).bind fun t556 => (if t556 = true then ((florinlaw02_Raw_Few.f a2_0 l2_1 a2_2 50).bind fun t557 => (florinlaw02_DecOrders.j0 k (!t557) a0_0 l0_1 a0_2 a1_0 l1_1 a1_2 a2_0 l2_1 a2_2)) else (florinlaw02_DecOrders.j0 k true a0_0 l0_1 a0_2 a1_0 l1_1 a1_2 a2_0 l2_1 a2_2))) = some r := by rw [if_pos rfl] at H; exact H
    clear H
    have H := H1
    clear H1
    replace H := Option.bind_eq_some_iff.mp H
    obtain ⟨t556, A130, H⟩ := H
    replace H : (if t556 = true then ((florinlaw02_Raw_Few.f a2_0 l2_1 a2_2 50).bind fun t557 => (florinlaw02_DecOrders.j0 k (!t557) a0_0 l0_1 a0_2 a1_0 l1_1 a1_2 a2_0 l2_1 a2_2)) else (florinlaw02_DecOrders.j0 k true a0_0 l0_1 a0_2 a1_0 l1_1 a1_2 a2_0 l2_1 a2_2)) = some r := H
    have A13 := Aside0.mk A130
    clear A130
    by_cases c14 : t556 = true
    ·subst c14
     have H1 : ((florinlaw02_Raw_Few.f a2_0 l2_1 a2_2 50).bind fun t557 => (florinlaw02_DecOrders.j0 k (!t557) a0_0 l0_1 a0_2 a1_0 l1_1 a1_2 a2_0 l2_1 a2_2)) = some r := by rw [if_pos rfl] at H; exact H
     clear H
     have H := H1
     clear H1
     replace H := Option.bind_eq_some_iff.mp H
     obtain ⟨t557, A150, H⟩ := H
     replace H : (florinlaw02_DecOrders.j0 k (!t557) a0_0 l0_1 a0_2 a1_0 l1_1 a1_2 a2_0 l2_1 a2_2) = some r := H
     have A15 := Aside0.mk A150
     clear A150
     have H' := Aside0.mk H
     clear H
     have hnb16 := NB551_552.out
     have hnc16 := NB552_551.out
     have hnb17 := NB551_553.out
     have hnc17 := NB553_551.out
     have hcz18_0 : w10.cell? ⟨gb551, 0, none⟩ = some (.bool a0_0) := (blk_cell BK551.out 0).trans rfl
     have hcz18_1 : w10.cell? ⟨gb551, 1, none⟩ = some (.slice A0_1 l0_1.length c0_1) := (blk_cell BK551.out 1).trans rfl
     have hcz18_2 : w10.cell? ⟨gb551, 2, none⟩ = some (.int .i64 a0_2) := (blk_cell BK551.out 2).trans rfl
     have hfz18_0 := blk_frozen BK551.out 0
     have hfz18_1 := blk_frozen BK551.out 1
     have hfz18_2 := blk_frozen BK551.out 2
     go_wp2_with (first | ((with_reducible refine gate_callee (f := 17) rfl ?_); refine goesL_ (some 15) rfl rfl Tryd.func17 (by kernel_rfl) rfl #[.agg #[.bool a0_0, .slice A0_1 l0_1.length c0_1, .int .i64 a0_2], .int .i64 50] rfl (by (try simp only [List.map_toArray, List.map_cons, List.map_nil]); first | done | rfl | (simp only [List.length_drop, List.length_take]; rfl) | (have z_ : ∀ s_ : ByteArray, s_.size ≤ 9223372036854775807 → -(s_.size : Int) = wrap64 (-(s_.size : Int)) := (fun s_ h_ => by unfold wrap64; omega); rw [← z_ _ (by omega)]; rfl)) ?_; (with_reducible refine (florinlaw02_Raw_Few.calls a0_0 _ _ l0_1 a0_2 50 true _ ?side1 ?side2 A11.out).mono ?_); (case side1 => repeat (first | exact (Kd.C_below HR0_1.out HB.out) | (with_reducible refine Kd.C_alloc ?_ _) | (with_reducible refine Kd.C_drewN ?_ _) | (with_reducible refine Kd.C_drew ?_))); (case side2 => exact HC0_1.out); rintro e w19 ⟨rfl, hb⟩; refine ⟨_, rfl, ?_⟩; have n0_ := bb_ BK551 hb; have n1_ := bb_ BK552 hb; have n2_ := bb_ BK553 hb; have n3_ := Aside0.mk (below_step (bl_ HB).out hb); clear BK551; clear BK552; clear BK553; clear HB; have BK551 := n0_; have BK552 := n1_; have BK553 := n2_; have HB := n3_; clear n0_ n1_ n2_ n3_; (try clear hb); (try clear hb2); (try clear hk); (try clear hi); have hnb20 := NB552_553.out; have hnc20 := NB553_552.out; have hcz21_0 : w19.cell? ⟨gb552, 0, none⟩ = some (.bool a1_0) := (blk_cell BK552.out 0).trans rfl; have hcz21_1 : w19.cell? ⟨gb552, 1, none⟩ = some (.slice A1_1 l1_1.length c1_1) := (blk_cell BK552.out 1).trans rfl; have hcz21_2 : w19.cell? ⟨gb552, 2, none⟩ = some (.int .i64 a1_2) := (blk_cell BK552.out 2).trans rfl; have hfz21_0 := blk_frozen BK552.out 0; have hfz21_1 := blk_frozen BK552.out 1; have hfz21_2 := blk_frozen BK552.out 2) | (go_at_call 17; (with_reducible refine (florinlaw02_Raw_Few.calls a1_0 _ _ l1_1 a1_2 50 true _ ?side1 ?side2 A13.out).mono ?_); (case side1 => repeat (first | exact (Kd.C_below HR1_1.out HB.out) | (with_reducible refine Kd.C_alloc ?_ _) | (with_reducible refine Kd.C_drewN ?_ _) | (with_reducible refine Kd.C_drew ?_))); (case side2 => exact HC1_1.out); rintro e w22 ⟨rfl, hb⟩; have n0_ := bb_ BK551 hb; have n1_ := bb_ BK552 hb; have n2_ := bb_ BK553 hb; have n3_ := Aside0.mk (below_step (bl_ HB).out hb); clear BK551; clear BK552; clear BK553; clear HB; have BK551 := n0_; have BK552 := n1_; have BK553 := n2_; have HB := n3_; clear n0_ n1_ n2_ n3_; (try clear hb); (try clear hb2); (try clear hk); (try clear hi); have hcz23_0 : w22.cell? ⟨gb553, 0, none⟩ = some (.bool a2_0) := (blk_cell BK553.out 0).trans rfl; have hcz23_1 : w22.cell? ⟨gb553, 1, none⟩ = some (.slice A2_1 l2_1.length c2_1) := (blk_cell BK553.out 1).trans rfl; have hcz23_2 : w22.cell? ⟨gb553, 2, none⟩ = some (.int .i64 a2_2) := (blk_cell BK553.out 2).trans rfl; have hfz23_0 := blk_frozen BK553.out 0; have hfz23_1 := blk_frozen BK553.out 1; have hfz23_2 := blk_frozen BK553.out 2) | (go_at_call 17; (with_reducible refine (florinlaw02_Raw_Few.calls a2_0 _ _ l2_1 a2_2 50 t557 _ ?side1 ?side2 A15.out).mono ?_); (case side1 => repeat (first | exact (Kd.C_below HR2_1.out HB.out) | (with_reducible refine Kd.C_alloc ?_ _) | (with_reducible refine Kd.C_drewN ?_ _) | (with_reducible refine Kd.C_drew ?_))); (case side2 => exact HC2_1.out); rintro e w24 ⟨rfl, hb⟩; have n0_ := bb_ BK551 hb; have n1_ := bb_ BK552 hb; have n2_ := bb_ BK553 hb; have n3_ := Aside0.mk (below_step (bl_ HB).out hb); clear BK551; clear BK552; clear BK553; clear HB; have BK551 := n0_; have BK552 := n1_; have BK553 := n2_; have HB := n3_; clear n0_ n1_ n2_ n3_; (try clear hb); (try clear hb2); (try clear hk); (try clear hi)))
     go_meet
     case rel => exact ⟨_, (!t557), eq_, H', ⟨by first | omega | exact Nat.le_refl _⟩, (bk_ BK551), (bk_ BK552), (bk_ BK553), (bl_ HB)⟩
    ·replace c14 := Bool.eq_false_iff.mpr c14
     subst c14
     have H1 : (florinlaw02_DecOrders.j0 k true a0_0 l0_1 a0_2 a1_0 l1_1 a1_2 a2_0 l2_1 a2_2) = some r := by rw [if_neg (show ¬ (false = true) by decide)] at H; exact H
     clear H
     have H := H1
     clear H1
     have H' := Aside0.mk H
     clear H
     have hnb25 := NB551_552.out
     have hnc25 := NB552_551.out
     have hnb26 := NB551_553.out
     have hnc26 := NB553_551.out
     have hcz27_0 : w10.cell? ⟨gb551, 0, none⟩ = some (.bool a0_0) := (blk_cell BK551.out 0).trans rfl
     have hcz27_1 : w10.cell? ⟨gb551, 1, none⟩ = some (.slice A0_1 l0_1.length c0_1) := (blk_cell BK551.out 1).trans rfl
     have hcz27_2 : w10.cell? ⟨gb551, 2, none⟩ = some (.int .i64 a0_2) := (blk_cell BK551.out 2).trans rfl
     have hfz27_0 := blk_frozen BK551.out 0
     have hfz27_1 := blk_frozen BK551.out 1
     have hfz27_2 := blk_frozen BK551.out 2
     go_wp2_with (first | ((with_reducible refine gate_callee (f := 17) rfl ?_); refine goesL_ (some 15) rfl rfl Tryd.func17 (by kernel_rfl) rfl #[.agg #[.bool a0_0, .slice A0_1 l0_1.length c0_1, .int .i64 a0_2], .int .i64 50] rfl (by (try simp only [List.map_toArray, List.map_cons, List.map_nil]); first | done | rfl | (simp only [List.length_drop, List.length_take]; rfl) | (have z_ : ∀ s_ : ByteArray, s_.size ≤ 9223372036854775807 → -(s_.size : Int) = wrap64 (-(s_.size : Int)) := (fun s_ h_ => by unfold wrap64; omega); rw [← z_ _ (by omega)]; rfl)) ?_; (with_reducible refine (florinlaw02_Raw_Few.calls a0_0 _ _ l0_1 a0_2 50 true _ ?side1 ?side2 A11.out).mono ?_); (case side1 => repeat (first | exact (Kd.C_below HR0_1.out HB.out) | (with_reducible refine Kd.C_alloc ?_ _) | (with_reducible refine Kd.C_drewN ?_ _) | (with_reducible refine Kd.C_drew ?_))); (case side2 => exact HC0_1.out); rintro e w28 ⟨rfl, hb⟩; refine ⟨_, rfl, ?_⟩; have n0_ := bb_ BK551 hb; have n1_ := bb_ BK552 hb; have n2_ := bb_ BK553 hb; have n3_ := Aside0.mk (below_step (bl_ HB).out hb); clear BK551; clear BK552; clear BK553; clear HB; have BK551 := n0_; have BK552 := n1_; have BK553 := n2_; have HB := n3_; clear n0_ n1_ n2_ n3_; (try clear hb); (try clear hb2); (try clear hk); (try clear hi); have hnb29 := NB552_553.out; have hnc29 := NB553_552.out; have hcz30_0 : w28.cell? ⟨gb552, 0, none⟩ = some (.bool a1_0) := (blk_cell BK552.out 0).trans rfl; have hcz30_1 : w28.cell? ⟨gb552, 1, none⟩ = some (.slice A1_1 l1_1.length c1_1) := (blk_cell BK552.out 1).trans rfl; have hcz30_2 : w28.cell? ⟨gb552, 2, none⟩ = some (.int .i64 a1_2) := (blk_cell BK552.out 2).trans rfl; have hfz30_0 := blk_frozen BK552.out 0; have hfz30_1 := blk_frozen BK552.out 1; have hfz30_2 := blk_frozen BK552.out 2) | (go_at_call 17; (with_reducible refine (florinlaw02_Raw_Few.calls a1_0 _ _ l1_1 a1_2 50 false _ ?side1 ?side2 A13.out).mono ?_); (case side1 => repeat (first | exact (Kd.C_below HR1_1.out HB.out) | (with_reducible refine Kd.C_alloc ?_ _) | (with_reducible refine Kd.C_drewN ?_ _) | (with_reducible refine Kd.C_drew ?_))); (case side2 => exact HC1_1.out); rintro e w31 ⟨rfl, hb⟩; have n0_ := bb_ BK551 hb; have n1_ := bb_ BK552 hb; have n2_ := bb_ BK553 hb; have n3_ := Aside0.mk (below_step (bl_ HB).out hb); clear BK551; clear BK552; clear BK553; clear HB; have BK551 := n0_; have BK552 := n1_; have BK553 := n2_; have HB := n3_; clear n0_ n1_ n2_ n3_; (try clear hb); (try clear hb2); (try clear hk); (try clear hi)))
     go_meet
     case rel => exact ⟨_, (true), eq_, H', ⟨by first | omega | exact Nat.le_refl _⟩, (bk_ BK551), (bk_ BK552), (bk_ BK553), (bl_ HB)⟩
   ·replace c12 := Bool.eq_false_iff.mpr c12
    subst c12
    have H1 : (florinlaw02_DecOrders.j0 k true a0_0 l0_1 a0_2 a1_0 l1_1 a1_2 a2_0 l2_1 a2_2) = some r := by rw [if_neg (show ¬ (false = true) by decide)] at H; exact H
    clear H
    have H := H1
    clear H1
    have H' := Aside0.mk H
    clear H
    have hnb32 := NB551_552.out
    have hnc32 := NB552_551.out
    have hnb33 := NB551_553.out
    have hnc33 := NB553_551.out
    have hcz34_0 : w10.cell? ⟨gb551, 0, none⟩ = some (.bool a0_0) := (blk_cell BK551.out 0).trans rfl
    have hcz34_1 : w10.cell? ⟨gb551, 1, none⟩ = some (.slice A0_1 l0_1.length c0_1) := (blk_cell BK551.out 1).trans rfl
    have hcz34_2 : w10.cell? ⟨gb551, 2, none⟩ = some (.int .i64 a0_2) := (blk_cell BK551.out 2).trans rfl
    have hfz34_0 := blk_frozen BK551.out 0
    have hfz34_1 := blk_frozen BK551.out 1
    have hfz34_2 := blk_frozen BK551.out 2
    go_wp2_with (first | ((with_reducible refine gate_callee (f := 17) rfl ?_); refine goesL_ (some 15) rfl rfl Tryd.func17 (by kernel_rfl) rfl #[.agg #[.bool a0_0, .slice A0_1 l0_1.length c0_1, .int .i64 a0_2], .int .i64 50] rfl (by (try simp only [List.map_toArray, List.map_cons, List.map_nil]); first | done | rfl | (simp only [List.length_drop, List.length_take]; rfl) | (have z_ : ∀ s_ : ByteArray, s_.size ≤ 9223372036854775807 → -(s_.size : Int) = wrap64 (-(s_.size : Int)) := (fun s_ h_ => by unfold wrap64; omega); rw [← z_ _ (by omega)]; rfl)) ?_; (with_reducible refine (florinlaw02_Raw_Few.calls a0_0 _ _ l0_1 a0_2 50 false _ ?side1 ?side2 A11.out).mono ?_); (case side1 => repeat (first | exact (Kd.C_below HR0_1.out HB.out) | (with_reducible refine Kd.C_alloc ?_ _) | (with_reducible refine Kd.C_drewN ?_ _) | (with_reducible refine Kd.C_drew ?_))); (case side2 => exact HC0_1.out); rintro e w35 ⟨rfl, hb⟩; refine ⟨_, rfl, ?_⟩; have n0_ := bb_ BK551 hb; have n1_ := bb_ BK552 hb; have n2_ := bb_ BK553 hb; have n3_ := Aside0.mk (below_step (bl_ HB).out hb); clear BK551; clear BK552; clear BK553; clear HB; have BK551 := n0_; have BK552 := n1_; have BK553 := n2_; have HB := n3_; clear n0_ n1_ n2_ n3_; (try clear hb); (try clear hb2); (try clear hk); (try clear hi)))
    go_meet
    case rel => exact ⟨_, (true), eq_, H', ⟨by first | omega | exact Nat.le_refl _⟩, (bk_ BK551), (bk_ BK552), (bk_ BK553), (bl_ HB)⟩
  case rest =>
   clear HC6
   try clear c1
   try clear c2
   try clear p2
   try clear c3
   try clear c5
   try clear p6
   try clear c10
   try clear c11
   try clear c12
   try clear c14
   try clear c16
   try clear c17
   try clear c20
   try clear c25
   try clear c26
   try clear c29
   try clear c32
   try clear c33
   try clear hcz18_0
   try clear hcz18_1
   try clear hcz18_2
   try clear hcz21_0
   try clear hcz21_1
   try clear hcz21_2
   try clear hcz23_0
   try clear hcz23_1
   try clear hcz23_2
   try clear hcz27_0
   try clear hcz27_1
   try clear hcz27_2
   try clear hcz30_0
   try clear hcz30_1
   try clear hcz30_2
   try clear hcz34_0
   try clear hcz34_1
   try clear hcz34_2
   try clear hfz18_0
   try clear hfz18_1
   try clear hfz18_2
   try clear hfz21_0
   try clear hfz21_1
   try clear hfz21_2
   try clear hfz23_0
   try clear hfz23_1
   try clear hfz23_2
   try clear hfz27_0
   try clear hfz27_1
   try clear hfz27_2
   try clear hfz30_0
   try clear hfz30_1
   try clear hfz30_2
   try clear hfz34_0
   try clear hfz34_1
   try clear hfz34_2
   obtain ⟨kq, x26_5, rfl, HA, HJ5, BK551, BK552, BK553, HB⟩ := hcut
   cases kq with
   | zero => exact absurd HA.out (by simp [florinlaw02_DecOrders.j0])
   | succ kj5 =>
    have H := HA.out
    clear HA
    simp only [florinlaw02_DecOrders.j0] at H
    by_cases c36 : x26_5 = true
    ·subst c36
     have H1 : (some true) = some r := by rw [if_pos rfl] at H; exact H
     clear H
     have H := H1
     clear H1
     obtain rfl := Option.some.inj H
     go_wp2
     go_ret
     exact ⟨by first | rfl | (simp [errW_none, errW_some] <;> rfl) | (simp [*, errW_none, errW_some] <;> first | rfl | exact given_isEmpty _ | exact (given_isEmpty _).symm), by repeat (first | (with_reducible first | exact HB.out | apply below_alloc | apply pw_below_drewN | apply below_drew1 | refine below_set ?_ GE551.out | refine below_set ?_ GE552.out | refine below_set ?_ GE553.out) | exact HB.out)⟩
    ·replace c36 := Bool.eq_false_iff.mpr c36
     subst c36
     have H1 : ((florinlaw02_Raw_Make.f kj5 a0_0 l0_1 a0_2).bind fun bt558 => ((florinlaw02_Raw_Make.f kj5 a1_0 l1_1 a1_2).bind fun bt562 => ((florinlaw02_Raw_Make.f kj5 a2_0 l2_1 a2_2).bind fun bt566 => ((dec_Cmp.f kj5 bt558.1 bt558.2.1 bt558.2.2 bt562.1 bt562.2.1 bt562.2.2).bind fun t570 => ((dec_Cmp.f kj5 bt562.1 bt562.2.1 bt562.2.2 bt558.1 bt558.2.1 bt558.2.2).bind fun t571 => (if t570 = (wrap64 (-t571)) then ((dec_Dec_Norm.f kj5 bt558.1 bt558.2.1 bt558.2.2).bind fun bt572 => ((dec_Dec_Norm.f kj5 bt562.1 bt562.2.1 bt562.2.2).bind fun bt575 => (if ((t570 == 0) != (bt572.1 == bt575.1 && (bt572.2.1.toList == bt575.2.1.toList && (bt572.2.2 == bt575.2.2)))) = true then (florinlaw02_DecOrders.j1 kj5 t570 true bt558.1 bt558.2.1 bt558.2.2 bt562.1 bt562.2.1 bt562.2.2 bt566.1 bt566.2.1 bt566.2.2) else ((dec_Dec_Minus.f kj5 bt558.1 bt558.2.1 bt558.2.2).bind fun bt578 => ((dec_Dec_Minus.f kj5 bt562.1 bt562.2.1 bt562.2.2).bind fun bt581 => ((dec_Cmp.f kj5 bt578.1 bt578.2.1 bt578.2.2 bt581.1 bt581.2.1 bt581.2.2).bind fun t584 => (if t584 = (wrap64 (-t570)) then ((dec_Add.f kj5 bt558.1 bt558.2.1 bt558.2.2 bt566.1 bt566.2.1 bt566.2.2).bind fun bt585 => ((dec_Add.f kj5 bt562.1 bt562.2.1 bt562.2.2 bt566.1 bt566.2.1 bt566.2.2).bind fun bt588 => ((dec_Cmp.f kj5 bt585.1 bt585.2.1 bt585.2.2 bt588.1 bt588.2.1 bt588.2.2).bind fun t591 => (florinlaw02_DecOrders.j1 kj5 t570 (t591 != t570) bt558.1 bt558.2.1 bt558.2.2 bt562.1 bt562.2.1 bt562.2.2 bt566.1 bt566.2.1 bt566.2.2)))) else (florinlaw02_DecOrders.j1 kj5 t570 true bt558.1 bt558.2.1 bt558.2.2 bt562.1 bt562.2.1 bt562.2.2 bt566.1 bt566.2.1 bt566.2.2)))))))) else (florinlaw02_DecOrders.j1 kj5 t570 true bt558.1 bt558.2.1 bt558.2.2 bt562.1 bt562.2.1 bt562.2.2 bt566.1 bt566.2.1 bt566.2.2))))))) = some r := by rw [if_neg (show ¬ (false = true) by decide)] at H; exact H
     clear H
     have H := H1
     clear H1
     replace H := Option.bind_eq_some_iff.mp H
     obtain ⟨⟨t558, t559, t560⟩, A370, H⟩ := H
     replace H : ((florinlaw02_Raw_Make.f kj5 a1_0 l1_1 a1_2).bind fun bt562 => ((florinlaw02_Raw_Make.f kj5 a2_0 l2_1 a2_2).bind fun bt566 => ((dec_Cmp.f kj5 t558 t559 t560 bt562.1 bt562.2.1 bt562.2.2).bind fun t570 => ((dec_Cmp.f kj5 bt562.1 bt562.2.1 bt562.2.2 t558 t559 t560).bind fun t571 => (if t570 = (wrap64 (-t571)) then ((dec_Dec_Norm.f kj5 t558 t559 t560).bind fun bt572 => ((dec_Dec_Norm.f kj5 bt562.1 bt562.2.1 bt562.2.2).bind fun bt575 => (if ((t570 == 0) != (bt572.1 == bt575.1 && (bt572.2.1.toList == bt575.2.1.toList && (bt572.2.2 == bt575.2.2)))) = true then (florinlaw02_DecOrders.j1 kj5 t570 true t558 t559 t560 bt562.1 bt562.2.1 bt562.2.2 bt566.1 bt566.2.1 bt566.2.2) else ((dec_Dec_Minus.f kj5 t558 t559 t560).bind fun bt578 => ((dec_Dec_Minus.f kj5 bt562.1 bt562.2.1 bt562.2.2).bind fun bt581 => ((dec_Cmp.f kj5 bt578.1 bt578.2.1 bt578.2.2 bt581.1 bt581.2.1 bt581.2.2).bind fun t584 => (if t584 = (wrap64 (-t570)) then ((dec_Add.f kj5 t558 t559 t560 bt566.1 bt566.2.1 bt566.2.2).bind fun bt585 => ((dec_Add.f kj5 bt562.1 bt562.2.1 bt562.2.2 bt566.1 bt566.2.1 bt566.2.2).bind fun bt588 => ((dec_Cmp.f kj5 bt585.1 bt585.2.1 bt585.2.2 bt588.1 bt588.2.1 bt588.2.2).bind fun t591 => (florinlaw02_DecOrders.j1 kj5 t570 (t591 != t570) t558 t559 t560 bt562.1 bt562.2.1 bt562.2.2 bt566.1 bt566.2.1 bt566.2.2)))) else (florinlaw02_DecOrders.j1 kj5 t570 true t558 t559 t560 bt562.1 bt562.2.1 bt562.2.2 bt566.1 bt566.2.1 bt566.2.2)))))))) else (florinlaw02_DecOrders.j1 kj5 t570 true t558 t559 t560 bt562.1 bt562.2.1 bt562.2.2 bt566.1 bt566.2.1 bt566.2.2)))))) = some r := H
     have A37 := Aside0.mk A370
     clear A370
     replace H := Option.bind_eq_some_iff.mp H
     obtain ⟨⟨t562, t563, t564⟩, A380, H⟩ := H
     replace H : ((florinlaw02_Raw_Make.f kj5 a2_0 l2_1 a2_2).bind fun bt566 => ((dec_Cmp.f kj5 t558 t559 t560 t562 t563 t564).bind fun t570 => ((dec_Cmp.f kj5 t562 t563 t564 t558 t559 t560).bind fun t571 => (if t570 = (wrap64 (-t571)) then ((dec_Dec_Norm.f kj5 t558 t559 t560).bind fun bt572 => ((dec_Dec_Norm.f kj5 t562 t563 t564).bind fun bt575 => (if ((t570 == 0) != (bt572.1 == bt575.1 && (bt572.2.1.toList == bt575.2.1.toList && (bt572.2.2 == bt575.2.2)))) = true then (florinlaw02_DecOrders.j1 kj5 t570 true t558 t559 t560 t562 t563 t564 bt566.1 bt566.2.1 bt566.2.2) else ((dec_Dec_Minus.f kj5 t558 t559 t560).bind fun bt578 => ((dec_Dec_Minus.f kj5 t562 t563 t564).bind fun bt581 => ((dec_Cmp.f kj5 bt578.1 bt578.2.1 bt578.2.2 bt581.1 bt581.2.1 bt581.2.2).bind fun t584 => (if t584 = (wrap64 (-t570)) then ((dec_Add.f kj5 t558 t559 t560 bt566.1 bt566.2.1 bt566.2.2).bind fun bt585 => ((dec_Add.f kj5 t562 t563 t564 bt566.1 bt566.2.1 bt566.2.2).bind fun bt588 => ((dec_Cmp.f kj5 bt585.1 bt585.2.1 bt585.2.2 bt588.1 bt588.2.1 bt588.2.2).bind fun t591 => (florinlaw02_DecOrders.j1 kj5 t570 (t591 != t570) t558 t559 t560 t562 t563 t564 bt566.1 bt566.2.1 bt566.2.2)))) else (florinlaw02_DecOrders.j1 kj5 t570 true t558 t559 t560 t562 t563 t564 bt566.1 bt566.2.1 bt566.2.2)))))))) else (florinlaw02_DecOrders.j1 kj5 t570 true t558 t559 t560 t562 t563 t564 bt566.1 bt566.2.1 bt566.2.2))))) = some r := H
     have A38 := Aside0.mk A380
     clear A380
     replace H := Option.bind_eq_some_iff.mp H
     obtain ⟨⟨t566, t567, t568⟩, A390, H⟩ := H
     replace H : ((dec_Cmp.f kj5 t558 t559 t560 t562 t563 t564).bind fun t570 => ((dec_Cmp.f kj5 t562 t563 t564 t558 t559 t560).bind fun t571 => (if t570 = (wrap64 (-t571)) then ((dec_Dec_Norm.f kj5 t558 t559 t560).bind fun bt572 => ((dec_Dec_Norm.f kj5 t562 t563 t564).bind fun bt575 => (if ((t570 == 0) != (bt572.1 == bt575.1 && (bt572.2.1.toList == bt575.2.1.toList && (bt572.2.2 == bt575.2.2)))) = true then (florinlaw02_DecOrders.j1 kj5 t570 true t558 t559 t560 t562 t563 t564 t566 t567 t568) else ((dec_Dec_Minus.f kj5 t558 t559 t560).bind fun bt578 => ((dec_Dec_Minus.f kj5 t562 t563 t564).bind fun bt581 => ((dec_Cmp.f kj5 bt578.1 bt578.2.1 bt578.2.2 bt581.1 bt581.2.1 bt581.2.2).bind fun t584 => (if t584 = (wrap64 (-t570)) then ((dec_Add.f kj5 t558 t559 t560 t566 t567 t568).bind fun bt585 => ((dec_Add.f kj5 t562 t563 t564 t566 t567 t568).bind fun bt588 => ((dec_Cmp.f kj5 bt585.1 bt585.2.1 bt585.2.2 bt588.1 bt588.2.1 bt588.2.2).bind fun t591 => (florinlaw02_DecOrders.j1 kj5 t570 (t591 != t570) t558 t559 t560 t562 t563 t564 t566 t567 t568)))) else (florinlaw02_DecOrders.j1 kj5 t570 true t558 t559 t560 t562 t563 t564 t566 t567 t568)))))))) else (florinlaw02_DecOrders.j1 kj5 t570 true t558 t559 t560 t562 t563 t564 t566 t567 t568)))) = some r := H
     have A39 := Aside0.mk A390
     clear A390
     replace H := Option.bind_eq_some_iff.mp H
     obtain ⟨t570, A400, H⟩ := H
     replace H : ((dec_Cmp.f kj5 t562 t563 t564 t558 t559 t560).bind fun t571 => (if t570 = (wrap64 (-t571)) then ((dec_Dec_Norm.f kj5 t558 t559 t560).bind fun bt572 => ((dec_Dec_Norm.f kj5 t562 t563 t564).bind fun bt575 => (if ((t570 == 0) != (bt572.1 == bt575.1 && (bt572.2.1.toList == bt575.2.1.toList && (bt572.2.2 == bt575.2.2)))) = true then (florinlaw02_DecOrders.j1 kj5 t570 true t558 t559 t560 t562 t563 t564 t566 t567 t568) else ((dec_Dec_Minus.f kj5 t558 t559 t560).bind fun bt578 => ((dec_Dec_Minus.f kj5 t562 t563 t564).bind fun bt581 => ((dec_Cmp.f kj5 bt578.1 bt578.2.1 bt578.2.2 bt581.1 bt581.2.1 bt581.2.2).bind fun t584 => (if t584 = (wrap64 (-t570)) then ((dec_Add.f kj5 t558 t559 t560 t566 t567 t568).bind fun bt585 => ((dec_Add.f kj5 t562 t563 t564 t566 t567 t568).bind fun bt588 => ((dec_Cmp.f kj5 bt585.1 bt585.2.1 bt585.2.2 bt588.1 bt588.2.1 bt588.2.2).bind fun t591 => (florinlaw02_DecOrders.j1 kj5 t570 (t591 != t570) t558 t559 t560 t562 t563 t564 t566 t567 t568)))) else (florinlaw02_DecOrders.j1 kj5 t570 true t558 t559 t560 t562 t563 t564 t566 t567 t568)))))))) else (florinlaw02_DecOrders.j1 kj5 t570 true t558 t559 t560 t562 t563 t564 t566 t567 t568))) = some r := H
     have A40 := Aside0.mk A400
     clear A400
     have HC41 := Aside0.mk H
     clear H
     have hnb42 := NB551_552.out
     have hnc42 := NB552_551.out
     have hnb43 := NB551_553.out
     have hnc43 := NB553_551.out
     have hcz44_0 : wc.cell? ⟨gb551, 0, none⟩ = some (.bool a0_0) := (blk_cell BK551.out 0).trans rfl
     have hcz44_1 : wc.cell? ⟨gb551, 1, none⟩ = some (.slice A0_1 l0_1.length c0_1) := (blk_cell BK551.out 1).trans rfl
     have hcz44_2 : wc.cell? ⟨gb551, 2, none⟩ = some (.int .i64 a0_2) := (blk_cell BK551.out 2).trans rfl
     have hfz44_0 := blk_frozen BK551.out 0
     have hfz44_1 := blk_frozen BK551.out 1
     have hfz44_2 := blk_frozen BK551.out 2
     go_upto_region 9 with (first | ((with_reducible refine gate_callee (f := 18) rfl ?_); refine goesL_ (some 28) rfl rfl Tryd.func18 (by kernel_rfl) rfl #[.agg #[.bool a0_0, .slice A0_1 l0_1.length c0_1, .int .i64 a0_2]] rfl (by (try simp only [List.map_toArray, List.map_cons, List.map_nil]); first | done | rfl | (simp only [List.length_drop, List.length_take]; rfl) | (have z_ : ∀ s_ : ByteArray, s_.size ≤ 9223372036854775807 → -(s_.size : Int) = wrap64 (-(s_.size : Int)) := (fun s_ h_ => by unfold wrap64; omega); rw [← z_ _ (by omega)]; rfl)) ?_; (with_reducible refine (florinlaw02_Raw_Make.calls kj5 a0_0 _ _ l0_1 a0_2 t558 t559 t560 _ ?side1 ?side2 A37.out).mono ?_); (case side1 => repeat (first | exact (Kd.C_below HR0_1.out HB.out) | (with_reducible refine Kd.C_alloc ?_ _) | (with_reducible refine Kd.C_drewN ?_ _) | (with_reducible refine Kd.C_drew ?_))); (case side2 => exact HC0_1.out); rintro e w45 ⟨rfl, hb⟩; refine ⟨_, rfl, ?_⟩; have n0_ := bb_ BK551 hb; have n1_ := bb_ BK552 hb; have n2_ := bb_ BK553 hb; have n3_ := Aside0.mk (below_step (bl_ HB).out hb); clear BK551; clear BK552; clear BK553; clear HB; have BK551 := n0_; have BK552 := n1_; have BK553 := n2_; have HB := n3_; clear n0_ n1_ n2_ n3_; (try clear hb); (try clear hb2); (try clear hk); (try clear hi)) | ((with_reducible refine gate_dst (N := 7) rfl ?_); (try (refine gate_guard (by rfl) ?_; dsimp only)); refine box_event ?hg (N := 7) ?hd (cs := #[.bool false, .string (⟨#[]⟩ : ByteArray), .int .i64 0]) (t := 24) ?hr ?_; (case hd => rfl); (case hg => rfl); (case hr => first | (go_simp; done) | (go_simp; rfl)); intro gb561 hg w46 hbox hb; have n0_ := bb_ BK551 hb; have n1_ := bb_ BK552 hb; have n2_ := bb_ BK553 hb; have n3_ := Aside0.mk (below_step (bl_ HB).out hb); have n4_ := Aside0.mk (hbox); have n5_ := Aside0.mk ((by rw [hg]; exact (below_size (bl_ HB).out) : w.heap.size ≤ gb561)); have n6_ := Aside0.mk ((by rw [hg]; exact (below_size (bl_ HB).out) : w.heap.size ≤ gb561)); have n7_ := Aside0.mk ((by rw [hg]; exact Nat.ne_of_lt (blk_lt (g := gb551) (o := .cells #[.bool a0_0, .slice A0_1 l0_1.length c0_1, .int .i64 a0_2] 33 (0, 0)) (by (with_reducible repeat (first | refine blk_drewN ?_ _ | refine blk_drew ?_ | refine blk_alloc ?_ _)); exact BK551.out)) : gb551 ≠ gb561)); have n8_ := Aside0.mk ((by rw [hg]; exact Nat.ne_of_gt (blk_lt (g := gb551) (o := .cells #[.bool a0_0, .slice A0_1 l0_1.length c0_1, .int .i64 a0_2] 33 (0, 0)) (by (with_reducible repeat (first | refine blk_drewN ?_ _ | refine blk_drew ?_ | refine blk_alloc ?_ _)); exact BK551.out)) : gb561 ≠ gb551)); have n9_ := Aside0.mk ((by rw [hg]; exact Nat.ne_of_lt (blk_lt (g := gb552) (o := .cells #[.bool a1_0, .slice A1_1 l1_1.length c1_1, .int .i64 a1_2] 33 (0, 0)) (by (with_reducible repeat (first | refine blk_drewN ?_ _ | refine blk_drew ?_ | refine blk_alloc ?_ _)); exact BK552.out)) : gb552 ≠ gb561)); have n10_ := Aside0.mk ((by rw [hg]; exact Nat.ne_of_gt (blk_lt (g := gb552) (o := .cells #[.bool a1_0, .slice A1_1 l1_1.length c1_1, .int .i64 a1_2] 33 (0, 0)) (by (with_reducible repeat (first | refine blk_drewN ?_ _ | refine blk_drew ?_ | refine blk_alloc ?_ _)); exact BK552.out)) : gb561 ≠ gb552)); have n11_ := Aside0.mk ((by rw [hg]; exact Nat.ne_of_lt (blk_lt (g := gb553) (o := .cells #[.bool a2_0, .slice A2_1 l2_1.length c2_1, .int .i64 a2_2] 33 (0, 0)) (by (with_reducible repeat (first | refine blk_drewN ?_ _ | refine blk_drew ?_ | refine blk_alloc ?_ _)); exact BK553.out)) : gb553 ≠ gb561)); have n12_ := Aside0.mk ((by rw [hg]; exact Nat.ne_of_gt (blk_lt (g := gb553) (o := .cells #[.bool a2_0, .slice A2_1 l2_1.length c2_1, .int .i64 a2_2] 33 (0, 0)) (by (with_reducible repeat (first | refine blk_drewN ?_ _ | refine blk_drew ?_ | refine blk_alloc ?_ _)); exact BK553.out)) : gb561 ≠ gb553)); clear BK551; clear BK552; clear BK553; clear HB; have BK551 := n0_; have BK552 := n1_; have BK553 := n2_; have HB := n3_; have BK561 := n4_; have GW561 := n5_; have GE561 := n6_; have NB551_561 := n7_; have NB561_551 := n8_; have NB552_561 := n9_; have NB561_552 := n10_; have NB553_561 := n11_; have NB561_553 := n12_; clear n0_ n1_ n2_ n3_ n4_ n5_ n6_ n7_ n8_ n9_ n10_ n11_ n12_; clear hb hbox hg; have hnb47 := NB561_551.out; have hnc47 := NB551_561.out; have hnb48 := NB561_552.out; have hnc48 := NB552_561.out; have hnb49 := NB561_553.out; have hnc49 := NB553_561.out; have hcz50_0 : w46.cell? ⟨gb561, 0, none⟩ = some (.bool false) := (blk_cell BK561.out 0).trans rfl; have hcz50_1 : w46.cell? ⟨gb561, 1, none⟩ = some (.string (⟨#[]⟩ : ByteArray)) := (blk_cell BK561.out 1).trans rfl; have hcz50_2 : w46.cell? ⟨gb561, 2, none⟩ = some (.int .i64 0) := (blk_cell BK561.out 2).trans rfl; have hfz50_0 := blk_frozen BK561.out 0; have hfz50_1 := blk_frozen BK561.out 1; have hfz50_2 := blk_frozen BK561.out 2; have hnb51 := NB552_553.out; have hnc51 := NB553_552.out; have hcz52_0 : w46.cell? ⟨gb552, 0, none⟩ = some (.bool a1_0) := (blk_cell BK552.out 0).trans rfl; have hcz52_1 : w46.cell? ⟨gb552, 1, none⟩ = some (.slice A1_1 l1_1.length c1_1) := (blk_cell BK552.out 1).trans rfl; have hcz52_2 : w46.cell? ⟨gb552, 2, none⟩ = some (.int .i64 a1_2) := (blk_cell BK552.out 2).trans rfl; have hfz52_0 := blk_frozen BK552.out 0; have hfz52_1 := blk_frozen BK552.out 1; have hfz52_2 := blk_frozen BK552.out 2) | ((with_reducible refine gate_callee (f := 18) rfl ?_); refine goesL_ (some 30) rfl rfl Tryd.func18 (by kernel_rfl) rfl #[.agg #[.bool a1_0, .slice A1_1 l1_1.length c1_1, .int .i64 a1_2]] rfl (by (try simp only [List.map_toArray, List.map_cons, List.map_nil]); first | done | rfl | (simp only [List.length_drop, List.length_take]; rfl) | (have z_ : ∀ s_ : ByteArray, s_.size ≤ 9223372036854775807 → -(s_.size : Int) = wrap64 (-(s_.size : Int)) := (fun s_ h_ => by unfold wrap64; omega); rw [← z_ _ (by omega)]; rfl)) ?_; (with_reducible refine (florinlaw02_Raw_Make.calls kj5 a1_0 _ _ l1_1 a1_2 t562 t563 t564 _ ?side1 ?side2 A38.out).mono ?_); (case side1 => exact Kd.C_below HR1_1.out (bl_ HB).out); (case side2 => exact HC1_1.out); rintro e w53 ⟨rfl, hb⟩; refine ⟨_, rfl, ?_⟩; have n0_ := Aside0.mk (blk_below (g := gb551) (o := .cells #[.bool a0_0, .slice A0_1 l0_1.length c0_1, .int .i64 a0_2] 33 (0, 0)) (by (with_reducible repeat (first | refine blk_drewN ?_ _ | refine blk_drew ?_ | refine blk_alloc ?_ _)); refine blk_far ?_ NB551_561.out _; (with_reducible repeat (first | refine blk_drewN ?_ _ | refine blk_drew ?_ | refine blk_alloc ?_ _)); refine blk_far ?_ NB551_561.out _; (with_reducible repeat (first | refine blk_drewN ?_ _ | refine blk_drew ?_ | refine blk_alloc ?_ _)); refine blk_far ?_ NB551_561.out _; (with_reducible repeat (first | refine blk_drewN ?_ _ | refine blk_drew ?_ | refine blk_alloc ?_ _)); exact BK551.out) hb); have n1_ := Aside0.mk (blk_below (g := gb552) (o := .cells #[.bool a1_0, .slice A1_1 l1_1.length c1_1, .int .i64 a1_2] 33 (0, 0)) (by (with_reducible repeat (first | refine blk_drewN ?_ _ | refine blk_drew ?_ | refine blk_alloc ?_ _)); refine blk_far ?_ NB552_561.out _; (with_reducible repeat (first | refine blk_drewN ?_ _ | refine blk_drew ?_ | refine blk_alloc ?_ _)); refine blk_far ?_ NB552_561.out _; (with_reducible repeat (first | refine blk_drewN ?_ _ | refine blk_drew ?_ | refine blk_alloc ?_ _)); refine blk_far ?_ NB552_561.out _; (with_reducible repeat (first | refine blk_drewN ?_ _ | refine blk_drew ?_ | refine blk_alloc ?_ _)); exact BK552.out) hb); have n2_ := Aside0.mk (blk_below (g := gb553) (o := .cells #[.bool a2_0, .slice A2_1 l2_1.length c2_1, .int .i64 a2_2] 33 (0, 0)) (by (with_reducible repeat (first | refine blk_drewN ?_ _ | refine blk_drew ?_ | refine blk_alloc ?_ _)); refine blk_far ?_ NB553_561.out _; (with_reducible repeat (first | refine blk_drewN ?_ _ | refine blk_drew ?_ | refine blk_alloc ?_ _)); refine blk_far ?_ NB553_561.out _; (with_reducible repeat (first | refine blk_drewN ?_ _ | refine blk_drew ?_ | refine blk_alloc ?_ _)); refine blk_far ?_ NB553_561.out _; (with_reducible repeat (first | refine blk_drewN ?_ _ | refine blk_drew ?_ | refine blk_alloc ?_ _)); exact BK553.out) hb); have n3_ := Aside0.mk (blk_below (g := gb561) (o := .cells #[.bool t558, .string t559, .int .i64 t560] 24 (0, 0)) (by (with_reducible repeat (first | refine blk_drewN ?_ _ | refine blk_drew ?_ | refine blk_alloc ?_ _)); refine blk_put (cs := #[.bool t558, .string t559, .int .i64 0]) ?_ 2 _ rfl; (with_reducible repeat (first | refine blk_drewN ?_ _ | refine blk_drew ?_ | refine blk_alloc ?_ _)); refine blk_put (cs := #[.bool t558, .string (⟨#[]⟩ : ByteArray), .int .i64 0]) ?_ 1 _ rfl; (with_reducible repeat (first | refine blk_drewN ?_ _ | refine blk_drew ?_ | refine blk_alloc ?_ _)); refine blk_put (cs := #[.bool false, .string (⟨#[]⟩ : ByteArray), .int .i64 0]) ?_ 0 _ rfl; (with_reducible repeat (first | refine blk_drewN ?_ _ | refine blk_drew ?_ | refine blk_alloc ?_ _)); exact BK561.out) hb); have n4_ := Aside0.mk (below_step (bl_ HB).out hb); clear BK551; clear BK552; clear BK553; clear BK561; clear HB; have BK551 := n0_; have BK552 := n1_; have BK553 := n2_; have BK561 := n3_; have HB := n4_; clear n0_ n1_ n2_ n3_ n4_; (try clear hb); (try clear hb2); (try clear hk); (try clear hi)) | ((with_reducible refine gate_dst (N := 8) rfl ?_); (try (refine gate_guard (by rfl) ?_; dsimp only)); refine box_event ?hg (N := 8) ?hd (cs := #[.bool false, .string (⟨#[]⟩ : ByteArray), .int .i64 0]) (t := 24) ?hr ?_; (case hd => rfl); (case hg => rfl); (case hr => first | (go_simp; done) | (go_simp; rfl)); intro gb565 hg w54 hbox hb; have n0_ := bb_ BK551 hb; have n1_ := bb_ BK552 hb; have n2_ := bb_ BK553 hb; have n3_ := bb_ BK561 hb; have n4_ := Aside0.mk (below_step (bl_ HB).out hb); have n5_ := Aside0.mk (hbox); have n6_ := Aside0.mk ((by rw [hg]; exact (below_size (bl_ HB).out) : w.heap.size ≤ gb565)); have n7_ := Aside0.mk ((by rw [hg]; exact (below_size (bl_ HB).out) : w.heap.size ≤ gb565)); have n8_ := Aside0.mk ((by rw [hg]; exact Nat.ne_of_lt (blk_lt (g := gb551) (o := .cells #[.bool a0_0, .slice A0_1 l0_1.length c0_1, .int .i64 a0_2] 33 (0, 0)) (by (with_reducible repeat (first | refine blk_drewN ?_ _ | refine blk_drew ?_ | refine blk_alloc ?_ _)); exact BK551.out)) : gb551 ≠ gb565)); have n9_ := Aside0.mk ((by rw [hg]; exact Nat.ne_of_gt (blk_lt (g := gb551) (o := .cells #[.bool a0_0, .slice A0_1 l0_1.length c0_1, .int .i64 a0_2] 33 (0, 0)) (by (with_reducible repeat (first | refine blk_drewN ?_ _ | refine blk_drew ?_ | refine blk_alloc ?_ _)); exact BK551.out)) : gb565 ≠ gb551)); have n10_ := Aside0.mk ((by rw [hg]; exact Nat.ne_of_lt (blk_lt (g := gb552) (o := .cells #[.bool a1_0, .slice A1_1 l1_1.length c1_1, .int .i64 a1_2] 33 (0, 0)) (by (with_reducible repeat (first | refine blk_drewN ?_ _ | refine blk_drew ?_ | refine blk_alloc ?_ _)); exact BK552.out)) : gb552 ≠ gb565)); have n11_ := Aside0.mk ((by rw [hg]; exact Nat.ne_of_gt (blk_lt (g := gb552) (o := .cells #[.bool a1_0, .slice A1_1 l1_1.length c1_1, .int .i64 a1_2] 33 (0, 0)) (by (with_reducible repeat (first | refine blk_drewN ?_ _ | refine blk_drew ?_ | refine blk_alloc ?_ _)); exact BK552.out)) : gb565 ≠ gb552)); have n12_ := Aside0.mk ((by rw [hg]; exact Nat.ne_of_lt (blk_lt (g := gb553) (o := .cells #[.bool a2_0, .slice A2_1 l2_1.length c2_1, .int .i64 a2_2] 33 (0, 0)) (by (with_reducible repeat (first | refine blk_drewN ?_ _ | refine blk_drew ?_ | refine blk_alloc ?_ _)); exact BK553.out)) : gb553 ≠ gb565)); have n13_ := Aside0.mk ((by rw [hg]; exact Nat.ne_of_gt (blk_lt (g := gb553) (o := .cells #[.bool a2_0, .slice A2_1 l2_1.length c2_1, .int .i64 a2_2] 33 (0, 0)) (by (with_reducible repeat (first | refine blk_drewN ?_ _ | refine blk_drew ?_ | refine blk_alloc ?_ _)); exact BK553.out)) : gb565 ≠ gb553)); have n14_ := Aside0.mk ((by rw [hg]; exact Nat.ne_of_lt (blk_lt (g := gb561) (o := .cells #[.bool t558, .string t559, .int .i64 t560] 24 (0, 0)) (by (with_reducible repeat (first | refine blk_drewN ?_ _ | refine blk_drew ?_ | refine blk_alloc ?_ _)); exact BK561.out)) : gb561 ≠ gb565)); have n15_ := Aside0.mk ((by rw [hg]; exact Nat.ne_of_gt (blk_lt (g := gb561) (o := .cells #[.bool t558, .string t559, .int .i64 t560] 24 (0, 0)) (by (with_reducible repeat (first | refine blk_drewN ?_ _ | refine blk_drew ?_ | refine blk_alloc ?_ _)); exact BK561.out)) : gb565 ≠ gb561)); clear BK551; clear BK552; clear BK553; clear BK561; clear HB; have BK551 := n0_; have BK552 := n1_; have BK553 := n2_; have BK561 := n3_; have HB := n4_; have BK565 := n5_; have GW565 := n6_; have GE565 := n7_; have NB551_565 := n8_; have NB565_551 := n9_; have NB552_565 := n10_; have NB565_552 := n11_; have NB553_565 := n12_; have NB565_553 := n13_; have NB561_565 := n14_; have NB565_561 := n15_; clear n0_ n1_ n2_ n3_ n4_ n5_ n6_ n7_ n8_ n9_ n10_ n11_ n12_ n13_ n14_ n15_; clear hb hbox hg; have hnb55 := NB565_551.out; have hnc55 := NB551_565.out; have hnb56 := NB565_552.out; have hnc56 := NB552_565.out; have hnb57 := NB565_553.out; have hnc57 := NB553_565.out; have hnb58 := NB565_561.out; have hnc58 := NB561_565.out; have hcz59_0 : w54.cell? ⟨gb565, 0, none⟩ = some (.bool false) := (blk_cell BK565.out 0).trans rfl; have hcz59_1 : w54.cell? ⟨gb565, 1, none⟩ = some (.string (⟨#[]⟩ : ByteArray)) := (blk_cell BK565.out 1).trans rfl; have hcz59_2 : w54.cell? ⟨gb565, 2, none⟩ = some (.int .i64 0) := (blk_cell BK565.out 2).trans rfl; have hfz59_0 := blk_frozen BK565.out 0; have hfz59_1 := blk_frozen BK565.out 1; have hfz59_2 := blk_frozen BK565.out 2; have hcz60_0 : w54.cell? ⟨gb553, 0, none⟩ = some (.bool a2_0) := (blk_cell BK553.out 0).trans rfl; have hcz60_1 : w54.cell? ⟨gb553, 1, none⟩ = some (.slice A2_1 l2_1.length c2_1) := (blk_cell BK553.out 1).trans rfl; have hcz60_2 : w54.cell? ⟨gb553, 2, none⟩ = some (.int .i64 a2_2) := (blk_cell BK553.out 2).trans rfl; have hfz60_0 := blk_frozen BK553.out 0; have hfz60_1 := blk_frozen BK553.out 1; have hfz60_2 := blk_frozen BK553.out 2) | ((with_reducible refine gate_callee (f := 18) rfl ?_); refine goesL_ (some 32) rfl rfl Tryd.func18 (by kernel_rfl) rfl #[.agg #[.bool a2_0, .slice A2_1 l2_1.length c2_1, .int .i64 a2_2]] rfl (by (try simp only [List.map_toArray, List.map_cons, List.map_nil]); first | done | rfl | (simp only [List.length_drop, List.length_take]; rfl) | (have z_ : ∀ s_ : ByteArray, s_.size ≤ 9223372036854775807 → -(s_.size : Int) = wrap64 (-(s_.size : Int)) := (fun s_ h_ => by unfold wrap64; omega); rw [← z_ _ (by omega)]; rfl)) ?_; (with_reducible refine (florinlaw02_Raw_Make.calls kj5 a2_0 _ _ l2_1 a2_2 t566 t567 t568 _ ?side1 ?side2 A39.out).mono ?_); (case side1 => exact Kd.C_below HR2_1.out (bl_ HB).out); (case side2 => exact HC2_1.out); rintro e w61 ⟨rfl, hb⟩; refine ⟨_, rfl, ?_⟩; have n0_ := Aside0.mk (blk_below (g := gb551) (o := .cells #[.bool a0_0, .slice A0_1 l0_1.length c0_1, .int .i64 a0_2] 33 (0, 0)) (by (with_reducible repeat (first | refine blk_drewN ?_ _ | refine blk_drew ?_ | refine blk_alloc ?_ _)); refine blk_far ?_ NB551_565.out _; (with_reducible repeat (first | refine blk_drewN ?_ _ | refine blk_drew ?_ | refine blk_alloc ?_ _)); refine blk_far ?_ NB551_565.out _; (with_reducible repeat (first | refine blk_drewN ?_ _ | refine blk_drew ?_ | refine blk_alloc ?_ _)); refine blk_far ?_ NB551_565.out _; (with_reducible repeat (first | refine blk_drewN ?_ _ | refine blk_drew ?_ | refine blk_alloc ?_ _)); exact BK551.out) hb); have n1_ := Aside0.mk (blk_below (g := gb552) (o := .cells #[.bool a1_0, .slice A1_1 l1_1.length c1_1, .int .i64 a1_2] 33 (0, 0)) (by (with_reducible repeat (first | refine blk_drewN ?_ _ | refine blk_drew ?_ | refine blk_alloc ?_ _)); refine blk_far ?_ NB552_565.out _; (with_reducible repeat (first | refine blk_drewN ?_ _ | refine blk_drew ?_ | refine blk_alloc ?_ _)); refine blk_far ?_ NB552_565.out _; (with_reducible repeat (first | refine blk_drewN ?_ _ | refine blk_drew ?_ | refine blk_alloc ?_ _)); refine blk_far ?_ NB552_565.out _; (with_reducible repeat (first | refine blk_drewN ?_ _ | refine blk_drew ?_ | refine blk_alloc ?_ _)); exact BK552.out) hb); have n2_ := Aside0.mk (blk_below (g := gb553) (o := .cells #[.bool a2_0, .slice A2_1 l2_1.length c2_1, .int .i64 a2_2] 33 (0, 0)) (by (with_reducible repeat (first | refine blk_drewN ?_ _ | refine blk_drew ?_ | refine blk_alloc ?_ _)); refine blk_far ?_ NB553_565.out _; (with_reducible repeat (first | refine blk_drewN ?_ _ | refine blk_drew ?_ | refine blk_alloc ?_ _)); refine blk_far ?_ NB553_565.out _; (with_reducible repeat (first | refine blk_drewN ?_ _ | refine blk_drew ?_ | refine blk_alloc ?_ _)); refine blk_far ?_ NB553_565.out _; (with_reducible repeat (first | refine blk_drewN ?_ _ | refine blk_drew ?_ | refine blk_alloc ?_ _)); exact BK553.out) hb); have n3_ := Aside0.mk (blk_below (g := gb561) (o := .cells #[.bool t558, .string t559, .int .i64 t560] 24 (0, 0)) (by (with_reducible repeat (first | refine blk_drewN ?_ _ | refine blk_drew ?_ | refine blk_alloc ?_ _)); refine blk_far ?_ NB561_565.out _; (with_reducible repeat (first | refine blk_drewN ?_ _ | refine blk_drew ?_ | refine blk_alloc ?_ _)); refine blk_far ?_ NB561_565.out _; (with_reducible repeat (first | refine blk_drewN ?_ _ | refine blk_drew ?_ | refine blk_alloc ?_ _)); refine blk_far ?_ NB561_565.out _; (with_reducible repeat (first | refine blk_drewN ?_ _ | refine blk_drew ?_ | refine blk_alloc ?_ _)); exact BK561.out) hb); have n4_ := Aside0.mk (blk_below (g := gb565) (o := .cells #[.bool t562, .string t563, .int .i64 t564] 24 (0, 0)) (by (with_reducible repeat (first | refine blk_drewN ?_ _ | refine blk_drew ?_ | refine blk_alloc ?_ _)); refine blk_put (cs := #[.bool t562, .string t563, .int .i64 0]) ?_ 2 _ rfl; (with_reducible repeat (first | refine blk_drewN ?_ _ | refine blk_drew ?_ | refine blk_alloc ?_ _)); refine blk_put (cs := #[.bool t562, .string (⟨#[]⟩ : ByteArray), .int .i64 0]) ?_ 1 _ rfl; (with_reducible repeat (first | refine blk_drewN ?_ _ | refine blk_drew ?_ | refine blk_alloc ?_ _)); refine blk_put (cs := #[.bool false, .string (⟨#[]⟩ : ByteArray), .int .i64 0]) ?_ 0 _ rfl; (with_reducible repeat (first | refine blk_drewN ?_ _ | refine blk_drew ?_ | refine blk_alloc ?_ _)); exact BK565.out) hb); have n5_ := Aside0.mk (below_step (bl_ HB).out hb); clear BK551; clear BK552; clear BK553; clear BK561; clear BK565; clear HB; have BK551 := n0_; have BK552 := n1_; have BK553 := n2_; have BK561 := n3_; have BK565 := n4_; have HB := n5_; clear n0_ n1_ n2_ n3_ n4_ n5_; (try clear hb); (try clear hb2); (try clear hk); (try clear hi)) | ((with_reducible refine gate_dst (N := 9) rfl ?_); (try (refine gate_guard (by rfl) ?_; dsimp only)); refine box_event ?hg (N := 9) ?hd (cs := #[.bool false, .string (⟨#[]⟩ : ByteArray), .int .i64 0]) (t := 24) ?hr ?_; (case hd => rfl); (case hg => rfl); (case hr => first | (go_simp; done) | (go_simp; rfl)); intro gb569 hg w62 hbox hb; have n0_ := bb_ BK551 hb; have n1_ := bb_ BK552 hb; have n2_ := bb_ BK553 hb; have n3_ := bb_ BK561 hb; have n4_ := bb_ BK565 hb; have n5_ := Aside0.mk (below_step (bl_ HB).out hb); have n6_ := Aside0.mk (hbox); have n7_ := Aside0.mk ((by rw [hg]; exact (below_size (bl_ HB).out) : w.heap.size ≤ gb569)); have n8_ := Aside0.mk ((by rw [hg]; exact (below_size (bl_ HB).out) : w.heap.size ≤ gb569)); have n9_ := Aside0.mk ((by rw [hg]; exact Nat.ne_of_lt (blk_lt (g := gb551) (o := .cells #[.bool a0_0, .slice A0_1 l0_1.length c0_1, .int .i64 a0_2] 33 (0, 0)) (by (with_reducible repeat (first | refine blk_drewN ?_ _ | refine blk_drew ?_ | refine blk_alloc ?_ _)); exact BK551.out)) : gb551 ≠ gb569)); have n10_ := Aside0.mk ((by rw [hg]; exact Nat.ne_of_gt (blk_lt (g := gb551) (o := .cells #[.bool a0_0, .slice A0_1 l0_1.length c0_1, .int .i64 a0_2] 33 (0, 0)) (by (with_reducible repeat (first | refine blk_drewN ?_ _ | refine blk_drew ?_ | refine blk_alloc ?_ _)); exact BK551.out)) : gb569 ≠ gb551)); have n11_ := Aside0.mk ((by rw [hg]; exact Nat.ne_of_lt (blk_lt (g := gb552) (o := .cells #[.bool a1_0, .slice A1_1 l1_1.length c1_1, .int .i64 a1_2] 33 (0, 0)) (by (with_reducible repeat (first | refine blk_drewN ?_ _ | refine blk_drew ?_ | refine blk_alloc ?_ _)); exact BK552.out)) : gb552 ≠ gb569)); have n12_ := Aside0.mk ((by rw [hg]; exact Nat.ne_of_gt (blk_lt (g := gb552) (o := .cells #[.bool a1_0, .slice A1_1 l1_1.length c1_1, .int .i64 a1_2] 33 (0, 0)) (by (with_reducible repeat (first | refine blk_drewN ?_ _ | refine blk_drew ?_ | refine blk_alloc ?_ _)); exact BK552.out)) : gb569 ≠ gb552)); have n13_ := Aside0.mk ((by rw [hg]; exact Nat.ne_of_lt (blk_lt (g := gb553) (o := .cells #[.bool a2_0, .slice A2_1 l2_1.length c2_1, .int .i64 a2_2] 33 (0, 0)) (by (with_reducible repeat (first | refine blk_drewN ?_ _ | refine blk_drew ?_ | refine blk_alloc ?_ _)); exact BK553.out)) : gb553 ≠ gb569)); have n14_ := Aside0.mk ((by rw [hg]; exact Nat.ne_of_gt (blk_lt (g := gb553) (o := .cells #[.bool a2_0, .slice A2_1 l2_1.length c2_1, .int .i64 a2_2] 33 (0, 0)) (by (with_reducible repeat (first | refine blk_drewN ?_ _ | refine blk_drew ?_ | refine blk_alloc ?_ _)); exact BK553.out)) : gb569 ≠ gb553)); have n15_ := Aside0.mk ((by rw [hg]; exact Nat.ne_of_lt (blk_lt (g := gb561) (o := .cells #[.bool t558, .string t559, .int .i64 t560] 24 (0, 0)) (by (with_reducible repeat (first | refine blk_drewN ?_ _ | refine blk_drew ?_ | refine blk_alloc ?_ _)); exact BK561.out)) : gb561 ≠ gb569)); have n16_ := Aside0.mk ((by rw [hg]; exact Nat.ne_of_gt (blk_lt (g := gb561) (o := .cells #[.bool t558, .string t559, .int .i64 t560] 24 (0, 0)) (by (with_reducible repeat (first | refine blk_drewN ?_ _ | refine blk_drew ?_ | refine blk_alloc ?_ _)); exact BK561.out)) : gb569 ≠ gb561)); have n17_ := Aside0.mk ((by rw [hg]; exact Nat.ne_of_lt (blk_lt (g := gb565) (o := .cells #[.bool t562, .string t563, .int .i64 t564] 24 (0, 0)) (by (with_reducible repeat (first | refine blk_drewN ?_ _ | refine blk_drew ?_ | refine blk_alloc ?_ _)); exact BK565.out)) : gb565 ≠ gb569)); have n18_ := Aside0.mk ((by rw [hg]; exact Nat.ne_of_gt (blk_lt (g := gb565) (o := .cells #[.bool t562, .string t563, .int .i64 t564] 24 (0, 0)) (by (with_reducible repeat (first | refine blk_drewN ?_ _ | refine blk_drew ?_ | refine blk_alloc ?_ _)); exact BK565.out)) : gb569 ≠ gb565)); clear BK551; clear BK552; clear BK553; clear BK561; clear BK565; clear HB; have BK551 := n0_; have BK552 := n1_; have BK553 := n2_; have BK561 := n3_; have BK565 := n4_; have HB := n5_; have BK569 := n6_; have GW569 := n7_; have GE569 := n8_; have NB551_569 := n9_; have NB569_551 := n10_; have NB552_569 := n11_; have NB569_552 := n12_; have NB553_569 := n13_; have NB569_553 := n14_; have NB561_569 := n15_; have NB569_561 := n16_; have NB565_569 := n17_; have NB569_565 := n18_; clear n0_ n1_ n2_ n3_ n4_ n5_ n6_ n7_ n8_ n9_ n10_ n11_ n12_ n13_ n14_ n15_ n16_ n17_ n18_; clear hb hbox hg; have hnb63 := NB569_551.out; have hnc63 := NB551_569.out; have hnb64 := NB569_552.out; have hnc64 := NB552_569.out; have hnb65 := NB569_553.out; have hnc65 := NB553_569.out; have hnb66 := NB569_561.out; have hnc66 := NB561_569.out; have hnb67 := NB569_565.out; have hnc67 := NB565_569.out; have hcz68_0 : w62.cell? ⟨gb569, 0, none⟩ = some (.bool false) := (blk_cell BK569.out 0).trans rfl; have hcz68_1 : w62.cell? ⟨gb569, 1, none⟩ = some (.string (⟨#[]⟩ : ByteArray)) := (blk_cell BK569.out 1).trans rfl; have hcz68_2 : w62.cell? ⟨gb569, 2, none⟩ = some (.int .i64 0) := (blk_cell BK569.out 2).trans rfl; have hfz68_0 := blk_frozen BK569.out 0; have hfz68_1 := blk_frozen BK569.out 1; have hfz68_2 := blk_frozen BK569.out 2; have hcz69_0 : w62.cell? ⟨gb561, 0, none⟩ = some (.bool t558) := (blk_cell BK561.out 0).trans rfl; have hcz69_1 : w62.cell? ⟨gb561, 1, none⟩ = some (.string t559) := (blk_cell BK561.out 1).trans rfl; have hcz69_2 : w62.cell? ⟨gb561, 2, none⟩ = some (.int .i64 t560) := (blk_cell BK561.out 2).trans rfl; have hfz69_0 := blk_frozen BK561.out 0; have hfz69_1 := blk_frozen BK561.out 1; have hfz69_2 := blk_frozen BK561.out 2; have hcz70_0 : w62.cell? ⟨gb565, 0, none⟩ = some (.bool t562) := (blk_cell BK565.out 0).trans rfl; have hcz70_1 : w62.cell? ⟨gb565, 1, none⟩ = some (.string t563) := (blk_cell BK565.out 1).trans rfl; have hcz70_2 : w62.cell? ⟨gb565, 2, none⟩ = some (.int .i64 t564) := (blk_cell BK565.out 2).trans rfl; have hfz70_0 := blk_frozen BK565.out 0; have hfz70_1 := blk_frozen BK565.out 1; have hfz70_2 := blk_frozen BK565.out 2) | ((with_reducible refine gate_callee (f := 37) rfl ?_); refine goesL_ (some 35) rfl rfl Tryd.func37 (by kernel_rfl) rfl #[.agg #[.bool t558, .string t559, .int .i64 t560], .agg #[.bool t562, .string t563, .int .i64 t564]] rfl (by (try simp only [List.map_toArray, List.map_cons, List.map_nil]); first | done | rfl | (simp only [List.length_drop, List.length_take]; rfl) | (have z_ : ∀ s_ : ByteArray, s_.size ≤ 9223372036854775807 → -(s_.size : Int) = wrap64 (-(s_.size : Int)) := (fun s_ h_ => by unfold wrap64; omega); rw [← z_ _ (by omega)]; rfl)) ?_; (with_reducible refine (dec_Cmp.calls kj5 t558 t559 t560 t562 t563 t564 t570 _ A40.out).mono ?_); rintro e w71 ⟨rfl, hb⟩; refine ⟨_, rfl, ?_⟩; have n0_ := Aside0.mk (blk_below (g := gb551) (o := .cells #[.bool a0_0, .slice A0_1 l0_1.length c0_1, .int .i64 a0_2] 33 (0, 0)) (by (with_reducible repeat (first | refine blk_drewN ?_ _ | refine blk_drew ?_ | refine blk_alloc ?_ _)); refine blk_far ?_ NB551_569.out _; (with_reducible repeat (first | refine blk_drewN ?_ _ | refine blk_drew ?_ | refine blk_alloc ?_ _)); refine blk_far ?_ NB551_569.out _; (with_reducible repeat (first | refine blk_drewN ?_ _ | refine blk_drew ?_ | refine blk_alloc ?_ _)); refine blk_far ?_ NB551_569.out _; (with_reducible repeat (first | refine blk_drewN ?_ _ | refine blk_drew ?_ | refine blk_alloc ?_ _)); exact BK551.out) hb); have n1_ := Aside0.mk (blk_below (g := gb552) (o := .cells #[.bool a1_0, .slice A1_1 l1_1.length c1_1, .int .i64 a1_2] 33 (0, 0)) (by (with_reducible repeat (first | refine blk_drewN ?_ _ | refine blk_drew ?_ | refine blk_alloc ?_ _)); refine blk_far ?_ NB552_569.out _; (with_reducible repeat (first | refine blk_drewN ?_ _ | refine blk_drew ?_ | refine blk_alloc ?_ _)); refine blk_far ?_ NB552_569.out _; (with_reducible repeat (first | refine blk_drewN ?_ _ | refine blk_drew ?_ | refine blk_alloc ?_ _)); refine blk_far ?_ NB552_569.out _; (with_reducible repeat (first | refine blk_drewN ?_ _ | refine blk_drew ?_ | refine blk_alloc ?_ _)); exact BK552.out) hb); have n2_ := Aside0.mk (blk_below (g := gb553) (o := .cells #[.bool a2_0, .slice A2_1 l2_1.length c2_1, .int .i64 a2_2] 33 (0, 0)) (by (with_reducible repeat (first | refine blk_drewN ?_ _ | refine blk_drew ?_ | refine blk_alloc ?_ _)); refine blk_far ?_ NB553_569.out _; (with_reducible repeat (first | refine blk_drewN ?_ _ | refine blk_drew ?_ | refine blk_alloc ?_ _)); refine blk_far ?_ NB553_569.out _; (with_reducible repeat (first | refine blk_drewN ?_ _ | refine blk_drew ?_ | refine blk_alloc ?_ _)); refine blk_far ?_ NB553_569.out _; (with_reducible repeat (first | refine blk_drewN ?_ _ | refine blk_drew ?_ | refine blk_alloc ?_ _)); exact BK553.out) hb); have n3_ := Aside0.mk (blk_below (g := gb561) (o := .cells #[.bool t558, .string t559, .int .i64 t560] 24 (0, 0)) (by (with_reducible repeat (first | refine blk_drewN ?_ _ | refine blk_drew ?_ | refine blk_alloc ?_ _)); refine blk_far ?_ NB561_569.out _; (with_reducible repeat (first | refine blk_drewN ?_ _ | refine blk_drew ?_ | refine blk_alloc ?_ _)); refine blk_far ?_ NB561_569.out _; (with_reducible repeat (first | refine blk_drewN ?_ _ | refine blk_drew ?_ | refine blk_alloc ?_ _)); refine blk_far ?_ NB561_569.out _; (with_reducible repeat (first | refine blk_drewN ?_ _ | refine blk_drew ?_ | refine blk_alloc ?_ _)); exact BK561.out) hb); have n4_ := Aside0.mk (blk_below (g := gb565) (o := .cells #[.bool t562, .string t563, .int .i64 t564] 24 (0, 0)) (by (with_reducible repeat (first | refine blk_drewN ?_ _ | refine blk_drew ?_ | refine blk_alloc ?_ _)); refine blk_far ?_ NB565_569.out _; (with_reducible repeat (first | refine blk_drewN ?_ _ | refine blk_drew ?_ | refine blk_alloc ?_ _)); refine blk_far ?_ NB565_569.out _; (with_reducible repeat (first | refine blk_drewN ?_ _ | refine blk_drew ?_ | refine blk_alloc ?_ _)); refine blk_far ?_ NB565_569.out _; (with_reducible repeat (first | refine blk_drewN ?_ _ | refine blk_drew ?_ | refine blk_alloc ?_ _)); exact BK565.out) hb); have n5_ := Aside0.mk (blk_below (g := gb569) (o := .cells #[.bool t566, .string t567, .int .i64 t568] 24 (0, 0)) (by (with_reducible repeat (first | refine blk_drewN ?_ _ | refine blk_drew ?_ | refine blk_alloc ?_ _)); refine blk_put (cs := #[.bool t566, .string t567, .int .i64 0]) ?_ 2 _ rfl; (with_reducible repeat (first | refine blk_drewN ?_ _ | refine blk_drew ?_ | refine blk_alloc ?_ _)); refine blk_put (cs := #[.bool t566, .string (⟨#[]⟩ : ByteArray), .int .i64 0]) ?_ 1 _ rfl; (with_reducible repeat (first | refine blk_drewN ?_ _ | refine blk_drew ?_ | refine blk_alloc ?_ _)); refine blk_put (cs := #[.bool false, .string (⟨#[]⟩ : ByteArray), .int .i64 0]) ?_ 0 _ rfl; (with_reducible repeat (first | refine blk_drewN ?_ _ | refine blk_drew ?_ | refine blk_alloc ?_ _)); exact BK569.out) hb); have n6_ := Aside0.mk (below_step (bl_ HB).out hb); clear BK551; clear BK552; clear BK553; clear BK561; clear BK565; clear BK569; clear HB; have BK551 := n0_; have BK552 := n1_; have BK553 := n2_; have BK561 := n3_; have BK565 := n4_; have BK569 := n5_; have HB := n6_; clear n0_ n1_ n2_ n3_ n4_ n5_ n6_; (try clear hb); (try clear hb2); (try clear hk); (try clear hi)))
     (try simp only [Act.put, List.setIfInBounds_toArray, List.set_cons_zero, List.set_cons_succ])
     go_cut [72] (fun v72 wc => ∃ (kq : Nat) (x72_40 : Bool), v72 = .bool x72_40 ∧ Aside0 (florinlaw02_DecOrders.j1 kq t570 x72_40 t558 t559 t560 t562 t563 t564 t566 t567 t568 = some r) ∧ Aside0 (kq ≤ kj5) ∧ Aside0 (wc.heap[gb551]? = some (.cells #[.bool a0_0, (.slice A0_1 l0_1.length c0_1), .int .i64 a0_2] 33 (0, 0))) ∧ Aside0 (wc.heap[gb552]? = some (.cells #[.bool a1_0, (.slice A1_1 l1_1.length c1_1), .int .i64 a1_2] 33 (0, 0))) ∧ Aside0 (wc.heap[gb553]? = some (.cells #[.bool a2_0, (.slice A2_1 l2_1.length c2_1), .int .i64 a2_2] 33 (0, 0))) ∧ Aside0 (wc.heap[gb561]? = some (.cells #[.bool t558, .string t559, .int .i64 t560] 24 (0, 0))) ∧ Aside0 (wc.heap[gb565]? = some (.cells #[.bool t562, .string t563, .int .i64 t564] 24 (0, 0))) ∧ Aside0 (wc.heap[gb569]? = some (.cells #[.bool t566, .string t567, .int .i64 t568] 24 (0, 0))) ∧ Aside0 (Below w.heap.size w wc))
     case first =>
      have H := HC41.out
      clear HC41
      replace H := Option.bind_eq_some_iff.mp H
      obtain ⟨t571, A720, H⟩ := H
      replace H : (if t570 = (wrap64 (-t571)) then ((dec_Dec_Norm.f kj5 t558 t559 t560).bind fun bt572 => ((dec_Dec_Norm.f kj5 t562 t563 t564).bind fun bt575 => (if ((t570 == 0) != (bt572.1 == bt575.1 && (bt572.2.1.toList == bt575.2.1.toList && (bt572.2.2 == bt575.2.2)))) = true then (florinlaw02_DecOrders.j1 kj5 t570 true t558 t559 t560 t562 t563 t564 t566 t567 t568) else ((dec_Dec_Minus.f kj5 t558 t559 t560).bind fun bt578 => ((dec_Dec_Minus.f kj5 t562 t563 t564).bind fun bt581 => ((dec_Cmp.f kj5 bt578.1 bt578.2.1 bt578.2.2 bt581.1 bt581.2.1 bt581.2.2).bind fun t584 => (if t584 = (wrap64 (-t570)) then ((dec_Add.f kj5 t558 t559 t560 t566 t567 t568).bind fun bt585 => ((dec_Add.f kj5 t562 t563 t564 t566 t567 t568).bind fun bt588 => ((dec_Cmp.f kj5 bt585.1 bt585.2.1 bt585.2.2 bt588.1 bt588.2.1 bt588.2.2).bind fun t591 => (florinlaw02_DecOrders.j1 kj5 t570 (t591 != t570) t558 t559 t560 t562 t563 t564 t566 t567 t568)))) else (florinlaw02_DecOrders.j1 kj5 t570 true t558 t559 t560 t562 t563 t564 t566 t567 t568)))))))) else (florinlaw02_DecOrders.j1 kj5 t570 true t558 t559 t560 t562 t563 t564 t566 t567 t568)) = some r := H
      have A72 := Aside0.mk A720
      clear A720
      by_cases c73 : t570 = (wrap64 (-t571))
      ·rw [if_pos c73] at H
       have c73b0 : (t570 == (wrap64 (-t571))) = true := beq_iff_eq.mpr c73
       have c73b1 : (t570 != (wrap64 (-t571))) = false := bne_eq_false_iff_eq.mpr c73
       clear c73
       (first | rw [c73b0] | (simp only [i64_w, i32_w]; rw [c73b0]) | skip)
       replace H := Option.bind_eq_some_iff.mp H
       obtain ⟨⟨t572, t573, t574⟩, A740, H⟩ := H
       replace H : ((dec_Dec_Norm.f kj5 t562 t563 t564).bind fun bt575 => (if ((t570 == 0) != (t572 == bt575.1 && (t573.toList == bt575.2.1.toList && (t574 == bt575.2.2)))) = true then (florinlaw02_DecOrders.j1 kj5 t570 true t558 t559 t560 t562 t563 t564 t566 t567 t568) else ((dec_Dec_Minus.f kj5 t558 t559 t560).bind fun bt578 => ((dec_Dec_Minus.f kj5 t562 t563 t564).bind fun bt581 => ((dec_Cmp.f kj5 bt578.1 bt578.2.1 bt578.2.2 bt581.1 bt581.2.1 bt581.2.2).bind fun t584 => (if t584 = (wrap64 (-t570)) then ((dec_Add.f kj5 t558 t559 t560 t566 t567 t568).bind fun bt585 => ((dec_Add.f kj5 t562 t563 t564 t566 t567 t568).bind fun bt588 => ((dec_Cmp.f kj5 bt585.1 bt585.2.1 bt585.2.2 bt588.1 bt588.2.1 bt588.2.2).bind fun t591 => (florinlaw02_DecOrders.j1 kj5 t570 (t591 != t570) t558 t559 t560 t562 t563 t564 t566 t567 t568)))) else (florinlaw02_DecOrders.j1 kj5 t570 true t558 t559 t560 t562 t563 t564 t566 t567 t568))))))) = some r := H
       have A74 := Aside0.mk A740
       clear A740
       replace H := Option.bind_eq_some_iff.mp H
       obtain ⟨⟨t575, t576, t577⟩, A750, H⟩ := H
       replace H : (if ((t570 == 0) != (t572 == t575 && (t573.toList == t576.toList && (t574 == t577)))) = true then (florinlaw02_DecOrders.j1 kj5 t570 true t558 t559 t560 t562 t563 t564 t566 t567 t568) else ((dec_Dec_Minus.f kj5 t558 t559 t560).bind fun bt578 => ((dec_Dec_Minus.f kj5 t562 t563 t564).bind fun bt581 => ((dec_Cmp.f kj5 bt578.1 bt578.2.1 bt578.2.2 bt581.1 bt581.2.1 bt581.2.2).bind fun t584 => (if t584 = (wrap64 (-t570)) then ((dec_Add.f kj5 t558 t559 t560 t566 t567 t568).bind fun bt585 => ((dec_Add.f kj5 t562 t563 t564 t566 t567 t568).bind fun bt588 => ((dec_Cmp.f kj5 bt585.1 bt585.2.1 bt585.2.2 bt588.1 bt588.2.1 bt588.2.2).bind fun t591 => (florinlaw02_DecOrders.j1 kj5 t570 (t591 != t570) t558 t559 t560 t562 t563 t564 t566 t567 t568)))) else (florinlaw02_DecOrders.j1 kj5 t570 true t558 t559 t560 t562 t563 t564 t566 t567 t568)))))) = some r := H
       have A75 := Aside0.mk A750
       clear A750
       by_cases c76 : ((t570 == 0) != (t572 == t575 && (t573.toList == t576.toList && (t574 == t577)))) = true
       ·rw [if_pos c76] at H
        have c76b0 : ((t570 == 0) != (t572 == t575 && (t573.toList == t576.toList && (t574 == t577)))) = true := c76
        (try (have c76b1 : decide ((t570 == 0) = (t572 == t575 && (t573.toList == t576.toList && (t574 == t577)))) = false := by simpa using c76))
        (try (have c76b2 : ((t570 == 0) == (t572 == t575 && (t573.toList == t576.toList && (t574 == t577)))) = false := by simpa using c76))
        (try (have c76b3 : ¬ ((t570 == 0) = (t572 == t575 && (t573.toList == t576.toList && (t574 == t577)))) := by simpa using c76))
        clear c76
        have H' := Aside0.mk H
        clear H
        try go_wp2
        have n0_ := Aside0.mk (blk_drew BK551.out)
        have n1_ := Aside0.mk (blk_drew BK552.out)
        have n2_ := Aside0.mk (blk_drew BK553.out)
        have n3_ := Aside0.mk (blk_drew BK561.out)
        have n4_ := Aside0.mk (blk_drew BK565.out)
        have n5_ := Aside0.mk (blk_drew BK569.out)
        have n6_ := Aside0.mk (below_drew1 HB.out)
        clear BK551
        clear BK552
        clear BK553
        clear BK561
        clear BK565
        clear BK569
        clear HB
        have BK551 := n0_
        have BK552 := n1_
        have BK553 := n2_
        have BK561 := n3_
        have BK565 := n4_
        have BK569 := n5_
        have HB := n6_
        clear n0_ n1_ n2_ n3_ n4_ n5_ n6_
        refine start_ (n := 37) (S := fun w' => w'.cell? ⟨gb565, 0, none⟩ = some (.bool t562) ∧ w'.cell? ⟨gb565, 1, none⟩ = some (.string t563) ∧ w'.cell? ⟨gb565, 2, none⟩ = some (.int .i64 t564) ∧ w'.cell? ⟨gb561, 0, none⟩ = some (.bool t558) ∧ w'.cell? ⟨gb561, 1, none⟩ = some (.string t559) ∧ w'.cell? ⟨gb561, 2, none⟩ = some (.int .i64 t560)) (ds := []) #[false, false, false, false, false, false, false, false, false, false, false, false, false, false, false, false, false, false, false, false, false, false, false, false, false, false, false, false, false, false, false, false, false, false, false, false, false] (by kernel_rfl) rfl rfl ⟨(blk_cell BK565.out 0).trans rfl, (blk_cell BK565.out 1).trans rfl, (blk_cell BK565.out 2).trans rfl, (blk_cell BK561.out 0).trans rfl, (blk_cell BK561.out 1).trans rfl, (blk_cell BK561.out 2).trans rfl⟩ (fun hHeld => ?_); refine with_tabW florinlaw02_DecOrders.tab9 florinlaw02_DecOrders.bits9 (fun HT_ HW_ => ?_)
        generalize w71.drew = w77 at BK551 BK552 BK553 BK561 BK565 BK569 HB hHeld ⊢
        refine pu_ 0 36 (bm_ 37 1) HT_ ?_
        refine tk_ 1 37 (bm_ 37 3) HT_ HW_ hHeld rfl (by rintro w' ⟨s0, s1, s2, s3, s4, s5⟩; go_simp; with_reducible rfl) ?_
        refine tk_ 2 38 (bm_ 37 7) HT_ HW_ hHeld rfl (by rintro w' ⟨s0, s1, s2, s3, s4, s5⟩; go_simp; with_reducible rfl) ?_
        refine one_ (i := 3) (N := some 39) (bm_ 37 15) rfl rfl (one_of HT_.out (by kernel_rfl)) (by decide) (fun K hK => ?_)
        refine goes_ Tryd.func37 (by kernel_rfl) rfl #[.agg #[.bool t562, .string t563, .int .i64 t564], .agg #[.bool t558, .string t559, .int .i64 t560]] (by rfl) rfl rfl (by (try simp only [List.map_toArray, List.map_cons, List.map_nil]); first | done | rfl | (simp only [List.length_drop, List.length_take]; rfl) | (have z_ : ∀ s_ : ByteArray, s_.size ≤ 9223372036854775807 → -(s_.size : Int) = wrap64 (-(s_.size : Int)) := (fun s_ h_ => by unfold wrap64; omega); rw [← z_ _ (by omega)]; rfl)) ?_
        with_reducible refine (dec_Cmp.calls kj5 t562 t563 t564 t558 t559 t560 t571 _ A72.out).mono ?_
        rintro e w78 ⟨rfl, hb⟩
        refine ⟨_, rfl, ?_⟩
        have n0_ := bb_ BK551 hb
        have n1_ := bb_ BK552 hb
        have n2_ := bb_ BK553 hb
        have n3_ := bb_ BK561 hb
        have n4_ := bb_ BK565 hb
        have n5_ := bb_ BK569 hb
        have n6_ := Aside0.mk (below_step (bl_ HB).out hb)
        clear BK551
        clear BK552
        clear BK553
        clear BK561
        clear BK565
        clear BK569
        clear HB
        have BK551 := n0_
        have BK552 := n1_
        have BK553 := n2_
        have BK561 := n3_
        have BK565 := n4_
        have BK569 := n5_
        have HB := n6_
        clear n0_ n1_ n2_ n3_ n4_ n5_ n6_
        (try clear hb)
        (try clear hb2)
        (try clear hk)
        (try clear hi)
        refine hK.out _ _ ⟨(blk_cell BK565.out 0).trans rfl, (blk_cell BK565.out 1).trans rfl, (blk_cell BK565.out 2).trans rfl, (blk_cell BK561.out 0).trans rfl, (blk_cell BK561.out 1).trans rfl, (blk_cell BK561.out 2).trans rfl⟩ (fun hHeld => ?_)
        clear hK K
        refine norm_ (a' := ?_) ?_ ?_
        rotate_left
        ·show Act.put _ (some 39) _ = _
         simp only [Act.put, List.setIfInBounds_toArray, List.set_cons_zero, List.set_cons_succ, i64_w, i32_w]
         rfl
        refine pu_ 4 40 (bm_ 37 31) HT_ ?_
        refine pu_ 5 41 (bm_ 37 63) HT_ ?_
        refine pu_ 6 42 (bm_ 37 127) HT_ ?_
        refine pu_ 7 43 (bm_ 37 255) HT_ ?_
        refine pu_ 8 44 (bm_ 37 511) HT_ ?_
        refine tk_ 9 45 (bm_ 37 1023) HT_ HW_ hHeld rfl (by rintro w' ⟨s0, s1, s2, s3, s4, s5⟩; go_simp; with_reducible rfl) ?_
        refine tk_ 11 47 (bm_ 37 3071) HT_ HW_ hHeld rfl (by rintro w' ⟨s0, s1, s2, s3, s4, s5⟩; go_simp; with_reducible rfl) ?_
        refine one_ (i := 10) (N := some 46) (bm_ 37 4095) rfl rfl (one_of HT_.out (by kernel_rfl)) (by decide) (fun K hK => ?_)
        refine goes_ Tryd.func19 (by kernel_rfl) rfl #[.agg #[.bool t558, .string t559, .int .i64 t560]] (by rfl) rfl rfl (by (try simp only [List.map_toArray, List.map_cons, List.map_nil]); first | done | rfl | (simp only [List.length_drop, List.length_take]; rfl) | (have z_ : ∀ s_ : ByteArray, s_.size ≤ 9223372036854775807 → -(s_.size : Int) = wrap64 (-(s_.size : Int)) := (fun s_ h_ => by unfold wrap64; omega); rw [← z_ _ (by omega)]; rfl)) ?_
        with_reducible refine (dec_Dec_Norm.calls kj5 t558 t559 t560 t572 t573 t574 _ A74.out).mono ?_
        rintro e w79 ⟨rfl, hb⟩
        refine ⟨_, rfl, ?_⟩
        have n0_ := bb_ BK551 hb
        have n1_ := bb_ BK552 hb
        have n2_ := bb_ BK553 hb
        have n3_ := bb_ BK561 hb
        have n4_ := bb_ BK565 hb
        have n5_ := bb_ BK569 hb
        have n6_ := Aside0.mk (below_step (bl_ HB).out hb)
        clear BK551
        clear BK552
        clear BK553
        clear BK561
        clear BK565
        clear BK569
        clear HB
        have BK551 := n0_
        have BK552 := n1_
        have BK553 := n2_
        have BK561 := n3_
        have BK565 := n4_
        have BK569 := n5_
        have HB := n6_
        clear n0_ n1_ n2_ n3_ n4_ n5_ n6_
        (try clear hb)
        (try clear hb2)
        (try clear hk)
        (try clear hi)
        refine hK.out _ _ ⟨(blk_cell BK565.out 0).trans rfl, (blk_cell BK565.out 1).trans rfl, (blk_cell BK565.out 2).trans rfl, (blk_cell BK561.out 0).trans rfl, (blk_cell BK561.out 1).trans rfl, (blk_cell BK561.out 2).trans rfl⟩ (fun hHeld => ?_)
        clear hK K
        refine norm_ (a' := ?_) ?_ ?_
        rotate_left
        ·show Act.put _ (some 46) _ = _
         simp only [Act.put, List.setIfInBounds_toArray, List.set_cons_zero, List.set_cons_succ, i64_w, i32_w]
         rfl
        refine one_ (i := 12) (N := some 48) (bm_ 37 8191) rfl rfl (one_of HT_.out (by kernel_rfl)) (by decide) (fun K hK => ?_)
        refine goes_ Tryd.func19 (by kernel_rfl) rfl #[.agg #[.bool t562, .string t563, .int .i64 t564]] (by rfl) rfl rfl (by (try simp only [List.map_toArray, List.map_cons, List.map_nil]); first | done | rfl | (simp only [List.length_drop, List.length_take]; rfl) | (have z_ : ∀ s_ : ByteArray, s_.size ≤ 9223372036854775807 → -(s_.size : Int) = wrap64 (-(s_.size : Int)) := (fun s_ h_ => by unfold wrap64; omega); rw [← z_ _ (by omega)]; rfl)) ?_
        with_reducible refine (dec_Dec_Norm.calls kj5 t562 t563 t564 t575 t576 t577 _ A75.out).mono ?_
        rintro e w80 ⟨rfl, hb⟩
        refine ⟨_, rfl, ?_⟩
        have n0_ := bb_ BK551 hb
        have n1_ := bb_ BK552 hb
        have n2_ := bb_ BK553 hb
        have n3_ := bb_ BK561 hb
        have n4_ := bb_ BK565 hb
        have n5_ := bb_ BK569 hb
        have n6_ := Aside0.mk (below_step (bl_ HB).out hb)
        clear BK551
        clear BK552
        clear BK553
        clear BK561
        clear BK565
        clear BK569
        clear HB
        have BK551 := n0_
        have BK552 := n1_
        have BK553 := n2_
        have BK561 := n3_
        have BK565 := n4_
        have BK569 := n5_
        have HB := n6_
        clear n0_ n1_ n2_ n3_ n4_ n5_ n6_
        (try clear hb)
        (try clear hb2)
        (try clear hk)
        (try clear hi)
        refine hK.out _ _ ⟨(blk_cell BK565.out 0).trans rfl, (blk_cell BK565.out 1).trans rfl, (blk_cell BK565.out 2).trans rfl, (blk_cell BK561.out 0).trans rfl, (blk_cell BK561.out 1).trans rfl, (blk_cell BK561.out 2).trans rfl⟩ (fun hHeld => ?_)
        clear hK K
        refine norm_ (a' := ?_) ?_ ?_
        rotate_left
        ·show Act.put _ (some 48) _ = _
         simp only [Act.put, List.setIfInBounds_toArray, List.set_cons_zero, List.set_cons_succ, i64_w, i32_w]
         rfl
        refine pu_ 13 49 (bm_ 37 16383) HT_ ?_
        refine pu_ 14 50 (bm_ 37 32767) HT_ ?_
        refine pu_ 15 51 (bm_ 37 65535) HT_ ?_
        refine pu_ 16 52 (bm_ 37 131071) HT_ ?_
        refine pn_ 17 53 (bm_ 37 262143) HT_ ?_
        refine pn_ 18 54 (bm_ 37 524287) HT_ ?_
        refine pn_ 19 55 (bm_ 37 1048575) HT_ ?_
        refine pn_ 20 56 (bm_ 37 2097151) HT_ ?_
        refine pn_ 21 57 (bm_ 37 4194303) HT_ ?_
        refine pn_ 22 58 (bm_ 37 8388607) HT_ ?_
        refine pn_ 23 59 (bm_ 37 16777215) HT_ ?_
        refine pn_ 24 60 (bm_ 37 33554431) HT_ ?_
        refine pu_ 25 61 (bm_ 37 67108863) HT_ ?_
        refine pu_ 26 62 (bm_ 37 134217727) HT_ ?_
        refine pn_ 27 63 (bm_ 37 268435455) HT_ ?_
        refine pn_ 28 64 (bm_ 37 536870911) HT_ ?_
        refine pn_ 29 65 (bm_ 37 1073741823) HT_ ?_
        refine pn_ 30 66 (bm_ 37 2147483647) HT_ ?_
        refine pn_ 31 67 (bm_ 37 4294967295) HT_ ?_
        refine pn_ 32 68 (bm_ 37 8589934591) HT_ ?_
        refine pn_ 33 69 (bm_ 37 17179869183) HT_ ?_
        refine pn_ 34 70 (bm_ 37 34359738367) HT_ ?_
        refine pn_ 35 71 (bm_ 37 68719476735) HT_ ?_
        refine pu_ 36 72 (bm_ 37 137438953471) HT_ ?_
        refine done_ (done_of HT_.out (by kernel_rfl)) ?_
        try go_wp2
        go_meet
        case rel => exact ⟨_, (true), eq_, H', ⟨by have := HJ5.out; first | omega | exact Nat.le_refl _⟩, (bk_ BK551), (bk_ BK552), (bk_ BK553), (bk_ BK561), (bk_ BK565), (bk_ BK569), (bl_ HB)⟩
       ·rw [if_neg c76] at H
        have c76b0 : ((t570 == 0) != (t572 == t575 && (t573.toList == t576.toList && (t574 == t577)))) = false := by simpa using c76
        (try (have c76b1 : decide ((t570 == 0) = (t572 == t575 && (t573.toList == t576.toList && (t574 == t577)))) = true := by simpa using c76))
        (try (have c76b2 : ((t570 == 0) == (t572 == t575 && (t573.toList == t576.toList && (t574 == t577)))) = true := by simpa using c76))
        clear c76
        replace H := Option.bind_eq_some_iff.mp H
        obtain ⟨⟨t578, t579, t580⟩, A810, H⟩ := H
        replace H : ((dec_Dec_Minus.f kj5 t562 t563 t564).bind fun bt581 => ((dec_Cmp.f kj5 t578 t579 t580 bt581.1 bt581.2.1 bt581.2.2).bind fun t584 => (if t584 = (wrap64 (-t570)) then ((dec_Add.f kj5 t558 t559 t560 t566 t567 t568).bind fun bt585 => ((dec_Add.f kj5 t562 t563 t564 t566 t567 t568).bind fun bt588 => ((dec_Cmp.f kj5 bt585.1 bt585.2.1 bt585.2.2 bt588.1 bt588.2.1 bt588.2.2).bind fun t591 => (florinlaw02_DecOrders.j1 kj5 t570 (t591 != t570) t558 t559 t560 t562 t563 t564 t566 t567 t568)))) else (florinlaw02_DecOrders.j1 kj5 t570 true t558 t559 t560 t562 t563 t564 t566 t567 t568)))) = some r := H
        have A81 := Aside0.mk A810
        clear A810
        replace H := Option.bind_eq_some_iff.mp H
        obtain ⟨⟨t581, t582, t583⟩, A820, H⟩ := H
        replace H : ((dec_Cmp.f kj5 t578 t579 t580 t581 t582 t583).bind fun t584 => (if t584 = (wrap64 (-t570)) then ((dec_Add.f kj5 t558 t559 t560 t566 t567 t568).bind fun bt585 => ((dec_Add.f kj5 t562 t563 t564 t566 t567 t568).bind fun bt588 => ((dec_Cmp.f kj5 bt585.1 bt585.2.1 bt585.2.2 bt588.1 bt588.2.1 bt588.2.2).bind fun t591 => (florinlaw02_DecOrders.j1 kj5 t570 (t591 != t570) t558 t559 t560 t562 t563 t564 t566 t567 t568)))) else (florinlaw02_DecOrders.j1 kj5 t570 true t558 t559 t560 t562 t563 t564 t566 t567 t568))) = some r := H
        have A82 := Aside0.mk A820
        clear A820
        replace H := Option.bind_eq_some_iff.mp H
        obtain ⟨t584, A830, H⟩ := H
        replace H : (if t584 = (wrap64 (-t570)) then ((dec_Add.f kj5 t558 t559 t560 t566 t567 t568).bind fun bt585 => ((dec_Add.f kj5 t562 t563 t564 t566 t567 t568).bind fun bt588 => ((dec_Cmp.f kj5 bt585.1 bt585.2.1 bt585.2.2 bt588.1 bt588.2.1 bt588.2.2).bind fun t591 => (florinlaw02_DecOrders.j1 kj5 t570 (t591 != t570) t558 t559 t560 t562 t563 t564 t566 t567 t568)))) else (florinlaw02_DecOrders.j1 kj5 t570 true t558 t559 t560 t562 t563 t564 t566 t567 t568)) = some r := H
        have A83 := Aside0.mk A830
        clear A830
        by_cases c84 : t584 = (wrap64 (-t570))
        ·rw [if_pos c84] at H
         have c84b0 : (t584 == (wrap64 (-t570))) = true := beq_iff_eq.mpr c84
         have c84b1 : (t584 != (wrap64 (-t570))) = false := bne_eq_false_iff_eq.mpr c84
         clear c84
         replace H := Option.bind_eq_some_iff.mp H
         obtain ⟨⟨t585, t586, t587⟩, A850, H⟩ := H
         replace H : ((dec_Add.f kj5 t562 t563 t564 t566 t567 t568).bind fun bt588 => ((dec_Cmp.f kj5 t585 t586 t587 bt588.1 bt588.2.1 bt588.2.2).bind fun t591 => (florinlaw02_DecOrders.j1 kj5 t570 (t591 != t570) t558 t559 t560 t562 t563 t564 t566 t567 t568))) = some r := H
         have A85 := Aside0.mk A850
         clear A850
         replace H := Option.bind_eq_some_iff.mp H
         obtain ⟨⟨t588, t589, t590⟩, A860, H⟩ := H
         replace H : ((dec_Cmp.f kj5 t585 t586 t587 t588 t589 t590).bind fun t591 => (florinlaw02_DecOrders.j1 kj5 t570 (t591 != t570) t558 t559 t560 t562 t563 t564 t566 t567 t568)) = some r := H
         have A86 := Aside0.mk A860
         clear A860
         replace H := Option.bind_eq_some_iff.mp H
         obtain ⟨t591, A870, H⟩ := H
         replace H : (florinlaw02_DecOrders.j1 kj5 t570 (t591 != t570) t558 t559 t560 t562 t563 t564 t566 t567 t568) = some r := H
         have A87 := Aside0.mk A870
         clear A870
         have H' := Aside0.mk H
         clear H
         try go_wp2
         have n0_ := Aside0.mk (blk_drew BK551.out)
         have n1_ := Aside0.mk (blk_drew BK552.out)
         have n2_ := Aside0.mk (blk_drew BK553.out)
         have n3_ := Aside0.mk (blk_drew BK561.out)
         have n4_ := Aside0.mk (blk_drew BK565.out)
         have n5_ := Aside0.mk (blk_drew BK569.out)
         have n6_ := Aside0.mk (below_drew1 HB.out)
         clear BK551
         clear BK552
         clear BK553
         clear BK561
         clear BK565
         clear BK569
         clear HB
         have BK551 := n0_
         have BK552 := n1_
         have BK553 := n2_
         have BK561 := n3_
         have BK565 := n4_
         have BK569 := n5_
         have HB := n6_
         clear n0_ n1_ n2_ n3_ n4_ n5_ n6_
         refine start_ (n := 37) (S := fun w' => w'.cell? ⟨gb565, 0, none⟩ = some (.bool t562) ∧ w'.cell? ⟨gb565, 1, none⟩ = some (.string t563) ∧ w'.cell? ⟨gb565, 2, none⟩ = some (.int .i64 t564) ∧ w'.cell? ⟨gb561, 0, none⟩ = some (.bool t558) ∧ w'.cell? ⟨gb561, 1, none⟩ = some (.string t559) ∧ w'.cell? ⟨gb561, 2, none⟩ = some (.int .i64 t560) ∧ w'.cell? ⟨gb569, 0, none⟩ = some (.bool t566) ∧ w'.cell? ⟨gb569, 1, none⟩ = some (.string t567) ∧ w'.cell? ⟨gb569, 2, none⟩ = some (.int .i64 t568)) (ds := []) #[false, false, false, false, false, false, false, false, false, false, false, false, false, false, false, false, false, false, false, false, false, false, false, false, false, false, false, false, false, false, false, false, false, false, false, false, false] (by kernel_rfl) rfl rfl ⟨(blk_cell BK565.out 0).trans rfl, (blk_cell BK565.out 1).trans rfl, (blk_cell BK565.out 2).trans rfl, (blk_cell BK561.out 0).trans rfl, (blk_cell BK561.out 1).trans rfl, (blk_cell BK561.out 2).trans rfl, (blk_cell BK569.out 0).trans rfl, (blk_cell BK569.out 1).trans rfl, (blk_cell BK569.out 2).trans rfl⟩ (fun hHeld => ?_); refine with_tabW florinlaw02_DecOrders.tab9 florinlaw02_DecOrders.bits9 (fun HT_ HW_ => ?_)
         generalize w71.drew = w88 at BK551 BK552 BK553 BK561 BK565 BK569 HB hHeld ⊢
         refine pu_ 0 36 (bm_ 37 1) HT_ ?_
         refine tk_ 1 37 (bm_ 37 3) HT_ HW_ hHeld rfl (by rintro w' ⟨s0, s1, s2, s3, s4, s5, s6, s7, s8⟩; go_simp; with_reducible rfl) ?_
         refine tk_ 2 38 (bm_ 37 7) HT_ HW_ hHeld rfl (by rintro w' ⟨s0, s1, s2, s3, s4, s5, s6, s7, s8⟩; go_simp; with_reducible rfl) ?_
         refine one_ (i := 3) (N := some 39) (bm_ 37 15) rfl rfl (one_of HT_.out (by kernel_rfl)) (by decide) (fun K hK => ?_)
         refine goes_ Tryd.func37 (by kernel_rfl) rfl #[.agg #[.bool t562, .string t563, .int .i64 t564], .agg #[.bool t558, .string t559, .int .i64 t560]] (by rfl) rfl rfl (by (try simp only [List.map_toArray, List.map_cons, List.map_nil]); first | done | rfl | (simp only [List.length_drop, List.length_take]; rfl) | (have z_ : ∀ s_ : ByteArray, s_.size ≤ 9223372036854775807 → -(s_.size : Int) = wrap64 (-(s_.size : Int)) := (fun s_ h_ => by unfold wrap64; omega); rw [← z_ _ (by omega)]; rfl)) ?_
         with_reducible refine (dec_Cmp.calls kj5 t562 t563 t564 t558 t559 t560 t571 _ A72.out).mono ?_
         rintro e w89 ⟨rfl, hb⟩
         refine ⟨_, rfl, ?_⟩
         have n0_ := bb_ BK551 hb
         have n1_ := bb_ BK552 hb
         have n2_ := bb_ BK553 hb
         have n3_ := bb_ BK561 hb
         have n4_ := bb_ BK565 hb
         have n5_ := bb_ BK569 hb
         have n6_ := Aside0.mk (below_step (bl_ HB).out hb)
         clear BK551
         clear BK552
         clear BK553
         clear BK561
         clear BK565
         clear BK569
         clear HB
         have BK551 := n0_
         have BK552 := n1_
         have BK553 := n2_
         have BK561 := n3_
         have BK565 := n4_
         have BK569 := n5_
         have HB := n6_
         clear n0_ n1_ n2_ n3_ n4_ n5_ n6_
         (try clear hb)
         (try clear hb2)
         (try clear hk)
         (try clear hi)
         refine hK.out _ _ ⟨(blk_cell BK565.out 0).trans rfl, (blk_cell BK565.out 1).trans rfl, (blk_cell BK565.out 2).trans rfl, (blk_cell BK561.out 0).trans rfl, (blk_cell BK561.out 1).trans rfl, (blk_cell BK561.out 2).trans rfl, (blk_cell BK569.out 0).trans rfl, (blk_cell BK569.out 1).trans rfl, (blk_cell BK569.out 2).trans rfl⟩ (fun hHeld => ?_)
         clear hK K
         refine norm_ (a' := ?_) ?_ ?_
         rotate_left
         ·show Act.put _ (some 39) _ = _
          simp only [Act.put, List.setIfInBounds_toArray, List.set_cons_zero, List.set_cons_succ, i64_w, i32_w]
          rfl
         refine pu_ 4 40 (bm_ 37 31) HT_ ?_
         refine pu_ 5 41 (bm_ 37 63) HT_ ?_
         refine pu_ 6 42 (bm_ 37 127) HT_ ?_
         refine pu_ 7 43 (bm_ 37 255) HT_ ?_
         refine pu_ 8 44 (bm_ 37 511) HT_ ?_
         refine tk_ 9 45 (bm_ 37 1023) HT_ HW_ hHeld rfl (by rintro w' ⟨s0, s1, s2, s3, s4, s5, s6, s7, s8⟩; go_simp; with_reducible rfl) ?_
         refine tk_ 11 47 (bm_ 37 3071) HT_ HW_ hHeld rfl (by rintro w' ⟨s0, s1, s2, s3, s4, s5, s6, s7, s8⟩; go_simp; with_reducible rfl) ?_
         refine one_ (i := 10) (N := some 46) (bm_ 37 4095) rfl rfl (one_of HT_.out (by kernel_rfl)) (by decide) (fun K hK => ?_)
         refine goes_ Tryd.func19 (by kernel_rfl) rfl #[.agg #[.bool t558, .string t559, .int .i64 t560]] (by rfl) rfl rfl (by (try simp only [List.map_toArray, List.map_cons, List.map_nil]); first | done | rfl | (simp only [List.length_drop, List.length_take]; rfl) | (have z_ : ∀ s_ : ByteArray, s_.size ≤ 9223372036854775807 → -(s_.size : Int) = wrap64 (-(s_.size : Int)) := (fun s_ h_ => by unfold wrap64; omega); rw [← z_ _ (by omega)]; rfl)) ?_
         with_reducible refine (dec_Dec_Norm.calls kj5 t558 t559 t560 t572 t573 t574 _ A74.out).mono ?_
         rintro e w90 ⟨rfl, hb⟩
         refine ⟨_, rfl, ?_⟩
         have n0_ := bb_ BK551 hb
         have n1_ := bb_ BK552 hb
         have n2_ := bb_ BK553 hb
         have n3_ := bb_ BK561 hb
         have n4_ := bb_ BK565 hb
         have n5_ := bb_ BK569 hb
         have n6_ := Aside0.mk (below_step (bl_ HB).out hb)
         clear BK551
         clear BK552
         clear BK553
         clear BK561
         clear BK565
         clear BK569
         clear HB
         have BK551 := n0_
         have BK552 := n1_
         have BK553 := n2_
         have BK561 := n3_
         have BK565 := n4_
         have BK569 := n5_
         have HB := n6_
         clear n0_ n1_ n2_ n3_ n4_ n5_ n6_
         (try clear hb)
         (try clear hb2)
         (try clear hk)
         (try clear hi)
         refine hK.out _ _ ⟨(blk_cell BK565.out 0).trans rfl, (blk_cell BK565.out 1).trans rfl, (blk_cell BK565.out 2).trans rfl, (blk_cell BK561.out 0).trans rfl, (blk_cell BK561.out 1).trans rfl, (blk_cell BK561.out 2).trans rfl, (blk_cell BK569.out 0).trans rfl, (blk_cell BK569.out 1).trans rfl, (blk_cell BK569.out 2).trans rfl⟩ (fun hHeld => ?_)
         clear hK K
         refine norm_ (a' := ?_) ?_ ?_
         rotate_left
         ·show Act.put _ (some 46) _ = _
          simp only [Act.put, List.setIfInBounds_toArray, List.set_cons_zero, List.set_cons_succ, i64_w, i32_w]
          rfl
         refine one_ (i := 12) (N := some 48) (bm_ 37 8191) rfl rfl (one_of HT_.out (by kernel_rfl)) (by decide) (fun K hK => ?_)
         refine goes_ Tryd.func19 (by kernel_rfl) rfl #[.agg #[.bool t562, .string t563, .int .i64 t564]] (by rfl) rfl rfl (by (try simp only [List.map_toArray, List.map_cons, List.map_nil]); first | done | rfl | (simp only [List.length_drop, List.length_take]; rfl) | (have z_ : ∀ s_ : ByteArray, s_.size ≤ 9223372036854775807 → -(s_.size : Int) = wrap64 (-(s_.size : Int)) := (fun s_ h_ => by unfold wrap64; omega); rw [← z_ _ (by omega)]; rfl)) ?_
         with_reducible refine (dec_Dec_Norm.calls kj5 t562 t563 t564 t575 t576 t577 _ A75.out).mono ?_
         rintro e w91 ⟨rfl, hb⟩
         refine ⟨_, rfl, ?_⟩
         have n0_ := bb_ BK551 hb
         have n1_ := bb_ BK552 hb
         have n2_ := bb_ BK553 hb
         have n3_ := bb_ BK561 hb
         have n4_ := bb_ BK565 hb
         have n5_ := bb_ BK569 hb
         have n6_ := Aside0.mk (below_step (bl_ HB).out hb)
         clear BK551
         clear BK552
         clear BK553
         clear BK561
         clear BK565
         clear BK569
         clear HB
         have BK551 := n0_
         have BK552 := n1_
         have BK553 := n2_
         have BK561 := n3_
         have BK565 := n4_
         have BK569 := n5_
         have HB := n6_
         clear n0_ n1_ n2_ n3_ n4_ n5_ n6_
         (try clear hb)
         (try clear hb2)
         (try clear hk)
         (try clear hi)
         refine hK.out _ _ ⟨(blk_cell BK565.out 0).trans rfl, (blk_cell BK565.out 1).trans rfl, (blk_cell BK565.out 2).trans rfl, (blk_cell BK561.out 0).trans rfl, (blk_cell BK561.out 1).trans rfl, (blk_cell BK561.out 2).trans rfl, (blk_cell BK569.out 0).trans rfl, (blk_cell BK569.out 1).trans rfl, (blk_cell BK569.out 2).trans rfl⟩ (fun hHeld => ?_)
         clear hK K
         refine norm_ (a' := ?_) ?_ ?_
         rotate_left
         ·show Act.put _ (some 48) _ = _
          simp only [Act.put, List.setIfInBounds_toArray, List.set_cons_zero, List.set_cons_succ, i64_w, i32_w]
          rfl
         refine pu_ 13 49 (bm_ 37 16383) HT_ ?_
         refine pu_ 14 50 (bm_ 37 32767) HT_ ?_
         refine pu_ 15 51 (bm_ 37 65535) HT_ ?_
         refine pu_ 16 52 (bm_ 37 131071) HT_ ?_
         refine pu_ 22 58 (bm_ 37 4325375) HT_ ?_
         refine pu_ 23 59 (bm_ 37 12713983) HT_ ?_
         refine tk_ 17 53 (bm_ 37 12845055) HT_ HW_ hHeld rfl (by rintro w' ⟨s0, s1, s2, s3, s4, s5, s6, s7, s8⟩; go_simp; with_reducible rfl) ?_
         refine tk_ 19 55 (bm_ 37 13369343) HT_ HW_ hHeld rfl (by rintro w' ⟨s0, s1, s2, s3, s4, s5, s6, s7, s8⟩; go_simp; with_reducible rfl) ?_
         refine one_ (i := 18) (N := some 54) (bm_ 37 13631487) rfl rfl (one_of HT_.out (by kernel_rfl)) (by decide) (fun K hK => ?_)
         refine goes_ Tryd.func34 (by kernel_rfl) rfl #[.agg #[.bool t558, .string t559, .int .i64 t560]] (by rfl) rfl rfl (by (try simp only [List.map_toArray, List.map_cons, List.map_nil]); first | done | rfl | (simp only [List.length_drop, List.length_take]; rfl) | (have z_ : ∀ s_ : ByteArray, s_.size ≤ 9223372036854775807 → -(s_.size : Int) = wrap64 (-(s_.size : Int)) := (fun s_ h_ => by unfold wrap64; omega); rw [← z_ _ (by omega)]; rfl)) ?_
         with_reducible refine (dec_Dec_Minus.calls kj5 t558 t559 t560 t578 t579 t580 _ A81.out).mono ?_
         rintro e w92 ⟨rfl, hb⟩
         refine ⟨_, rfl, ?_⟩
         have n0_ := bb_ BK551 hb
         have n1_ := bb_ BK552 hb
         have n2_ := bb_ BK553 hb
         have n3_ := bb_ BK561 hb
         have n4_ := bb_ BK565 hb
         have n5_ := bb_ BK569 hb
         have n6_ := Aside0.mk (below_step (bl_ HB).out hb)
         clear BK551
         clear BK552
         clear BK553
         clear BK561
         clear BK565
         clear BK569
         clear HB
         have BK551 := n0_
         have BK552 := n1_
         have BK553 := n2_
         have BK561 := n3_
         have BK565 := n4_
         have BK569 := n5_
         have HB := n6_
         clear n0_ n1_ n2_ n3_ n4_ n5_ n6_
         (try clear hb)
         (try clear hb2)
         (try clear hk)
         (try clear hi)
         refine hK.out _ _ ⟨(blk_cell BK565.out 0).trans rfl, (blk_cell BK565.out 1).trans rfl, (blk_cell BK565.out 2).trans rfl, (blk_cell BK561.out 0).trans rfl, (blk_cell BK561.out 1).trans rfl, (blk_cell BK561.out 2).trans rfl, (blk_cell BK569.out 0).trans rfl, (blk_cell BK569.out 1).trans rfl, (blk_cell BK569.out 2).trans rfl⟩ (fun hHeld => ?_)
         clear hK K
         refine norm_ (a' := ?_) ?_ ?_
         rotate_left
         ·show Act.put _ (some 54) _ = _
          simp only [Act.put, List.setIfInBounds_toArray, List.set_cons_zero, List.set_cons_succ, i64_w, i32_w]
          rfl
         refine one_ (i := 20) (N := some 56) (bm_ 37 14680063) rfl rfl (one_of HT_.out (by kernel_rfl)) (by decide) (fun K hK => ?_)
         refine goes_ Tryd.func34 (by kernel_rfl) rfl #[.agg #[.bool t562, .string t563, .int .i64 t564]] (by rfl) rfl rfl (by (try simp only [List.map_toArray, List.map_cons, List.map_nil]); first | done | rfl | (simp only [List.length_drop, List.length_take]; rfl) | (have z_ : ∀ s_ : ByteArray, s_.size ≤ 9223372036854775807 → -(s_.size : Int) = wrap64 (-(s_.size : Int)) := (fun s_ h_ => by unfold wrap64; omega); rw [← z_ _ (by omega)]; rfl)) ?_
         with_reducible refine (dec_Dec_Minus.calls kj5 t562 t563 t564 t581 t582 t583 _ A82.out).mono ?_
         rintro e w93 ⟨rfl, hb⟩
         refine ⟨_, rfl, ?_⟩
         have n0_ := bb_ BK551 hb
         have n1_ := bb_ BK552 hb
         have n2_ := bb_ BK553 hb
         have n3_ := bb_ BK561 hb
         have n4_ := bb_ BK565 hb
         have n5_ := bb_ BK569 hb
         have n6_ := Aside0.mk (below_step (bl_ HB).out hb)
         clear BK551
         clear BK552
         clear BK553
         clear BK561
         clear BK565
         clear BK569
         clear HB
         have BK551 := n0_
         have BK552 := n1_
         have BK553 := n2_
         have BK561 := n3_
         have BK565 := n4_
         have BK569 := n5_
         have HB := n6_
         clear n0_ n1_ n2_ n3_ n4_ n5_ n6_
         (try clear hb)
         (try clear hb2)
         (try clear hk)
         (try clear hi)
         refine hK.out _ _ ⟨(blk_cell BK565.out 0).trans rfl, (blk_cell BK565.out 1).trans rfl, (blk_cell BK565.out 2).trans rfl, (blk_cell BK561.out 0).trans rfl, (blk_cell BK561.out 1).trans rfl, (blk_cell BK561.out 2).trans rfl, (blk_cell BK569.out 0).trans rfl, (blk_cell BK569.out 1).trans rfl, (blk_cell BK569.out 2).trans rfl⟩ (fun hHeld => ?_)
         clear hK K
         refine norm_ (a' := ?_) ?_ ?_
         rotate_left
         ·show Act.put _ (some 56) _ = _
          simp only [Act.put, List.setIfInBounds_toArray, List.set_cons_zero, List.set_cons_succ, i64_w, i32_w]
          rfl
         refine one_ (i := 21) (N := some 57) (bm_ 37 16777215) rfl rfl (one_of HT_.out (by kernel_rfl)) (by decide) (fun K hK => ?_)
         refine goes_ Tryd.func37 (by kernel_rfl) rfl #[.agg #[.bool t578, .string t579, .int .i64 t580], .agg #[.bool t581, .string t582, .int .i64 t583]] (by rfl) rfl rfl (by (try simp only [List.map_toArray, List.map_cons, List.map_nil]); first | done | rfl | (simp only [List.length_drop, List.length_take]; rfl) | (have z_ : ∀ s_ : ByteArray, s_.size ≤ 9223372036854775807 → -(s_.size : Int) = wrap64 (-(s_.size : Int)) := (fun s_ h_ => by unfold wrap64; omega); rw [← z_ _ (by omega)]; rfl)) ?_
         with_reducible refine (dec_Cmp.calls kj5 t578 t579 t580 t581 t582 t583 t584 _ A83.out).mono ?_
         rintro e w94 ⟨rfl, hb⟩
         refine ⟨_, rfl, ?_⟩
         have n0_ := bb_ BK551 hb
         have n1_ := bb_ BK552 hb
         have n2_ := bb_ BK553 hb
         have n3_ := bb_ BK561 hb
         have n4_ := bb_ BK565 hb
         have n5_ := bb_ BK569 hb
         have n6_ := Aside0.mk (below_step (bl_ HB).out hb)
         clear BK551
         clear BK552
         clear BK553
         clear BK561
         clear BK565
         clear BK569
         clear HB
         have BK551 := n0_
         have BK552 := n1_
         have BK553 := n2_
         have BK561 := n3_
         have BK565 := n4_
         have BK569 := n5_
         have HB := n6_
         clear n0_ n1_ n2_ n3_ n4_ n5_ n6_
         (try clear hb)
         (try clear hb2)
         (try clear hk)
         (try clear hi)
         refine hK.out _ _ ⟨(blk_cell BK565.out 0).trans rfl, (blk_cell BK565.out 1).trans rfl, (blk_cell BK565.out 2).trans rfl, (blk_cell BK561.out 0).trans rfl, (blk_cell BK561.out 1).trans rfl, (blk_cell BK561.out 2).trans rfl, (blk_cell BK569.out 0).trans rfl, (blk_cell BK569.out 1).trans rfl, (blk_cell BK569.out 2).trans rfl⟩ (fun hHeld => ?_)
         clear hK K
         refine norm_ (a' := ?_) ?_ ?_
         rotate_left
         ·show Act.put _ (some 57) _ = _
          simp only [Act.put, List.setIfInBounds_toArray, List.set_cons_zero, List.set_cons_succ, i64_w, i32_w]
          rfl
         refine pu_ 24 60 (bm_ 37 33554431) HT_ ?_
         refine pu_ 25 61 (bm_ 37 67108863) HT_ ?_
         refine pu_ 26 62 (bm_ 37 134217727) HT_ ?_
         refine pu_ 34 70 (bm_ 37 17314086911) HT_ ?_
         refine tk_ 27 63 (bm_ 37 17448304639) HT_ HW_ hHeld rfl (by rintro w' ⟨s0, s1, s2, s3, s4, s5, s6, s7, s8⟩; go_simp; with_reducible rfl) ?_
         refine tk_ 28 64 (bm_ 37 17716740095) HT_ HW_ hHeld rfl (by rintro w' ⟨s0, s1, s2, s3, s4, s5, s6, s7, s8⟩; go_simp; with_reducible rfl) ?_
         refine tk_ 30 66 (bm_ 37 18790481919) HT_ HW_ hHeld rfl (by rintro w' ⟨s0, s1, s2, s3, s4, s5, s6, s7, s8⟩; go_simp; with_reducible rfl) ?_
         refine tk_ 31 67 (bm_ 37 20937965567) HT_ HW_ hHeld rfl (by rintro w' ⟨s0, s1, s2, s3, s4, s5, s6, s7, s8⟩; go_simp; with_reducible rfl) ?_
         refine one_ (i := 29) (N := some 65) (bm_ 37 21474836479) rfl rfl (one_of HT_.out (by kernel_rfl)) (by decide) (fun K hK => ?_)
         refine goes_ Tryd.func32 (by kernel_rfl) rfl #[.agg #[.bool t558, .string t559, .int .i64 t560], .agg #[.bool t566, .string t567, .int .i64 t568]] (by rfl) rfl rfl (by (try simp only [List.map_toArray, List.map_cons, List.map_nil]); first | done | rfl | (simp only [List.length_drop, List.length_take]; rfl) | (have z_ : ∀ s_ : ByteArray, s_.size ≤ 9223372036854775807 → -(s_.size : Int) = wrap64 (-(s_.size : Int)) := (fun s_ h_ => by unfold wrap64; omega); rw [← z_ _ (by omega)]; rfl)) ?_
         with_reducible refine (dec_Add.calls kj5 t558 t559 t560 t566 t567 t568 t585 t586 t587 _ A85.out).mono ?_
         rintro e w95 ⟨rfl, hb⟩
         refine ⟨_, rfl, ?_⟩
         have n0_ := bb_ BK551 hb
         have n1_ := bb_ BK552 hb
         have n2_ := bb_ BK553 hb
         have n3_ := bb_ BK561 hb
         have n4_ := bb_ BK565 hb
         have n5_ := bb_ BK569 hb
         have n6_ := Aside0.mk (below_step (bl_ HB).out hb)
         clear BK551
         clear BK552
         clear BK553
         clear BK561
         clear BK565
         clear BK569
         clear HB
         have BK551 := n0_
         have BK552 := n1_
         have BK553 := n2_
         have BK561 := n3_
         have BK565 := n4_
         have BK569 := n5_
         have HB := n6_
         clear n0_ n1_ n2_ n3_ n4_ n5_ n6_
         (try clear hb)
         (try clear hb2)
         (try clear hk)
         (try clear hi)
         refine hK.out _ _ ⟨(blk_cell BK565.out 0).trans rfl, (blk_cell BK565.out 1).trans rfl, (blk_cell BK565.out 2).trans rfl, (blk_cell BK561.out 0).trans rfl, (blk_cell BK561.out 1).trans rfl, (blk_cell BK561.out 2).trans rfl, (blk_cell BK569.out 0).trans rfl, (blk_cell BK569.out 1).trans rfl, (blk_cell BK569.out 2).trans rfl⟩ (fun hHeld => ?_)
         clear hK K
         refine norm_ (a' := ?_) ?_ ?_
         rotate_left
         ·show Act.put _ (some 65) _ = _
          simp only [Act.put, List.setIfInBounds_toArray, List.set_cons_zero, List.set_cons_succ, i64_w, i32_w]
          rfl
         refine one_ (i := 32) (N := some 68) (bm_ 37 25769803775) rfl rfl (one_of HT_.out (by kernel_rfl)) (by decide) (fun K hK => ?_)
         refine goes_ Tryd.func32 (by kernel_rfl) rfl #[.agg #[.bool t562, .string t563, .int .i64 t564], .agg #[.bool t566, .string t567, .int .i64 t568]] (by rfl) rfl rfl (by (try simp only [List.map_toArray, List.map_cons, List.map_nil]); first | done | rfl | (simp only [List.length_drop, List.length_take]; rfl) | (have z_ : ∀ s_ : ByteArray, s_.size ≤ 9223372036854775807 → -(s_.size : Int) = wrap64 (-(s_.size : Int)) := (fun s_ h_ => by unfold wrap64; omega); rw [← z_ _ (by omega)]; rfl)) ?_
         with_reducible refine (dec_Add.calls kj5 t562 t563 t564 t566 t567 t568 t588 t589 t590 _ A86.out).mono ?_
         rintro e w96 ⟨rfl, hb⟩
         refine ⟨_, rfl, ?_⟩
         have n0_ := bb_ BK551 hb
         have n1_ := bb_ BK552 hb
         have n2_ := bb_ BK553 hb
         have n3_ := bb_ BK561 hb
         have n4_ := bb_ BK565 hb
         have n5_ := bb_ BK569 hb
         have n6_ := Aside0.mk (below_step (bl_ HB).out hb)
         clear BK551
         clear BK552
         clear BK553
         clear BK561
         clear BK565
         clear BK569
         clear HB
         have BK551 := n0_
         have BK552 := n1_
         have BK553 := n2_
         have BK561 := n3_
         have BK565 := n4_
         have BK569 := n5_
         have HB := n6_
         clear n0_ n1_ n2_ n3_ n4_ n5_ n6_
         (try clear hb)
         (try clear hb2)
         (try clear hk)
         (try clear hi)
         refine hK.out _ _ ⟨(blk_cell BK565.out 0).trans rfl, (blk_cell BK565.out 1).trans rfl, (blk_cell BK565.out 2).trans rfl, (blk_cell BK561.out 0).trans rfl, (blk_cell BK561.out 1).trans rfl, (blk_cell BK561.out 2).trans rfl, (blk_cell BK569.out 0).trans rfl, (blk_cell BK569.out 1).trans rfl, (blk_cell BK569.out 2).trans rfl⟩ (fun hHeld => ?_)
         clear hK K
         refine norm_ (a' := ?_) ?_ ?_
         rotate_left
         ·show Act.put _ (some 68) _ = _
          simp only [Act.put, List.setIfInBounds_toArray, List.set_cons_zero, List.set_cons_succ, i64_w, i32_w]
          rfl
         refine one_ (i := 33) (N := some 69) (bm_ 37 34359738367) rfl rfl (one_of HT_.out (by kernel_rfl)) (by decide) (fun K hK => ?_)
         refine goes_ Tryd.func37 (by kernel_rfl) rfl #[.agg #[.bool t585, .string t586, .int .i64 t587], .agg #[.bool t588, .string t589, .int .i64 t590]] (by rfl) rfl rfl (by (try simp only [List.map_toArray, List.map_cons, List.map_nil]); first | done | rfl | (simp only [List.length_drop, List.length_take]; rfl) | (have z_ : ∀ s_ : ByteArray, s_.size ≤ 9223372036854775807 → -(s_.size : Int) = wrap64 (-(s_.size : Int)) := (fun s_ h_ => by unfold wrap64; omega); rw [← z_ _ (by omega)]; rfl)) ?_
         with_reducible refine (dec_Cmp.calls kj5 t585 t586 t587 t588 t589 t590 t591 _ A87.out).mono ?_
         rintro e w97 ⟨rfl, hb⟩
         refine ⟨_, rfl, ?_⟩
         have n0_ := bb_ BK551 hb
         have n1_ := bb_ BK552 hb
         have n2_ := bb_ BK553 hb
         have n3_ := bb_ BK561 hb
         have n4_ := bb_ BK565 hb
         have n5_ := bb_ BK569 hb
         have n6_ := Aside0.mk (below_step (bl_ HB).out hb)
         clear BK551
         clear BK552
         clear BK553
         clear BK561
         clear BK565
         clear BK569
         clear HB
         have BK551 := n0_
         have BK552 := n1_
         have BK553 := n2_
         have BK561 := n3_
         have BK565 := n4_
         have BK569 := n5_
         have HB := n6_
         clear n0_ n1_ n2_ n3_ n4_ n5_ n6_
         (try clear hb)
         (try clear hb2)
         (try clear hk)
         (try clear hi)
         refine hK.out _ _ ⟨(blk_cell BK565.out 0).trans rfl, (blk_cell BK565.out 1).trans rfl, (blk_cell BK565.out 2).trans rfl, (blk_cell BK561.out 0).trans rfl, (blk_cell BK561.out 1).trans rfl, (blk_cell BK561.out 2).trans rfl, (blk_cell BK569.out 0).trans rfl, (blk_cell BK569.out 1).trans rfl, (blk_cell BK569.out 2).trans rfl⟩ (fun hHeld => ?_)
         clear hK K
         refine norm_ (a' := ?_) ?_ ?_
         rotate_left
         ·show Act.put _ (some 69) _ = _
          simp only [Act.put, List.setIfInBounds_toArray, List.set_cons_zero, List.set_cons_succ, i64_w, i32_w]
          rfl
         refine pu_ 35 71 (bm_ 37 68719476735) HT_ ?_
         refine pu_ 36 72 (bm_ 37 137438953471) HT_ ?_
         refine done_ (done_of HT_.out (by kernel_rfl)) ?_
         try go_wp2
         go_meet
         case rel => exact ⟨_, ((t591 != t570)), eq_, H', ⟨by have := HJ5.out; first | omega | exact Nat.le_refl _⟩, (bk_ BK551), (bk_ BK552), (bk_ BK553), (bk_ BK561), (bk_ BK565), (bk_ BK569), (bl_ HB)⟩
        ·rw [if_neg c84] at H
         have c84b0 : (t584 == (wrap64 (-t570))) = false := beq_eq_false_iff_ne.mpr c84
         have c84b1 : (t584 != (wrap64 (-t570))) = true := bne_iff_ne.mpr c84
         have H' := Aside0.mk H
         clear H
         try go_wp2
         have n0_ := Aside0.mk (blk_drew BK551.out)
         have n1_ := Aside0.mk (blk_drew BK552.out)
         have n2_ := Aside0.mk (blk_drew BK553.out)
         have n3_ := Aside0.mk (blk_drew BK561.out)
         have n4_ := Aside0.mk (blk_drew BK565.out)
         have n5_ := Aside0.mk (blk_drew BK569.out)
         have n6_ := Aside0.mk (below_drew1 HB.out)
         clear BK551
         clear BK552
         clear BK553
         clear BK561
         clear BK565
         clear BK569
         clear HB
         have BK551 := n0_
         have BK552 := n1_
         have BK553 := n2_
         have BK561 := n3_
         have BK565 := n4_
         have BK569 := n5_
         have HB := n6_
         clear n0_ n1_ n2_ n3_ n4_ n5_ n6_
         refine start_ (n := 37) (S := fun w' => w'.cell? ⟨gb565, 0, none⟩ = some (.bool t562) ∧ w'.cell? ⟨gb565, 1, none⟩ = some (.string t563) ∧ w'.cell? ⟨gb565, 2, none⟩ = some (.int .i64 t564) ∧ w'.cell? ⟨gb561, 0, none⟩ = some (.bool t558) ∧ w'.cell? ⟨gb561, 1, none⟩ = some (.string t559) ∧ w'.cell? ⟨gb561, 2, none⟩ = some (.int .i64 t560)) (ds := []) #[false, false, false, false, false, false, false, false, false, false, false, false, false, false, false, false, false, false, false, false, false, false, false, false, false, false, false, false, false, false, false, false, false, false, false, false, false] (by kernel_rfl) rfl rfl ⟨(blk_cell BK565.out 0).trans rfl, (blk_cell BK565.out 1).trans rfl, (blk_cell BK565.out 2).trans rfl, (blk_cell BK561.out 0).trans rfl, (blk_cell BK561.out 1).trans rfl, (blk_cell BK561.out 2).trans rfl⟩ (fun hHeld => ?_); refine with_tabW florinlaw02_DecOrders.tab9 florinlaw02_DecOrders.bits9 (fun HT_ HW_ => ?_)
         generalize w71.drew = w98 at BK551 BK552 BK553 BK561 BK565 BK569 HB hHeld ⊢
         refine pu_ 0 36 (bm_ 37 1) HT_ ?_
         refine tk_ 1 37 (bm_ 37 3) HT_ HW_ hHeld rfl (by rintro w' ⟨s0, s1, s2, s3, s4, s5⟩; go_simp; with_reducible rfl) ?_
         refine tk_ 2 38 (bm_ 37 7) HT_ HW_ hHeld rfl (by rintro w' ⟨s0, s1, s2, s3, s4, s5⟩; go_simp; with_reducible rfl) ?_
         refine one_ (i := 3) (N := some 39) (bm_ 37 15) rfl rfl (one_of HT_.out (by kernel_rfl)) (by decide) (fun K hK => ?_)
         refine goes_ Tryd.func37 (by kernel_rfl) rfl #[.agg #[.bool t562, .string t563, .int .i64 t564], .agg #[.bool t558, .string t559, .int .i64 t560]] (by rfl) rfl rfl (by (try simp only [List.map_toArray, List.map_cons, List.map_nil]); first | done | rfl | (simp only [List.length_drop, List.length_take]; rfl) | (have z_ : ∀ s_ : ByteArray, s_.size ≤ 9223372036854775807 → -(s_.size : Int) = wrap64 (-(s_.size : Int)) := (fun s_ h_ => by unfold wrap64; omega); rw [← z_ _ (by omega)]; rfl)) ?_
         with_reducible refine (dec_Cmp.calls kj5 t562 t563 t564 t558 t559 t560 t571 _ A72.out).mono ?_
         rintro e w99 ⟨rfl, hb⟩
         refine ⟨_, rfl, ?_⟩
         have n0_ := bb_ BK551 hb
         have n1_ := bb_ BK552 hb
         have n2_ := bb_ BK553 hb
         have n3_ := bb_ BK561 hb
         have n4_ := bb_ BK565 hb
         have n5_ := bb_ BK569 hb
         have n6_ := Aside0.mk (below_step (bl_ HB).out hb)
         clear BK551
         clear BK552
         clear BK553
         clear BK561
         clear BK565
         clear BK569
         clear HB
         have BK551 := n0_
         have BK552 := n1_
         have BK553 := n2_
         have BK561 := n3_
         have BK565 := n4_
         have BK569 := n5_
         have HB := n6_
         clear n0_ n1_ n2_ n3_ n4_ n5_ n6_
         (try clear hb)
         (try clear hb2)
         (try clear hk)
         (try clear hi)
         refine hK.out _ _ ⟨(blk_cell BK565.out 0).trans rfl, (blk_cell BK565.out 1).trans rfl, (blk_cell BK565.out 2).trans rfl, (blk_cell BK561.out 0).trans rfl, (blk_cell BK561.out 1).trans rfl, (blk_cell BK561.out 2).trans rfl⟩ (fun hHeld => ?_)
         clear hK K
         refine norm_ (a' := ?_) ?_ ?_
         rotate_left
         ·show Act.put _ (some 39) _ = _
          simp only [Act.put, List.setIfInBounds_toArray, List.set_cons_zero, List.set_cons_succ, i64_w, i32_w]
          rfl
         refine pu_ 4 40 (bm_ 37 31) HT_ ?_
         refine pu_ 5 41 (bm_ 37 63) HT_ ?_
         refine pu_ 6 42 (bm_ 37 127) HT_ ?_
         refine pu_ 7 43 (bm_ 37 255) HT_ ?_
         refine pu_ 8 44 (bm_ 37 511) HT_ ?_
         refine tk_ 9 45 (bm_ 37 1023) HT_ HW_ hHeld rfl (by rintro w' ⟨s0, s1, s2, s3, s4, s5⟩; go_simp; with_reducible rfl) ?_
         refine tk_ 11 47 (bm_ 37 3071) HT_ HW_ hHeld rfl (by rintro w' ⟨s0, s1, s2, s3, s4, s5⟩; go_simp; with_reducible rfl) ?_
         refine one_ (i := 10) (N := some 46) (bm_ 37 4095) rfl rfl (one_of HT_.out (by kernel_rfl)) (by decide) (fun K hK => ?_)
         refine goes_ Tryd.func19 (by kernel_rfl) rfl #[.agg #[.bool t558, .string t559, .int .i64 t560]] (by rfl) rfl rfl (by (try simp only [List.map_toArray, List.map_cons, List.map_nil]); first | done | rfl | (simp only [List.length_drop, List.length_take]; rfl) | (have z_ : ∀ s_ : ByteArray, s_.size ≤ 9223372036854775807 → -(s_.size : Int) = wrap64 (-(s_.size : Int)) := (fun s_ h_ => by unfold wrap64; omega); rw [← z_ _ (by omega)]; rfl)) ?_
         with_reducible refine (dec_Dec_Norm.calls kj5 t558 t559 t560 t572 t573 t574 _ A74.out).mono ?_
         rintro e w100 ⟨rfl, hb⟩
         refine ⟨_, rfl, ?_⟩
         have n0_ := bb_ BK551 hb
         have n1_ := bb_ BK552 hb
         have n2_ := bb_ BK553 hb
         have n3_ := bb_ BK561 hb
         have n4_ := bb_ BK565 hb
         have n5_ := bb_ BK569 hb
         have n6_ := Aside0.mk (below_step (bl_ HB).out hb)
         clear BK551
         clear BK552
         clear BK553
         clear BK561
         clear BK565
         clear BK569
         clear HB
         have BK551 := n0_
         have BK552 := n1_
         have BK553 := n2_
         have BK561 := n3_
         have BK565 := n4_
         have BK569 := n5_
         have HB := n6_
         clear n0_ n1_ n2_ n3_ n4_ n5_ n6_
         (try clear hb)
         (try clear hb2)
         (try clear hk)
         (try clear hi)
         refine hK.out _ _ ⟨(blk_cell BK565.out 0).trans rfl, (blk_cell BK565.out 1).trans rfl, (blk_cell BK565.out 2).trans rfl, (blk_cell BK561.out 0).trans rfl, (blk_cell BK561.out 1).trans rfl, (blk_cell BK561.out 2).trans rfl⟩ (fun hHeld => ?_)
         clear hK K
         refine norm_ (a' := ?_) ?_ ?_
         rotate_left
         ·show Act.put _ (some 46) _ = _
          simp only [Act.put, List.setIfInBounds_toArray, List.set_cons_zero, List.set_cons_succ, i64_w, i32_w]
          rfl
         refine one_ (i := 12) (N := some 48) (bm_ 37 8191) rfl rfl (one_of HT_.out (by kernel_rfl)) (by decide) (fun K hK => ?_)
         refine goes_ Tryd.func19 (by kernel_rfl) rfl #[.agg #[.bool t562, .string t563, .int .i64 t564]] (by rfl) rfl rfl (by (try simp only [List.map_toArray, List.map_cons, List.map_nil]); first | done | rfl | (simp only [List.length_drop, List.length_take]; rfl) | (have z_ : ∀ s_ : ByteArray, s_.size ≤ 9223372036854775807 → -(s_.size : Int) = wrap64 (-(s_.size : Int)) := (fun s_ h_ => by unfold wrap64; omega); rw [← z_ _ (by omega)]; rfl)) ?_
         with_reducible refine (dec_Dec_Norm.calls kj5 t562 t563 t564 t575 t576 t577 _ A75.out).mono ?_
         rintro e w101 ⟨rfl, hb⟩
         refine ⟨_, rfl, ?_⟩
         have n0_ := bb_ BK551 hb
         have n1_ := bb_ BK552 hb
         have n2_ := bb_ BK553 hb
         have n3_ := bb_ BK561 hb
         have n4_ := bb_ BK565 hb
         have n5_ := bb_ BK569 hb
         have n6_ := Aside0.mk (below_step (bl_ HB).out hb)
         clear BK551
         clear BK552
         clear BK553
         clear BK561
         clear BK565
         clear BK569
         clear HB
         have BK551 := n0_
         have BK552 := n1_
         have BK553 := n2_
         have BK561 := n3_
         have BK565 := n4_
         have BK569 := n5_
         have HB := n6_
         clear n0_ n1_ n2_ n3_ n4_ n5_ n6_
         (try clear hb)
         (try clear hb2)
         (try clear hk)
         (try clear hi)
         refine hK.out _ _ ⟨(blk_cell BK565.out 0).trans rfl, (blk_cell BK565.out 1).trans rfl, (blk_cell BK565.out 2).trans rfl, (blk_cell BK561.out 0).trans rfl, (blk_cell BK561.out 1).trans rfl, (blk_cell BK561.out 2).trans rfl⟩ (fun hHeld => ?_)
         clear hK K
         refine norm_ (a' := ?_) ?_ ?_
         rotate_left
         ·show Act.put _ (some 48) _ = _
          simp only [Act.put, List.setIfInBounds_toArray, List.set_cons_zero, List.set_cons_succ, i64_w, i32_w]
          rfl
         refine pu_ 13 49 (bm_ 37 16383) HT_ ?_
         refine pu_ 14 50 (bm_ 37 32767) HT_ ?_
         refine pu_ 15 51 (bm_ 37 65535) HT_ ?_
         refine pu_ 16 52 (bm_ 37 131071) HT_ ?_
         refine pu_ 22 58 (bm_ 37 4325375) HT_ ?_
         refine pu_ 23 59 (bm_ 37 12713983) HT_ ?_
         refine tk_ 17 53 (bm_ 37 12845055) HT_ HW_ hHeld rfl (by rintro w' ⟨s0, s1, s2, s3, s4, s5⟩; go_simp; with_reducible rfl) ?_
         refine tk_ 19 55 (bm_ 37 13369343) HT_ HW_ hHeld rfl (by rintro w' ⟨s0, s1, s2, s3, s4, s5⟩; go_simp; with_reducible rfl) ?_
         refine one_ (i := 18) (N := some 54) (bm_ 37 13631487) rfl rfl (one_of HT_.out (by kernel_rfl)) (by decide) (fun K hK => ?_)
         refine goes_ Tryd.func34 (by kernel_rfl) rfl #[.agg #[.bool t558, .string t559, .int .i64 t560]] (by rfl) rfl rfl (by (try simp only [List.map_toArray, List.map_cons, List.map_nil]); first | done | rfl | (simp only [List.length_drop, List.length_take]; rfl) | (have z_ : ∀ s_ : ByteArray, s_.size ≤ 9223372036854775807 → -(s_.size : Int) = wrap64 (-(s_.size : Int)) := (fun s_ h_ => by unfold wrap64; omega); rw [← z_ _ (by omega)]; rfl)) ?_
         with_reducible refine (dec_Dec_Minus.calls kj5 t558 t559 t560 t578 t579 t580 _ A81.out).mono ?_
         rintro e w102 ⟨rfl, hb⟩
         refine ⟨_, rfl, ?_⟩
         have n0_ := bb_ BK551 hb
         have n1_ := bb_ BK552 hb
         have n2_ := bb_ BK553 hb
         have n3_ := bb_ BK561 hb
         have n4_ := bb_ BK565 hb
         have n5_ := bb_ BK569 hb
         have n6_ := Aside0.mk (below_step (bl_ HB).out hb)
         clear BK551
         clear BK552
         clear BK553
         clear BK561
         clear BK565
         clear BK569
         clear HB
         have BK551 := n0_
         have BK552 := n1_
         have BK553 := n2_
         have BK561 := n3_
         have BK565 := n4_
         have BK569 := n5_
         have HB := n6_
         clear n0_ n1_ n2_ n3_ n4_ n5_ n6_
         (try clear hb)
         (try clear hb2)
         (try clear hk)
         (try clear hi)
         refine hK.out _ _ ⟨(blk_cell BK565.out 0).trans rfl, (blk_cell BK565.out 1).trans rfl, (blk_cell BK565.out 2).trans rfl, (blk_cell BK561.out 0).trans rfl, (blk_cell BK561.out 1).trans rfl, (blk_cell BK561.out 2).trans rfl⟩ (fun hHeld => ?_)
         clear hK K
         refine norm_ (a' := ?_) ?_ ?_
         rotate_left
         ·show Act.put _ (some 54) _ = _
          simp only [Act.put, List.setIfInBounds_toArray, List.set_cons_zero, List.set_cons_succ, i64_w, i32_w]
          rfl
         refine one_ (i := 20) (N := some 56) (bm_ 37 14680063) rfl rfl (one_of HT_.out (by kernel_rfl)) (by decide) (fun K hK => ?_)
         refine goes_ Tryd.func34 (by kernel_rfl) rfl #[.agg #[.bool t562, .string t563, .int .i64 t564]] (by rfl) rfl rfl (by (try simp only [List.map_toArray, List.map_cons, List.map_nil]); first | done | rfl | (simp only [List.length_drop, List.length_take]; rfl) | (have z_ : ∀ s_ : ByteArray, s_.size ≤ 9223372036854775807 → -(s_.size : Int) = wrap64 (-(s_.size : Int)) := (fun s_ h_ => by unfold wrap64; omega); rw [← z_ _ (by omega)]; rfl)) ?_
         with_reducible refine (dec_Dec_Minus.calls kj5 t562 t563 t564 t581 t582 t583 _ A82.out).mono ?_
         rintro e w103 ⟨rfl, hb⟩
         refine ⟨_, rfl, ?_⟩
         have n0_ := bb_ BK551 hb
         have n1_ := bb_ BK552 hb
         have n2_ := bb_ BK553 hb
         have n3_ := bb_ BK561 hb
         have n4_ := bb_ BK565 hb
         have n5_ := bb_ BK569 hb
         have n6_ := Aside0.mk (below_step (bl_ HB).out hb)
         clear BK551
         clear BK552
         clear BK553
         clear BK561
         clear BK565
         clear BK569
         clear HB
         have BK551 := n0_
         have BK552 := n1_
         have BK553 := n2_
         have BK561 := n3_
         have BK565 := n4_
         have BK569 := n5_
         have HB := n6_
         clear n0_ n1_ n2_ n3_ n4_ n5_ n6_
         (try clear hb)
         (try clear hb2)
         (try clear hk)
         (try clear hi)
         refine hK.out _ _ ⟨(blk_cell BK565.out 0).trans rfl, (blk_cell BK565.out 1).trans rfl, (blk_cell BK565.out 2).trans rfl, (blk_cell BK561.out 0).trans rfl, (blk_cell BK561.out 1).trans rfl, (blk_cell BK561.out 2).trans rfl⟩ (fun hHeld => ?_)
         clear hK K
         refine norm_ (a' := ?_) ?_ ?_
         rotate_left
         ·show Act.put _ (some 56) _ = _
          simp only [Act.put, List.setIfInBounds_toArray, List.set_cons_zero, List.set_cons_succ, i64_w, i32_w]
          rfl
         refine one_ (i := 21) (N := some 57) (bm_ 37 16777215) rfl rfl (one_of HT_.out (by kernel_rfl)) (by decide) (fun K hK => ?_)
         refine goes_ Tryd.func37 (by kernel_rfl) rfl #[.agg #[.bool t578, .string t579, .int .i64 t580], .agg #[.bool t581, .string t582, .int .i64 t583]] (by rfl) rfl rfl (by (try simp only [List.map_toArray, List.map_cons, List.map_nil]); first | done | rfl | (simp only [List.length_drop, List.length_take]; rfl) | (have z_ : ∀ s_ : ByteArray, s_.size ≤ 9223372036854775807 → -(s_.size : Int) = wrap64 (-(s_.size : Int)) := (fun s_ h_ => by unfold wrap64; omega); rw [← z_ _ (by omega)]; rfl)) ?_
         with_reducible refine (dec_Cmp.calls kj5 t578 t579 t580 t581 t582 t583 t584 _ A83.out).mono ?_
         rintro e w104 ⟨rfl, hb⟩
         refine ⟨_, rfl, ?_⟩
         have n0_ := bb_ BK551 hb
         have n1_ := bb_ BK552 hb
         have n2_ := bb_ BK553 hb
         have n3_ := bb_ BK561 hb
         have n4_ := bb_ BK565 hb
         have n5_ := bb_ BK569 hb
         have n6_ := Aside0.mk (below_step (bl_ HB).out hb)
         clear BK551
         clear BK552
         clear BK553
         clear BK561
         clear BK565
         clear BK569
         clear HB
         have BK551 := n0_
         have BK552 := n1_
         have BK553 := n2_
         have BK561 := n3_
         have BK565 := n4_
         have BK569 := n5_
         have HB := n6_
         clear n0_ n1_ n2_ n3_ n4_ n5_ n6_
         (try clear hb)
         (try clear hb2)
         (try clear hk)
         (try clear hi)
         refine hK.out _ _ ⟨(blk_cell BK565.out 0).trans rfl, (blk_cell BK565.out 1).trans rfl, (blk_cell BK565.out 2).trans rfl, (blk_cell BK561.out 0).trans rfl, (blk_cell BK561.out 1).trans rfl, (blk_cell BK561.out 2).trans rfl⟩ (fun hHeld => ?_)
         clear hK K
         refine norm_ (a' := ?_) ?_ ?_
         rotate_left
         ·show Act.put _ (some 57) _ = _
          simp only [Act.put, List.setIfInBounds_toArray, List.set_cons_zero, List.set_cons_succ, i64_w, i32_w]
          rfl
         refine pu_ 24 60 (bm_ 37 33554431) HT_ ?_
         refine pu_ 25 61 (bm_ 37 67108863) HT_ ?_
         refine pu_ 26 62 (bm_ 37 134217727) HT_ ?_
         refine pn_ 27 63 (bm_ 37 268435455) HT_ ?_
         refine pn_ 28 64 (bm_ 37 536870911) HT_ ?_
         refine pn_ 29 65 (bm_ 37 1073741823) HT_ ?_
         refine pn_ 30 66 (bm_ 37 2147483647) HT_ ?_
         refine pn_ 31 67 (bm_ 37 4294967295) HT_ ?_
         refine pn_ 32 68 (bm_ 37 8589934591) HT_ ?_
         refine pn_ 33 69 (bm_ 37 17179869183) HT_ ?_
         refine pn_ 34 70 (bm_ 37 34359738367) HT_ ?_
         refine pn_ 35 71 (bm_ 37 68719476735) HT_ ?_
         refine pu_ 36 72 (bm_ 37 137438953471) HT_ ?_
         refine done_ (done_of HT_.out (by kernel_rfl)) ?_
         try go_wp2
         go_meet
         case rel => exact ⟨_, (true), eq_, H', ⟨by have := HJ5.out; first | omega | exact Nat.le_refl _⟩, (bk_ BK551), (bk_ BK552), (bk_ BK553), (bk_ BK561), (bk_ BK565), (bk_ BK569), (bl_ HB)⟩
      ·rw [if_neg c73] at H
       have c73b0 : (t570 == (wrap64 (-t571))) = false := beq_eq_false_iff_ne.mpr c73
       have c73b1 : (t570 != (wrap64 (-t571))) = true := bne_iff_ne.mpr c73
       (first | rw [c73b0] | (simp only [i64_w, i32_w]; rw [c73b0]) | skip)
       have H' := Aside0.mk H
       clear H
       try go_wp2
       have n0_ := Aside0.mk (blk_drew BK551.out)
       have n1_ := Aside0.mk (blk_drew BK552.out)
       have n2_ := Aside0.mk (blk_drew BK553.out)
       have n3_ := Aside0.mk (blk_drew BK561.out)
       have n4_ := Aside0.mk (blk_drew BK565.out)
       have n5_ := Aside0.mk (blk_drew BK569.out)
       have n6_ := Aside0.mk (below_drew1 HB.out)
       clear BK551
       clear BK552
       clear BK553
       clear BK561
       clear BK565
       clear BK569
       clear HB
       have BK551 := n0_
       have BK552 := n1_
       have BK553 := n2_
       have BK561 := n3_
       have BK565 := n4_
       have BK569 := n5_
       have HB := n6_
       clear n0_ n1_ n2_ n3_ n4_ n5_ n6_
       refine start_ (n := 37) (S := fun w' => w'.cell? ⟨gb565, 0, none⟩ = some (.bool t562) ∧ w'.cell? ⟨gb565, 1, none⟩ = some (.string t563) ∧ w'.cell? ⟨gb565, 2, none⟩ = some (.int .i64 t564) ∧ w'.cell? ⟨gb561, 0, none⟩ = some (.bool t558) ∧ w'.cell? ⟨gb561, 1, none⟩ = some (.string t559) ∧ w'.cell? ⟨gb561, 2, none⟩ = some (.int .i64 t560)) (ds := []) #[false, false, false, false, false, false, false, false, false, false, false, false, false, false, false, false, false, false, false, false, false, false, false, false, false, false, false, false, false, false, false, false, false, false, false, false, false] (by kernel_rfl) rfl rfl ⟨(blk_cell BK565.out 0).trans rfl, (blk_cell BK565.out 1).trans rfl, (blk_cell BK565.out 2).trans rfl, (blk_cell BK561.out 0).trans rfl, (blk_cell BK561.out 1).trans rfl, (blk_cell BK561.out 2).trans rfl⟩ (fun hHeld => ?_); refine with_tabW florinlaw02_DecOrders.tab9 florinlaw02_DecOrders.bits9 (fun HT_ HW_ => ?_)
       generalize w71.drew = w105 at BK551 BK552 BK553 BK561 BK565 BK569 HB hHeld ⊢
       refine pu_ 0 36 (bm_ 37 1) HT_ ?_
       refine tk_ 1 37 (bm_ 37 3) HT_ HW_ hHeld rfl (by rintro w' ⟨s0, s1, s2, s3, s4, s5⟩; go_simp; with_reducible rfl) ?_
       refine tk_ 2 38 (bm_ 37 7) HT_ HW_ hHeld rfl (by rintro w' ⟨s0, s1, s2, s3, s4, s5⟩; go_simp; with_reducible rfl) ?_
       refine one_ (i := 3) (N := some 39) (bm_ 37 15) rfl rfl (one_of HT_.out (by kernel_rfl)) (by decide) (fun K hK => ?_)
       refine goes_ Tryd.func37 (by kernel_rfl) rfl #[.agg #[.bool t562, .string t563, .int .i64 t564], .agg #[.bool t558, .string t559, .int .i64 t560]] (by rfl) rfl rfl (by (try simp only [List.map_toArray, List.map_cons, List.map_nil]); first | done | rfl | (simp only [List.length_drop, List.length_take]; rfl) | (have z_ : ∀ s_ : ByteArray, s_.size ≤ 9223372036854775807 → -(s_.size : Int) = wrap64 (-(s_.size : Int)) := (fun s_ h_ => by unfold wrap64; omega); rw [← z_ _ (by omega)]; rfl)) ?_
       with_reducible refine (dec_Cmp.calls kj5 t562 t563 t564 t558 t559 t560 t571 _ A72.out).mono ?_
       rintro e w106 ⟨rfl, hb⟩
       refine ⟨_, rfl, ?_⟩
       have n0_ := bb_ BK551 hb
       have n1_ := bb_ BK552 hb
       have n2_ := bb_ BK553 hb
       have n3_ := bb_ BK561 hb
       have n4_ := bb_ BK565 hb
       have n5_ := bb_ BK569 hb
       have n6_ := Aside0.mk (below_step (bl_ HB).out hb)
       clear BK551
       clear BK552
       clear BK553
       clear BK561
       clear BK565
       clear BK569
       clear HB
       have BK551 := n0_
       have BK552 := n1_
       have BK553 := n2_
       have BK561 := n3_
       have BK565 := n4_
       have BK569 := n5_
       have HB := n6_
       clear n0_ n1_ n2_ n3_ n4_ n5_ n6_
       (try clear hb)
       (try clear hb2)
       (try clear hk)
       (try clear hi)
       refine hK.out _ _ ⟨(blk_cell BK565.out 0).trans rfl, (blk_cell BK565.out 1).trans rfl, (blk_cell BK565.out 2).trans rfl, (blk_cell BK561.out 0).trans rfl, (blk_cell BK561.out 1).trans rfl, (blk_cell BK561.out 2).trans rfl⟩ (fun hHeld => ?_)
       clear hK K
       refine norm_ (a' := ?_) ?_ ?_
       rotate_left
       ·show Act.put _ (some 39) _ = _
        simp only [Act.put, List.setIfInBounds_toArray, List.set_cons_zero, List.set_cons_succ, i64_w, i32_w]
        rfl
       refine pu_ 4 40 (bm_ 37 31) HT_ ?_
       refine pu_ 5 41 (bm_ 37 63) HT_ ?_
       refine pu_ 6 42 (bm_ 37 127) HT_ ?_
       refine pn_ 7 43 (bm_ 37 255) HT_ ?_
       refine pn_ 8 44 (bm_ 37 511) HT_ ?_
       refine pn_ 9 45 (bm_ 37 1023) HT_ ?_
       refine pn_ 10 46 (bm_ 37 2047) HT_ ?_
       refine pn_ 11 47 (bm_ 37 4095) HT_ ?_
       refine pn_ 12 48 (bm_ 37 8191) HT_ ?_
       refine pn_ 13 49 (bm_ 37 16383) HT_ ?_
       refine pn_ 14 50 (bm_ 37 32767) HT_ ?_
       refine pu_ 15 51 (bm_ 37 65535) HT_ ?_
       refine pu_ 16 52 (bm_ 37 131071) HT_ ?_
       refine pn_ 17 53 (bm_ 37 262143) HT_ ?_
       refine pn_ 18 54 (bm_ 37 524287) HT_ ?_
       refine pn_ 19 55 (bm_ 37 1048575) HT_ ?_
       refine pn_ 20 56 (bm_ 37 2097151) HT_ ?_
       refine pn_ 21 57 (bm_ 37 4194303) HT_ ?_
       refine pn_ 22 58 (bm_ 37 8388607) HT_ ?_
       refine pn_ 23 59 (bm_ 37 16777215) HT_ ?_
       refine pn_ 24 60 (bm_ 37 33554431) HT_ ?_
       refine pu_ 25 61 (bm_ 37 67108863) HT_ ?_
       refine pu_ 26 62 (bm_ 37 134217727) HT_ ?_
       refine pn_ 27 63 (bm_ 37 268435455) HT_ ?_
       refine pn_ 28 64 (bm_ 37 536870911) HT_ ?_
       refine pn_ 29 65 (bm_ 37 1073741823) HT_ ?_
       refine pn_ 30 66 (bm_ 37 2147483647) HT_ ?_
       refine pn_ 31 67 (bm_ 37 4294967295) HT_ ?_
       refine pn_ 32 68 (bm_ 37 8589934591) HT_ ?_
       refine pn_ 33 69 (bm_ 37 17179869183) HT_ ?_
       refine pn_ 34 70 (bm_ 37 34359738367) HT_ ?_
       refine pn_ 35 71 (bm_ 37 68719476735) HT_ ?_
       refine pu_ 36 72 (bm_ 37 137438953471) HT_ ?_
       refine done_ (done_of HT_.out (by kernel_rfl)) ?_
       try go_wp2
       go_meet
       case rel => exact ⟨_, (true), eq_, H', ⟨by have := HJ5.out; first | omega | exact Nat.le_refl _⟩, (bk_ BK551), (bk_ BK552), (bk_ BK553), (bk_ BK561), (bk_ BK565), (bk_ BK569), (bl_ HB)⟩
     case rest =>
      clear HC41
      try clear c1
      try clear c2
      try clear p2
      try clear c3
      try clear p6
      try clear c7
      try clear c19
      try clear c34
      try clear c37
      try clear p64
      try clear c73
      try clear c73b0
      try clear c73b1
      obtain ⟨kq, x72_40, rfl, HA, HJ40, BK551, BK552, BK553, BK561, BK565, BK569, HB⟩ := hcut
      cases kq with
      | zero => exact absurd HA.out (by simp [florinlaw02_DecOrders.j1])
      | succ kj40 =>
       have H := HA.out
       clear HA
       simp only [florinlaw02_DecOrders.j1] at H
       by_cases c107 : x72_40 = true
       ·subst c107
        have H1 : (some false) = some r := by rw [if_pos rfl] at H; exact H
        clear H
        have H := H1
        clear H1
        obtain rfl := Option.some.inj H
        go_wp2
        go_ret
        exact ⟨by first | rfl | (simp [errW_none, errW_some] <;> rfl) | (simp [*, errW_none, errW_some] <;> first | rfl | exact given_isEmpty _ | exact (given_isEmpty _).symm), by repeat (first | (with_reducible first | exact HB.out | apply below_alloc | apply pw_below_drewN | apply below_drew1 | refine below_set ?_ GE551.out | refine below_set ?_ GE552.out | refine below_set ?_ GE553.out | refine below_set ?_ GE561.out | refine below_set ?_ GE565.out | refine below_set ?_ GE569.out) | exact HB.out)⟩
       ·replace c107 := Bool.eq_false_iff.mpr c107
        subst c107
        have H1 : (if t570 ≤ 0 then ((dec_Cmp.f kj40 t562 t563 t564 t566 t567 t568).bind fun t592 => (if t592 ≤ 0 then ((dec_Cmp.f kj40 t558 t559 t560 t566 t567 t568).bind fun t593 => (florinlaw02_DecOrders.j2 kj40 (decide (t593 > 0)) t558 t559 t560 t562 t563 t564)) else (florinlaw02_DecOrders.j2 kj40 false t558 t559 t560 t562 t563 t564))) else (florinlaw02_DecOrders.j2 kj40 false t558 t559 t560 t562 t563 t564)) = some r := by rw [if_neg (show ¬ (false = true) by decide)] at H; exact H
        clear H
        have H := H1
        clear H1
        have HC108 := Aside0.mk H
        clear H
        go_upto_region 11 with (fail)
        go_cut [86] (fun v86 wc => ∃ (kq : Nat) (x86_107 : Bool), v86 = .bool x86_107 ∧ Aside0 (florinlaw02_DecOrders.j2 kq x86_107 t558 t559 t560 t562 t563 t564 = some r) ∧ Aside0 (kq ≤ kj40) ∧ Aside0 (wc.heap[gb551]? = some (.cells #[.bool a0_0, (.slice A0_1 l0_1.length c0_1), .int .i64 a0_2] 33 (0, 0))) ∧ Aside0 (wc.heap[gb552]? = some (.cells #[.bool a1_0, (.slice A1_1 l1_1.length c1_1), .int .i64 a1_2] 33 (0, 0))) ∧ Aside0 (wc.heap[gb553]? = some (.cells #[.bool a2_0, (.slice A2_1 l2_1.length c2_1), .int .i64 a2_2] 33 (0, 0))) ∧ Aside0 (wc.heap[gb561]? = some (.cells #[.bool t558, .string t559, .int .i64 t560] 24 (0, 0))) ∧ Aside0 (wc.heap[gb565]? = some (.cells #[.bool t562, .string t563, .int .i64 t564] 24 (0, 0))) ∧ Aside0 (wc.heap[gb569]? = some (.cells #[.bool t566, .string t567, .int .i64 t568] 24 (0, 0))) ∧ Aside0 (Below w.heap.size w wc))
        case first =>
         have H := HC108.out
         clear HC108
         by_cases c109 : t570 ≤ 0
         ·rw [if_pos c109] at H
          have c109b0 : decide (t570 ≤ 0) = true := decide_eq_true c109
          clear c109
          (first | rw [c109b0] | (simp only [i64_w, i32_w]; rw [c109b0]) | skip)
          replace H := Option.bind_eq_some_iff.mp H
          obtain ⟨t592, A1100, H⟩ := H
          replace H : (if t592 ≤ 0 then ((dec_Cmp.f kj40 t558 t559 t560 t566 t567 t568).bind fun t593 => (florinlaw02_DecOrders.j2 kj40 (decide (t593 > 0)) t558 t559 t560 t562 t563 t564)) else (florinlaw02_DecOrders.j2 kj40 false t558 t559 t560 t562 t563 t564)) = some r := H
          have A110 := Aside0.mk A1100
          clear A1100
          by_cases c111 : t592 ≤ 0
          ·rw [if_pos c111] at H
           have c111b0 : decide (t592 ≤ 0) = true := decide_eq_true c111
           clear c111
           replace H := Option.bind_eq_some_iff.mp H
           obtain ⟨t593, A1120, H⟩ := H
           replace H : (florinlaw02_DecOrders.j2 kj40 (decide (t593 > 0)) t558 t559 t560 t562 t563 t564) = some r := H
           have A112 := Aside0.mk A1120
           clear A1120
           have H' := Aside0.mk H
           clear H
           have hnb113 := NB565_551.out
           have hnc113 := NB551_565.out
           have hnb114 := NB565_552.out
           have hnc114 := NB552_565.out
           have hnb115 := NB565_553.out
           have hnc115 := NB553_565.out
           have hnb116 := NB565_561.out
           have hnc116 := NB561_565.out
           have hnb117 := NB565_569.out
           have hnc117 := NB569_565.out
           have hcz118_0 : wc.cell? ⟨gb565, 0, none⟩ = some (.bool t562) := (blk_cell BK565.out 0).trans rfl
           have hcz118_1 : wc.cell? ⟨gb565, 1, none⟩ = some (.string t563) := (blk_cell BK565.out 1).trans rfl
           have hcz118_2 : wc.cell? ⟨gb565, 2, none⟩ = some (.int .i64 t564) := (blk_cell BK565.out 2).trans rfl
           have hfz118_0 := blk_frozen BK565.out 0
           have hfz118_1 := blk_frozen BK565.out 1
           have hfz118_2 := blk_frozen BK565.out 2
           have hnb119 := NB569_551.out
           have hnc119 := NB551_569.out
           have hnb120 := NB569_552.out
           have hnc120 := NB552_569.out
           have hnb121 := NB569_553.out
           have hnc121 := NB553_569.out
           have hnb122 := NB569_561.out
           have hnc122 := NB561_569.out
           have hcz123_0 : wc.cell? ⟨gb569, 0, none⟩ = some (.bool t566) := (blk_cell BK569.out 0).trans rfl
           have hcz123_1 : wc.cell? ⟨gb569, 1, none⟩ = some (.string t567) := (blk_cell BK569.out 1).trans rfl
           have hcz123_2 : wc.cell? ⟨gb569, 2, none⟩ = some (.int .i64 t568) := (blk_cell BK569.out 2).trans rfl
           have hfz123_0 := blk_frozen BK569.out 0
           have hfz123_1 := blk_frozen BK569.out 1
           have hfz123_2 := blk_frozen BK569.out 2
           go_wp2_with (first | (go_at_call 37; (with_reducible refine (dec_Cmp.calls kj40 t562 t563 t564 t566 t567 t568 t592 _ A110.out).mono ?_); rintro e w124 ⟨rfl, hb⟩; have n0_ := bb_ BK551 hb; have n1_ := bb_ BK552 hb; have n2_ := bb_ BK553 hb; have n3_ := bb_ BK561 hb; have n4_ := bb_ BK565 hb; have n5_ := bb_ BK569 hb; have n6_ := Aside0.mk (below_step (bl_ HB).out hb); clear BK551; clear BK552; clear BK553; clear BK561; clear BK565; clear BK569; clear HB; have BK551 := n0_; have BK552 := n1_; have BK553 := n2_; have BK561 := n3_; have BK565 := n4_; have BK569 := n5_; have HB := n6_; clear n0_ n1_ n2_ n3_ n4_ n5_ n6_; (try clear hb); (try clear hb2); (try clear hk); (try clear hi); have hnb125 := NB561_551.out; have hnc125 := NB551_561.out; have hnb126 := NB561_552.out; have hnc126 := NB552_561.out; have hnb127 := NB561_553.out; have hnc127 := NB553_561.out; have hcz128_0 : w124.cell? ⟨gb561, 0, none⟩ = some (.bool t558) := (blk_cell BK561.out 0).trans rfl; have hcz128_1 : w124.cell? ⟨gb561, 1, none⟩ = some (.string t559) := (blk_cell BK561.out 1).trans rfl; have hcz128_2 : w124.cell? ⟨gb561, 2, none⟩ = some (.int .i64 t560) := (blk_cell BK561.out 2).trans rfl; have hfz128_0 := blk_frozen BK561.out 0; have hfz128_1 := blk_frozen BK561.out 1; have hfz128_2 := blk_frozen BK561.out 2; have hcz129_0 : w124.cell? ⟨gb569, 0, none⟩ = some (.bool t566) := (blk_cell BK569.out 0).trans rfl; have hcz129_1 : w124.cell? ⟨gb569, 1, none⟩ = some (.string t567) := (blk_cell BK569.out 1).trans rfl; have hcz129_2 : w124.cell? ⟨gb569, 2, none⟩ = some (.int .i64 t568) := (blk_cell BK569.out 2).trans rfl; have hfz129_0 := blk_frozen BK569.out 0; have hfz129_1 := blk_frozen BK569.out 1; have hfz129_2 := blk_frozen BK569.out 2) | (go_at_call 37; (with_reducible refine (dec_Cmp.calls kj40 t558 t559 t560 t566 t567 t568 t593 _ A112.out).mono ?_); rintro e w130 ⟨rfl, hb⟩; have n0_ := bb_ BK551 hb; have n1_ := bb_ BK552 hb; have n2_ := bb_ BK553 hb; have n3_ := bb_ BK561 hb; have n4_ := bb_ BK565 hb; have n5_ := bb_ BK569 hb; have n6_ := Aside0.mk (below_step (bl_ HB).out hb); clear BK551; clear BK552; clear BK553; clear BK561; clear BK565; clear BK569; clear HB; have BK551 := n0_; have BK552 := n1_; have BK553 := n2_; have BK561 := n3_; have BK565 := n4_; have BK569 := n5_; have HB := n6_; clear n0_ n1_ n2_ n3_ n4_ n5_ n6_; (try clear hb); (try clear hb2); (try clear hk); (try clear hi)))
           go_meet
           case rel => exact ⟨_, (decide (t593 > 0)), eq_, H', ⟨by have := HJ5.out; have := HJ40.out; first | omega | exact Nat.le_refl _⟩, (bk_ BK551), (bk_ BK552), (bk_ BK553), (bk_ BK561), (bk_ BK565), (bk_ BK569), (bl_ HB)⟩
          ·rw [if_neg c111] at H
           have c111b0 : decide (t592 ≤ 0) = false := decide_eq_false c111
           clear c111
           have H' := Aside0.mk H
           clear H
           have hnb131 := NB565_551.out
           have hnc131 := NB551_565.out
           have hnb132 := NB565_552.out
           have hnc132 := NB552_565.out
           have hnb133 := NB565_553.out
           have hnc133 := NB553_565.out
           have hnb134 := NB565_561.out
           have hnc134 := NB561_565.out
           have hnb135 := NB565_569.out
           have hnc135 := NB569_565.out
           have hcz136_0 : wc.cell? ⟨gb565, 0, none⟩ = some (.bool t562) := (blk_cell BK565.out 0).trans rfl
           have hcz136_1 : wc.cell? ⟨gb565, 1, none⟩ = some (.string t563) := (blk_cell BK565.out 1).trans rfl
           have hcz136_2 : wc.cell? ⟨gb565, 2, none⟩ = some (.int .i64 t564) := (blk_cell BK565.out 2).trans rfl
           have hfz136_0 := blk_frozen BK565.out 0
           have hfz136_1 := blk_frozen BK565.out 1
           have hfz136_2 := blk_frozen BK565.out 2
           have hnb137 := NB569_551.out
           have hnc137 := NB551_569.out
           have hnb138 := NB569_552.out
           have hnc138 := NB552_569.out
           have hnb139 := NB569_553.out
           have hnc139 := NB553_569.out
           have hnb140 := NB569_561.out
           have hnc140 := NB561_569.out
           have hcz141_0 : wc.cell? ⟨gb569, 0, none⟩ = some (.bool t566) := (blk_cell BK569.out 0).trans rfl
           have hcz141_1 : wc.cell? ⟨gb569, 1, none⟩ = some (.string t567) := (blk_cell BK569.out 1).trans rfl
           have hcz141_2 : wc.cell? ⟨gb569, 2, none⟩ = some (.int .i64 t568) := (blk_cell BK569.out 2).trans rfl
           have hfz141_0 := blk_frozen BK569.out 0
           have hfz141_1 := blk_frozen BK569.out 1
           have hfz141_2 := blk_frozen BK569.out 2
           go_wp2_with (first | (go_at_call 37; (with_reducible refine (dec_Cmp.calls kj40 t562 t563 t564 t566 t567 t568 t592 _ A110.out).mono ?_); rintro e w142 ⟨rfl, hb⟩; have n0_ := bb_ BK551 hb; have n1_ := bb_ BK552 hb; have n2_ := bb_ BK553 hb; have n3_ := bb_ BK561 hb; have n4_ := bb_ BK565 hb; have n5_ := bb_ BK569 hb; have n6_ := Aside0.mk (below_step (bl_ HB).out hb); clear BK551; clear BK552; clear BK553; clear BK561; clear BK565; clear BK569; clear HB; have BK551 := n0_; have BK552 := n1_; have BK553 := n2_; have BK561 := n3_; have BK565 := n4_; have BK569 := n5_; have HB := n6_; clear n0_ n1_ n2_ n3_ n4_ n5_ n6_; (try clear hb); (try clear hb2); (try clear hk); (try clear hi)))
           go_meet
           case rel => exact ⟨_, (false), eq_, H', ⟨by have := HJ5.out; have := HJ40.out; first | omega | exact Nat.le_refl _⟩, (bk_ BK551), (bk_ BK552), (bk_ BK553), (bk_ BK561), (bk_ BK565), (bk_ BK569), (bl_ HB)⟩
         ·rw [if_neg c109] at H
          have c109b0 : decide (t570 ≤ 0) = false := decide_eq_false c109
          clear c109
          (first | rw [c109b0] | (simp only [i64_w, i32_w]; rw [c109b0]) | skip)
          have H' := Aside0.mk H
          clear H
          go_wp2
          go_meet
          case rel => exact ⟨_, (false), eq_, H', ⟨by have := HJ5.out; have := HJ40.out; first | omega | exact Nat.le_refl _⟩, (bk_ BK551), (bk_ BK552), (bk_ BK553), (bk_ BK561), (bk_ BK565), (bk_ BK569), (bl_ HB)⟩
        case rest =>
         clear HC108
         try clear c1
         try clear c2
         try clear p2
         try clear c3
         try clear p6
         try clear c7
         try clear c10
         try clear c11
         try clear c12
         try clear c13
         try clear c14
         try clear c19
         try clear c34
         try clear c37
         try clear p64
         try clear c73
         try clear c73b0
         try clear c73b1
         try clear c107
         try clear c109
         try clear c109b0
         try clear c111
         try clear c111b0
         try clear c113
         try clear c114
         try clear c115
         try clear c116
         try clear c117
         try clear c119
         try clear c120
         try clear c121
         try clear c122
         try clear c125
         try clear c126
         try clear c127
         try clear c131
         try clear c132
         try clear c133
         try clear c134
         try clear c135
         try clear c137
         try clear c138
         try clear c139
         try clear c140
         try clear hcz118_0
         try clear hcz118_1
         try clear hcz118_2
         try clear hcz123_0
         try clear hcz123_1
         try clear hcz123_2
         try clear hcz128_0
         try clear hcz128_1
         try clear hcz128_2
         try clear hcz129_0
         try clear hcz129_1
         try clear hcz129_2
         try clear hcz136_0
         try clear hcz136_1
         try clear hcz136_2
         try clear hcz141_0
         try clear hcz141_1
         try clear hcz141_2
         try clear hfz118_0
         try clear hfz118_1
         try clear hfz118_2
         try clear hfz123_0
         try clear hfz123_1
         try clear hfz123_2
         try clear hfz128_0
         try clear hfz128_1
         try clear hfz128_2
         try clear hfz129_0
         try clear hfz129_1
         try clear hfz129_2
         try clear hfz136_0
         try clear hfz136_1
         try clear hfz136_2
         try clear hfz141_0
         try clear hfz141_1
         try clear hfz141_2
         try clear p2
         try clear p6
         try clear p64
         obtain ⟨kq, x86_107, rfl, HA, HJ107, BK551, BK552, BK553, BK561, BK565, BK569, HB⟩ := hcut
         cases kq with
         | zero => exact absurd HA.out (by simp [florinlaw02_DecOrders.j2])
         | succ kj107 =>
          have H := HA.out
          clear HA
          simp only [florinlaw02_DecOrders.j2] at H
          by_cases c143 : x86_107 = true
          ·subst c143
           have H1 : (some false) = some r := by rw [if_pos rfl] at H; exact H
           clear H
           have H := H1
           clear H1
           obtain rfl := Option.some.inj H
           go_wp2
           go_ret
           exact ⟨by first | rfl | (simp [errW_none, errW_some] <;> rfl) | (simp [*, errW_none, errW_some] <;> first | rfl | exact given_isEmpty _ | exact (given_isEmpty _).symm), by repeat (first | (with_reducible first | exact HB.out | apply below_alloc | apply pw_below_drewN | apply below_drew1 | refine below_set ?_ GE551.out | refine below_set ?_ GE552.out | refine below_set ?_ GE553.out | refine below_set ?_ GE561.out | refine below_set ?_ GE565.out | refine below_set ?_ GE569.out) | exact HB.out)⟩
          ·replace c143 := Bool.eq_false_iff.mpr c143
           subst c143
           have H1 : ((dec_Dec_Abs.f kj107 t558 t559 t560).bind fun bt594 => ((florinlaw02_Places.f kj107 bt594.1 bt594.2.1 bt594.2.2 50).bind fun t597 => ((dec_Dec_Abs.f kj107 t562 t563 t564).bind fun bt598 => ((florinlaw02_Places.f kj107 bt598.1 bt598.2.1 bt598.2.2 50).bind fun t601 => ((num_Cmp.f kj107 t597 t601).bind fun t602 => ((dec_Dec_Abs.f kj107 t558 t559 t560).bind fun bt603 => ((dec_Dec_Abs.f kj107 t562 t563 t564).bind fun bt606 => ((dec_Cmp.f kj107 bt603.1 bt603.2.1 bt603.2.2 bt606.1 bt606.2.1 bt606.2.2).bind fun t609 => (if t609 = t602 then ((dec_Dec_Minus.f kj107 t558 t559 t560).bind fun bt610 => ((dec_Dec_Minus.f kj107 bt610.1 bt610.2.1 bt610.2.2).bind fun bt613 => ((dec_Dec_Norm.f kj107 t558 t559 t560).bind fun bt616 => (if (bt613.1 == bt616.1 && (bt613.2.1.toList == bt616.2.1.toList && (bt613.2.2 == bt616.2.2))) = true then ((dec_Dec_Abs.f kj107 t558 t559 t560).bind fun bt619 => ((dec_Cmp.f kj107 bt619.1 bt619.2.1 bt619.2.2 false (⟨#[]⟩ : ByteArray) 0).bind fun t622 => ((dec_Dec_Norm.f kj107 t558 t559 t560).bind fun bt623 => (some (t622 == (mn 1 (bt623.2.1.size : Int))))))) else (some false))))) else (some false)))))))))) = some r := by rw [if_neg (show ¬ (false = true) by decide)] at H; exact H
           clear H
           have H := H1
           clear H1
           replace H := Option.bind_eq_some_iff.mp H
           obtain ⟨⟨t594, t595, t596⟩, A1440, H⟩ := H
           replace H : ((florinlaw02_Places.f kj107 t594 t595 t596 50).bind fun t597 => ((dec_Dec_Abs.f kj107 t562 t563 t564).bind fun bt598 => ((florinlaw02_Places.f kj107 bt598.1 bt598.2.1 bt598.2.2 50).bind fun t601 => ((num_Cmp.f kj107 t597 t601).bind fun t602 => ((dec_Dec_Abs.f kj107 t558 t559 t560).bind fun bt603 => ((dec_Dec_Abs.f kj107 t562 t563 t564).bind fun bt606 => ((dec_Cmp.f kj107 bt603.1 bt603.2.1 bt603.2.2 bt606.1 bt606.2.1 bt606.2.2).bind fun t609 => (if t609 = t602 then ((dec_Dec_Minus.f kj107 t558 t559 t560).bind fun bt610 => ((dec_Dec_Minus.f kj107 bt610.1 bt610.2.1 bt610.2.2).bind fun bt613 => ((dec_Dec_Norm.f kj107 t558 t559 t560).bind fun bt616 => (if (bt613.1 == bt616.1 && (bt613.2.1.toList == bt616.2.1.toList && (bt613.2.2 == bt616.2.2))) = true then ((dec_Dec_Abs.f kj107 t558 t559 t560).bind fun bt619 => ((dec_Cmp.f kj107 bt619.1 bt619.2.1 bt619.2.2 false (⟨#[]⟩ : ByteArray) 0).bind fun t622 => ((dec_Dec_Norm.f kj107 t558 t559 t560).bind fun bt623 => (some (t622 == (mn 1 (bt623.2.1.size : Int))))))) else (some false))))) else (some false))))))))) = some r := H
           have A144 := Aside0.mk A1440
           clear A1440
           replace H := Option.bind_eq_some_iff.mp H
           obtain ⟨t597, A1450, H⟩ := H
           replace H : ((dec_Dec_Abs.f kj107 t562 t563 t564).bind fun bt598 => ((florinlaw02_Places.f kj107 bt598.1 bt598.2.1 bt598.2.2 50).bind fun t601 => ((num_Cmp.f kj107 t597 t601).bind fun t602 => ((dec_Dec_Abs.f kj107 t558 t559 t560).bind fun bt603 => ((dec_Dec_Abs.f kj107 t562 t563 t564).bind fun bt606 => ((dec_Cmp.f kj107 bt603.1 bt603.2.1 bt603.2.2 bt606.1 bt606.2.1 bt606.2.2).bind fun t609 => (if t609 = t602 then ((dec_Dec_Minus.f kj107 t558 t559 t560).bind fun bt610 => ((dec_Dec_Minus.f kj107 bt610.1 bt610.2.1 bt610.2.2).bind fun bt613 => ((dec_Dec_Norm.f kj107 t558 t559 t560).bind fun bt616 => (if (bt613.1 == bt616.1 && (bt613.2.1.toList == bt616.2.1.toList && (bt613.2.2 == bt616.2.2))) = true then ((dec_Dec_Abs.f kj107 t558 t559 t560).bind fun bt619 => ((dec_Cmp.f kj107 bt619.1 bt619.2.1 bt619.2.2 false (⟨#[]⟩ : ByteArray) 0).bind fun t622 => ((dec_Dec_Norm.f kj107 t558 t559 t560).bind fun bt623 => (some (t622 == (mn 1 (bt623.2.1.size : Int))))))) else (some false))))) else (some false)))))))) = some r := H
           have A145 := Aside0.mk A1450
           clear A1450
           replace H := Option.bind_eq_some_iff.mp H
           obtain ⟨⟨t598, t599, t600⟩, A1460, H⟩ := H
           replace H : ((florinlaw02_Places.f kj107 t598 t599 t600 50).bind fun t601 => ((num_Cmp.f kj107 t597 t601).bind fun t602 => ((dec_Dec_Abs.f kj107 t558 t559 t560).bind fun bt603 => ((dec_Dec_Abs.f kj107 t562 t563 t564).bind fun bt606 => ((dec_Cmp.f kj107 bt603.1 bt603.2.1 bt603.2.2 bt606.1 bt606.2.1 bt606.2.2).bind fun t609 => (if t609 = t602 then ((dec_Dec_Minus.f kj107 t558 t559 t560).bind fun bt610 => ((dec_Dec_Minus.f kj107 bt610.1 bt610.2.1 bt610.2.2).bind fun bt613 => ((dec_Dec_Norm.f kj107 t558 t559 t560).bind fun bt616 => (if (bt613.1 == bt616.1 && (bt613.2.1.toList == bt616.2.1.toList && (bt613.2.2 == bt616.2.2))) = true then ((dec_Dec_Abs.f kj107 t558 t559 t560).bind fun bt619 => ((dec_Cmp.f kj107 bt619.1 bt619.2.1 bt619.2.2 false (⟨#[]⟩ : ByteArray) 0).bind fun t622 => ((dec_Dec_Norm.f kj107 t558 t559 t560).bind fun bt623 => (some (t622 == (mn 1 (bt623.2.1.size : Int))))))) else (some false))))) else (some false))))))) = some r := H
           have A146 := Aside0.mk A1460
           clear A1460
           replace H := Option.bind_eq_some_iff.mp H
           obtain ⟨t601, A1470, H⟩ := H
           replace H : ((num_Cmp.f kj107 t597 t601).bind fun t602 => ((dec_Dec_Abs.f kj107 t558 t559 t560).bind fun bt603 => ((dec_Dec_Abs.f kj107 t562 t563 t564).bind fun bt606 => ((dec_Cmp.f kj107 bt603.1 bt603.2.1 bt603.2.2 bt606.1 bt606.2.1 bt606.2.2).bind fun t609 => (if t609 = t602 then ((dec_Dec_Minus.f kj107 t558 t559 t560).bind fun bt610 => ((dec_Dec_Minus.f kj107 bt610.1 bt610.2.1 bt610.2.2).bind fun bt613 => ((dec_Dec_Norm.f kj107 t558 t559 t560).bind fun bt616 => (if (bt613.1 == bt616.1 && (bt613.2.1.toList == bt616.2.1.toList && (bt613.2.2 == bt616.2.2))) = true then ((dec_Dec_Abs.f kj107 t558 t559 t560).bind fun bt619 => ((dec_Cmp.f kj107 bt619.1 bt619.2.1 bt619.2.2 false (⟨#[]⟩ : ByteArray) 0).bind fun t622 => ((dec_Dec_Norm.f kj107 t558 t559 t560).bind fun bt623 => (some (t622 == (mn 1 (bt623.2.1.size : Int))))))) else (some false))))) else (some false)))))) = some r := H
           have A147 := Aside0.mk A1470
           clear A1470
           replace H := Option.bind_eq_some_iff.mp H
           obtain ⟨t602, A1480, H⟩ := H
           replace H : ((dec_Dec_Abs.f kj107 t558 t559 t560).bind fun bt603 => ((dec_Dec_Abs.f kj107 t562 t563 t564).bind fun bt606 => ((dec_Cmp.f kj107 bt603.1 bt603.2.1 bt603.2.2 bt606.1 bt606.2.1 bt606.2.2).bind fun t609 => (if t609 = t602 then ((dec_Dec_Minus.f kj107 t558 t559 t560).bind fun bt610 => ((dec_Dec_Minus.f kj107 bt610.1 bt610.2.1 bt610.2.2).bind fun bt613 => ((dec_Dec_Norm.f kj107 t558 t559 t560).bind fun bt616 => (if (bt613.1 == bt616.1 && (bt613.2.1.toList == bt616.2.1.toList && (bt613.2.2 == bt616.2.2))) = true then ((dec_Dec_Abs.f kj107 t558 t559 t560).bind fun bt619 => ((dec_Cmp.f kj107 bt619.1 bt619.2.1 bt619.2.2 false (⟨#[]⟩ : ByteArray) 0).bind fun t622 => ((dec_Dec_Norm.f kj107 t558 t559 t560).bind fun bt623 => (some (t622 == (mn 1 (bt623.2.1.size : Int))))))) else (some false))))) else (some false))))) = some r := H
           have A148 := Aside0.mk A1480
           clear A1480
           replace H := Option.bind_eq_some_iff.mp H
           obtain ⟨⟨t603, t604, t605⟩, A1490, H⟩ := H
           replace H : ((dec_Dec_Abs.f kj107 t562 t563 t564).bind fun bt606 => ((dec_Cmp.f kj107 t603 t604 t605 bt606.1 bt606.2.1 bt606.2.2).bind fun t609 => (if t609 = t602 then ((dec_Dec_Minus.f kj107 t558 t559 t560).bind fun bt610 => ((dec_Dec_Minus.f kj107 bt610.1 bt610.2.1 bt610.2.2).bind fun bt613 => ((dec_Dec_Norm.f kj107 t558 t559 t560).bind fun bt616 => (if (bt613.1 == bt616.1 && (bt613.2.1.toList == bt616.2.1.toList && (bt613.2.2 == bt616.2.2))) = true then ((dec_Dec_Abs.f kj107 t558 t559 t560).bind fun bt619 => ((dec_Cmp.f kj107 bt619.1 bt619.2.1 bt619.2.2 false (⟨#[]⟩ : ByteArray) 0).bind fun t622 => ((dec_Dec_Norm.f kj107 t558 t559 t560).bind fun bt623 => (some (t622 == (mn 1 (bt623.2.1.size : Int))))))) else (some false))))) else (some false)))) = some r := H
           have A149 := Aside0.mk A1490
           clear A1490
           replace H := Option.bind_eq_some_iff.mp H
           obtain ⟨⟨t606, t607, t608⟩, A1500, H⟩ := H
           replace H : ((dec_Cmp.f kj107 t603 t604 t605 t606 t607 t608).bind fun t609 => (if t609 = t602 then ((dec_Dec_Minus.f kj107 t558 t559 t560).bind fun bt610 => ((dec_Dec_Minus.f kj107 bt610.1 bt610.2.1 bt610.2.2).bind fun bt613 => ((dec_Dec_Norm.f kj107 t558 t559 t560).bind fun bt616 => (if (bt613.1 == bt616.1 && (bt613.2.1.toList == bt616.2.1.toList && (bt613.2.2 == bt616.2.2))) = true then ((dec_Dec_Abs.f kj107 t558 t559 t560).bind fun bt619 => ((dec_Cmp.f kj107 bt619.1 bt619.2.1 bt619.2.2 false (⟨#[]⟩ : ByteArray) 0).bind fun t622 => ((dec_Dec_Norm.f kj107 t558 t559 t560).bind fun bt623 => (some (t622 == (mn 1 (bt623.2.1.size : Int))))))) else (some false))))) else (some false))) = some r := H
           have A150 := Aside0.mk A1500
           clear A1500
           replace H := Option.bind_eq_some_iff.mp H
           obtain ⟨t609, A1510, H⟩ := H
           replace H : (if t609 = t602 then ((dec_Dec_Minus.f kj107 t558 t559 t560).bind fun bt610 => ((dec_Dec_Minus.f kj107 bt610.1 bt610.2.1 bt610.2.2).bind fun bt613 => ((dec_Dec_Norm.f kj107 t558 t559 t560).bind fun bt616 => (if (bt613.1 == bt616.1 && (bt613.2.1.toList == bt616.2.1.toList && (bt613.2.2 == bt616.2.2))) = true then ((dec_Dec_Abs.f kj107 t558 t559 t560).bind fun bt619 => ((dec_Cmp.f kj107 bt619.1 bt619.2.1 bt619.2.2 false (⟨#[]⟩ : ByteArray) 0).bind fun t622 => ((dec_Dec_Norm.f kj107 t558 t559 t560).bind fun bt623 => (some (t622 == (mn 1 (bt623.2.1.size : Int))))))) else (some false))))) else (some false)) = some r := H
           have A151 := Aside0.mk A1510
           clear A1510
           by_cases c152 : t609 = t602
           ·rw [if_pos c152] at H
            have c152b0 : (t609 == t602) = true := beq_iff_eq.mpr c152
            have c152b1 : (t609 != t602) = false := bne_eq_false_iff_eq.mpr c152
            clear c152
            replace H := Option.bind_eq_some_iff.mp H
            obtain ⟨⟨t610, t611, t612⟩, A1530, H⟩ := H
            replace H : ((dec_Dec_Minus.f kj107 t610 t611 t612).bind fun bt613 => ((dec_Dec_Norm.f kj107 t558 t559 t560).bind fun bt616 => (if (bt613.1 == bt616.1 && (bt613.2.1.toList == bt616.2.1.toList && (bt613.2.2 == bt616.2.2))) = true then ((dec_Dec_Abs.f kj107 t558 t559 t560).bind fun bt619 => ((dec_Cmp.f kj107 bt619.1 bt619.2.1 bt619.2.2 false (⟨#[]⟩ : ByteArray) 0).bind fun t622 => ((dec_Dec_Norm.f kj107 t558 t559 t560).bind fun bt623 => (some (t622 == (mn 1 (bt623.2.1.size : Int))))))) else (some false)))) = some r := H
            have A153 := Aside0.mk A1530
            clear A1530
            replace H := Option.bind_eq_some_iff.mp H
            obtain ⟨⟨t613, t614, t615⟩, A1540, H⟩ := H
            replace H : ((dec_Dec_Norm.f kj107 t558 t559 t560).bind fun bt616 => (if (t613 == bt616.1 && (t614.toList == bt616.2.1.toList && (t615 == bt616.2.2))) = true then ((dec_Dec_Abs.f kj107 t558 t559 t560).bind fun bt619 => ((dec_Cmp.f kj107 bt619.1 bt619.2.1 bt619.2.2 false (⟨#[]⟩ : ByteArray) 0).bind fun t622 => ((dec_Dec_Norm.f kj107 t558 t559 t560).bind fun bt623 => (some (t622 == (mn 1 (bt623.2.1.size : Int))))))) else (some false))) = some r := H
            have A154 := Aside0.mk A1540
            clear A1540
            replace H := Option.bind_eq_some_iff.mp H
            obtain ⟨⟨t616, t617, t618⟩, A1550, H⟩ := H
            replace H : (if (t613 == t616 && (t614.toList == t617.toList && (t615 == t618))) = true then ((dec_Dec_Abs.f kj107 t558 t559 t560).bind fun bt619 => ((dec_Cmp.f kj107 bt619.1 bt619.2.1 bt619.2.2 false (⟨#[]⟩ : ByteArray) 0).bind fun t622 => ((dec_Dec_Norm.f kj107 t558 t559 t560).bind fun bt623 => (some (t622 == (mn 1 (bt623.2.1.size : Int))))))) else (some false)) = some r := H
            have A155 := Aside0.mk A1550
            clear A1550
            by_cases c156 : (t613 == t616 && (t614.toList == t617.toList && (t615 == t618))) = true
            ·rw [if_pos c156] at H
             have c156b0 : (t613 == t616 && (t614.toList == t617.toList && (t615 == t618))) = true := c156
             (try (have c156b1 : decide (t613 = t616 && (t614.toList == t617.toList && (t615 == t618))) = true := by simpa using c156))
             (try (have c156b2 : (t613 == t616 && (t614.toList == t617.toList && (t615 == t618))) = true := by simpa using c156))
             clear c156
             replace H := Option.bind_eq_some_iff.mp H
             obtain ⟨⟨t619, t620, t621⟩, A1570, H⟩ := H
             replace H : ((dec_Cmp.f kj107 t619 t620 t621 false (⟨#[]⟩ : ByteArray) 0).bind fun t622 => ((dec_Dec_Norm.f kj107 t558 t559 t560).bind fun bt623 => (some (t622 == (mn 1 (bt623.2.1.size : Int)))))) = some r := H
             have A157 := Aside0.mk A1570
             clear A1570
             replace H := Option.bind_eq_some_iff.mp H
             obtain ⟨t622, A1580, H⟩ := H
             replace H : ((dec_Dec_Norm.f kj107 t558 t559 t560).bind fun bt623 => (some (t622 == (mn 1 (bt623.2.1.size : Int))))) = some r := H
             have A158 := Aside0.mk A1580
             clear A1580
             replace H := Option.bind_eq_some_iff.mp H
             obtain ⟨⟨t623, t624, t625⟩, A1590, H⟩ := H
             replace H : (some (t622 == (mn 1 (t624.size : Int)))) = some r := H
             have A159 := Aside0.mk A1590
             clear A1590
             obtain ⟨ji160, hji160⟩ : ∃ j_ : Int, (mn 1 (t624.size : Int)) = j_ := ⟨_, rfl⟩
             replace H : (some (t622 == (ji160))) = some r := by first | (rw [hji160] at H; exact H) | (simp only [hji160] at H ⊢; exact H)
             (try rw [hji160] at A144)
             (try rw [hji160] at A145)
             (try rw [hji160] at A146)
             (try rw [hji160] at A147)
             (try rw [hji160] at A148)
             (try rw [hji160] at A149)
             (try rw [hji160] at A150)
             (try rw [hji160] at A151)
             (try rw [hji160] at A153)
             (try rw [hji160] at A154)
             (try rw [hji160] at A155)
             (try rw [hji160] at A157)
             (try rw [hji160] at A158)
             (try rw [hji160] at A159)
             (try (have hji160h : ji160 ≤ 1 := by (rw [← hji160]; unfold mn; (repeat' split) <;> omega)))
             (try (have hji160g : ji160 ≤ 64 := by omega))
             (try (have hji160l : 0 ≤ ji160 := by (rw [← hji160]; unfold mn; (repeat' split) <;> omega)))
             (try (have hji160m : 0 ≤ ji160 := by omega))
             have hji160_ : (if (t624.size : Int) < 1 then (t624.size : Int) else 1) = ji160 := hji160
             obtain rfl := Option.some.inj H
             try go_wp2
             have n0_ := Aside0.mk (blk_drew BK551.out)
             have n1_ := Aside0.mk (blk_drew BK552.out)
             have n2_ := Aside0.mk (blk_drew BK553.out)
             have n3_ := Aside0.mk (blk_drew BK561.out)
             have n4_ := Aside0.mk (blk_drew BK565.out)
             have n5_ := Aside0.mk (blk_drew BK569.out)
             have n6_ := Aside0.mk (below_drew1 HB.out)
             clear BK551
             clear BK552
             clear BK553
             clear BK561
             clear BK565
             clear BK569
             clear HB
             have BK551 := n0_
             have BK552 := n1_
             have BK553 := n2_
             have BK561 := n3_
             have BK565 := n4_
             have BK569 := n5_
             have HB := n6_
             clear n0_ n1_ n2_ n3_ n4_ n5_ n6_
             refine start_ (n := 8) (S := fun w' => w'.cell? ⟨gb561, 0, none⟩ = some (.bool t558) ∧ w'.cell? ⟨gb561, 1, none⟩ = some (.string t559) ∧ w'.cell? ⟨gb561, 2, none⟩ = some (.int .i64 t560) ∧ w'.cell? ⟨gb565, 0, none⟩ = some (.bool t562) ∧ w'.cell? ⟨gb565, 1, none⟩ = some (.string t563) ∧ w'.cell? ⟨gb565, 2, none⟩ = some (.int .i64 t564)) (ds := []) #[false, false, false, false, false, false, false, false] (by kernel_rfl) rfl rfl ⟨(blk_cell BK561.out 0).trans rfl, (blk_cell BK561.out 1).trans rfl, (blk_cell BK561.out 2).trans rfl, (blk_cell BK565.out 0).trans rfl, (blk_cell BK565.out 1).trans rfl, (blk_cell BK565.out 2).trans rfl⟩ (fun hHeld => ?_); refine with_tabW florinlaw02_DecOrders.tab13 florinlaw02_DecOrders.bits13 (fun HT_ HW_ => ?_)
             generalize wc.drew = w161 at BK551 BK552 BK553 BK561 BK565 BK569 HB hHeld ⊢
             refine tk_ 0 87 #[true, false, false, false, false, false, false, false] HT_ HW_ hHeld rfl (by rintro w' ⟨s0, s1, s2, s3, s4, s5⟩; go_simp; with_reducible rfl) ?_
             refine tk_ 3 90 #[true, false, false, true, false, false, false, false] HT_ HW_ hHeld rfl (by rintro w' ⟨s0, s1, s2, s3, s4, s5⟩; go_simp; with_reducible rfl) ?_
             refine one_ (i := 1) (N := some 88) #[true, true, false, true, false, false, false, false] rfl rfl (one_of HT_.out (by kernel_rfl)) (by decide) (fun K hK => ?_)
             refine goes_ Tryd.func38 (by kernel_rfl) rfl #[.agg #[.bool t558, .string t559, .int .i64 t560]] (by rfl) rfl rfl (by (try simp only [List.map_toArray, List.map_cons, List.map_nil]); first | done | rfl | (simp only [List.length_drop, List.length_take]; rfl) | (have z_ : ∀ s_ : ByteArray, s_.size ≤ 9223372036854775807 → -(s_.size : Int) = wrap64 (-(s_.size : Int)) := (fun s_ h_ => by unfold wrap64; omega); rw [← z_ _ (by omega)]; rfl)) ?_
             with_reducible refine (dec_Dec_Abs.calls kj107 t558 t559 t560 t594 t595 t596 _ A144.out).mono ?_
             rintro e w162 ⟨rfl, hb⟩
             refine ⟨_, rfl, ?_⟩
             have n0_ := bb_ BK551 hb
             have n1_ := bb_ BK552 hb
             have n2_ := bb_ BK553 hb
             have n3_ := bb_ BK561 hb
             have n4_ := bb_ BK565 hb
             have n5_ := bb_ BK569 hb
             have n6_ := Aside0.mk (below_step (bl_ HB).out hb)
             clear BK551
             clear BK552
             clear BK553
             clear BK561
             clear BK565
             clear BK569
             clear HB
             have BK551 := n0_
             have BK552 := n1_
             have BK553 := n2_
             have BK561 := n3_
             have BK565 := n4_
             have BK569 := n5_
             have HB := n6_
             clear n0_ n1_ n2_ n3_ n4_ n5_ n6_
             (try clear hb)
             (try clear hb2)
             (try clear hk)
             (try clear hi)
             refine hK.out _ _ ⟨(blk_cell BK561.out 0).trans rfl, (blk_cell BK561.out 1).trans rfl, (blk_cell BK561.out 2).trans rfl, (blk_cell BK565.out 0).trans rfl, (blk_cell BK565.out 1).trans rfl, (blk_cell BK565.out 2).trans rfl⟩ (fun hHeld => ?_)
             clear hK K
             refine norm_ (a' := ?_) ?_ ?_
             rotate_left
             ·show Act.put _ (some 88) _ = _
              simp only [Act.put, List.setIfInBounds_toArray, List.set_cons_zero, List.set_cons_succ, i64_w, i32_w]
              rfl
             refine one_ (i := 2) (N := some 89) #[true, true, true, true, false, false, false, false] rfl rfl (one_of HT_.out (by kernel_rfl)) (by decide) (fun K hK => ?_)
             refine goes_ Tryd.func31 (by kernel_rfl) rfl #[.agg #[.bool t594, .string t595, .int .i64 t596], .int .i64 50] (by rfl) rfl rfl (by (try simp only [List.map_toArray, List.map_cons, List.map_nil]); first | done | rfl | (simp only [List.length_drop, List.length_take]; rfl) | (have z_ : ∀ s_ : ByteArray, s_.size ≤ 9223372036854775807 → -(s_.size : Int) = wrap64 (-(s_.size : Int)) := (fun s_ h_ => by unfold wrap64; omega); rw [← z_ _ (by omega)]; rfl)) ?_
             with_reducible refine (florinlaw02_Places.calls kj107 t594 t595 t596 50 t597 _ A145.out).mono ?_
             rintro e w163 ⟨rfl, hb⟩
             refine ⟨_, rfl, ?_⟩
             have n0_ := bb_ BK551 hb
             have n1_ := bb_ BK552 hb
             have n2_ := bb_ BK553 hb
             have n3_ := bb_ BK561 hb
             have n4_ := bb_ BK565 hb
             have n5_ := bb_ BK569 hb
             have n6_ := Aside0.mk (below_step (bl_ HB).out hb)
             clear BK551
             clear BK552
             clear BK553
             clear BK561
             clear BK565
             clear BK569
             clear HB
             have BK551 := n0_
             have BK552 := n1_
             have BK553 := n2_
             have BK561 := n3_
             have BK565 := n4_
             have BK569 := n5_
             have HB := n6_
             clear n0_ n1_ n2_ n3_ n4_ n5_ n6_
             (try clear hb)
             (try clear hb2)
             (try clear hk)
             (try clear hi)
             refine hK.out _ _ ⟨(blk_cell BK561.out 0).trans rfl, (blk_cell BK561.out 1).trans rfl, (blk_cell BK561.out 2).trans rfl, (blk_cell BK565.out 0).trans rfl, (blk_cell BK565.out 1).trans rfl, (blk_cell BK565.out 2).trans rfl⟩ (fun hHeld => ?_)
             clear hK K
             refine norm_ (a' := ?_) ?_ ?_
             rotate_left
             ·show Act.put _ (some 89) _ = _
              simp only [Act.put, List.setIfInBounds_toArray, List.set_cons_zero, List.set_cons_succ, i64_w, i32_w]
              rfl
             refine one_ (i := 4) (N := some 91) #[true, true, true, true, true, false, false, false] rfl rfl (one_of HT_.out (by kernel_rfl)) (by decide) (fun K hK => ?_)
             refine goes_ Tryd.func38 (by kernel_rfl) rfl #[.agg #[.bool t562, .string t563, .int .i64 t564]] (by rfl) rfl rfl (by (try simp only [List.map_toArray, List.map_cons, List.map_nil]); first | done | rfl | (simp only [List.length_drop, List.length_take]; rfl) | (have z_ : ∀ s_ : ByteArray, s_.size ≤ 9223372036854775807 → -(s_.size : Int) = wrap64 (-(s_.size : Int)) := (fun s_ h_ => by unfold wrap64; omega); rw [← z_ _ (by omega)]; rfl)) ?_
             with_reducible refine (dec_Dec_Abs.calls kj107 t562 t563 t564 t598 t599 t600 _ A146.out).mono ?_
             rintro e w164 ⟨rfl, hb⟩
             refine ⟨_, rfl, ?_⟩
             have n0_ := bb_ BK551 hb
             have n1_ := bb_ BK552 hb
             have n2_ := bb_ BK553 hb
             have n3_ := bb_ BK561 hb
             have n4_ := bb_ BK565 hb
             have n5_ := bb_ BK569 hb
             have n6_ := Aside0.mk (below_step (bl_ HB).out hb)
             clear BK551
             clear BK552
             clear BK553
             clear BK561
             clear BK565
             clear BK569
             clear HB
             have BK551 := n0_
             have BK552 := n1_
             have BK553 := n2_
             have BK561 := n3_
             have BK565 := n4_
             have BK569 := n5_
             have HB := n6_
             clear n0_ n1_ n2_ n3_ n4_ n5_ n6_
             (try clear hb)
             (try clear hb2)
             (try clear hk)
             (try clear hi)
             refine hK.out _ _ ⟨(blk_cell BK561.out 0).trans rfl, (blk_cell BK561.out 1).trans rfl, (blk_cell BK561.out 2).trans rfl, (blk_cell BK565.out 0).trans rfl, (blk_cell BK565.out 1).trans rfl, (blk_cell BK565.out 2).trans rfl⟩ (fun hHeld => ?_)
             clear hK K
             refine norm_ (a' := ?_) ?_ ?_
             rotate_left
             ·show Act.put _ (some 91) _ = _
              simp only [Act.put, List.setIfInBounds_toArray, List.set_cons_zero, List.set_cons_succ, i64_w, i32_w]
              rfl
             refine one_ (i := 5) (N := some 92) #[true, true, true, true, true, true, false, false] rfl rfl (one_of HT_.out (by kernel_rfl)) (by decide) (fun K hK => ?_)
             refine goes_ Tryd.func31 (by kernel_rfl) rfl #[.agg #[.bool t598, .string t599, .int .i64 t600], .int .i64 50] (by rfl) rfl rfl (by (try simp only [List.map_toArray, List.map_cons, List.map_nil]); first | done | rfl | (simp only [List.length_drop, List.length_take]; rfl) | (have z_ : ∀ s_ : ByteArray, s_.size ≤ 9223372036854775807 → -(s_.size : Int) = wrap64 (-(s_.size : Int)) := (fun s_ h_ => by unfold wrap64; omega); rw [← z_ _ (by omega)]; rfl)) ?_
             with_reducible refine (florinlaw02_Places.calls kj107 t598 t599 t600 50 t601 _ A147.out).mono ?_
             rintro e w165 ⟨rfl, hb⟩
             refine ⟨_, rfl, ?_⟩
             have n0_ := bb_ BK551 hb
             have n1_ := bb_ BK552 hb
             have n2_ := bb_ BK553 hb
             have n3_ := bb_ BK561 hb
             have n4_ := bb_ BK565 hb
             have n5_ := bb_ BK569 hb
             have n6_ := Aside0.mk (below_step (bl_ HB).out hb)
             clear BK551
             clear BK552
             clear BK553
             clear BK561
             clear BK565
             clear BK569
             clear HB
             have BK551 := n0_
             have BK552 := n1_
             have BK553 := n2_
             have BK561 := n3_
             have BK565 := n4_
             have BK569 := n5_
             have HB := n6_
             clear n0_ n1_ n2_ n3_ n4_ n5_ n6_
             (try clear hb)
             (try clear hb2)
             (try clear hk)
             (try clear hi)
             refine hK.out _ _ ⟨(blk_cell BK561.out 0).trans rfl, (blk_cell BK561.out 1).trans rfl, (blk_cell BK561.out 2).trans rfl, (blk_cell BK565.out 0).trans rfl, (blk_cell BK565.out 1).trans rfl, (blk_cell BK565.out 2).trans rfl⟩ (fun hHeld => ?_)
             clear hK K
             refine norm_ (a' := ?_) ?_ ?_
             rotate_left
             ·show Act.put _ (some 92) _ = _
              simp only [Act.put, List.setIfInBounds_toArray, List.set_cons_zero, List.set_cons_succ, i64_w, i32_w]
              rfl
             refine one_ (i := 6) (N := some 93) #[true, true, true, true, true, true, true, false] rfl rfl (one_of HT_.out (by kernel_rfl)) (by decide) (fun K hK => ?_)
             refine goes_ Tryd.func30 (by kernel_rfl) rfl #[.string t597, .string t601] (by rfl) rfl rfl (by (try simp only [List.map_toArray, List.map_cons, List.map_nil]); first | done | rfl | (simp only [List.length_drop, List.length_take]; rfl) | (have z_ : ∀ s_ : ByteArray, s_.size ≤ 9223372036854775807 → -(s_.size : Int) = wrap64 (-(s_.size : Int)) := (fun s_ h_ => by unfold wrap64; omega); rw [← z_ _ (by omega)]; rfl)) ?_
             with_reducible refine (num_Cmp.calls kj107 t597 t601 t602 _ A148.out).mono ?_
             rintro e w166 ⟨rfl, hb⟩
             refine ⟨_, rfl, ?_⟩
             have n0_ := bb_ BK551 hb
             have n1_ := bb_ BK552 hb
             have n2_ := bb_ BK553 hb
             have n3_ := bb_ BK561 hb
             have n4_ := bb_ BK565 hb
             have n5_ := bb_ BK569 hb
             have n6_ := Aside0.mk (below_step (bl_ HB).out hb)
             clear BK551
             clear BK552
             clear BK553
             clear BK561
             clear BK565
             clear BK569
             clear HB
             have BK551 := n0_
             have BK552 := n1_
             have BK553 := n2_
             have BK561 := n3_
             have BK565 := n4_
             have BK569 := n5_
             have HB := n6_
             clear n0_ n1_ n2_ n3_ n4_ n5_ n6_
             (try clear hb)
             (try clear hb2)
             (try clear hk)
             (try clear hi)
             refine hK.out _ _ ⟨(blk_cell BK561.out 0).trans rfl, (blk_cell BK561.out 1).trans rfl, (blk_cell BK561.out 2).trans rfl, (blk_cell BK565.out 0).trans rfl, (blk_cell BK565.out 1).trans rfl, (blk_cell BK565.out 2).trans rfl⟩ (fun hHeld => ?_)
             clear hK K
             refine norm_ (a' := ?_) ?_ ?_
             rotate_left
             ·show Act.put _ (some 93) _ = _
              simp only [Act.put, List.setIfInBounds_toArray, List.set_cons_zero, List.set_cons_succ, i64_w, i32_w]
              rfl
             refine pu_ 7 11 #[true, true, true, true, true, true, true, true] HT_ ?_
             refine done_ (done_of HT_.out (by kernel_rfl)) ?_
             try go_wp2
             have n0_ := Aside0.mk (blk_drew BK551.out)
             have n1_ := Aside0.mk (blk_drew BK552.out)
             have n2_ := Aside0.mk (blk_drew BK553.out)
             have n3_ := Aside0.mk (blk_drew BK561.out)
             have n4_ := Aside0.mk (blk_drew BK565.out)
             have n5_ := Aside0.mk (blk_drew BK569.out)
             have n6_ := Aside0.mk (below_drew1 HB.out)
             clear BK551
             clear BK552
             clear BK553
             clear BK561
             clear BK565
             clear BK569
             clear HB
             have BK551 := n0_
             have BK552 := n1_
             have BK553 := n2_
             have BK561 := n3_
             have BK565 := n4_
             have BK569 := n5_
             have HB := n6_
             clear n0_ n1_ n2_ n3_ n4_ n5_ n6_
             refine start_ (n := 28) (S := fun w' => w'.cell? ⟨gb561, 0, none⟩ = some (.bool t558) ∧ w'.cell? ⟨gb561, 1, none⟩ = some (.string t559) ∧ w'.cell? ⟨gb561, 2, none⟩ = some (.int .i64 t560) ∧ w'.cell? ⟨gb565, 0, none⟩ = some (.bool t562) ∧ w'.cell? ⟨gb565, 1, none⟩ = some (.string t563) ∧ w'.cell? ⟨gb565, 2, none⟩ = some (.int .i64 t564)) (ds := []) #[false, false, false, false, false, false, false, false, false, false, false, false, false, false, false, false, false, false, false, false, false, false, false, false, false, false, false, false] (by kernel_rfl) rfl rfl ⟨(blk_cell BK561.out 0).trans rfl, (blk_cell BK561.out 1).trans rfl, (blk_cell BK561.out 2).trans rfl, (blk_cell BK565.out 0).trans rfl, (blk_cell BK565.out 1).trans rfl, (blk_cell BK565.out 2).trans rfl⟩ (fun hHeld => ?_); refine with_tabW florinlaw02_DecOrders.tab14 florinlaw02_DecOrders.bits14 (fun HT_ HW_ => ?_)
             generalize w166.drew = w167 at BK551 BK552 BK553 BK561 BK565 BK569 HB hHeld ⊢
             refine pu_ 5 99 (bm_ 28 32) HT_ ?_
             refine tk_ 0 94 (bm_ 28 33) HT_ HW_ hHeld rfl (by rintro w' ⟨s0, s1, s2, s3, s4, s5⟩; go_simp; with_reducible rfl) ?_
             refine tk_ 2 96 (bm_ 28 37) HT_ HW_ hHeld rfl (by rintro w' ⟨s0, s1, s2, s3, s4, s5⟩; go_simp; with_reducible rfl) ?_
             refine one_ (i := 1) (N := some 95) (bm_ 28 39) rfl rfl (one_of HT_.out (by kernel_rfl)) (by decide) (fun K hK => ?_)
             refine goes_ Tryd.func38 (by kernel_rfl) rfl #[.agg #[.bool t558, .string t559, .int .i64 t560]] (by rfl) rfl rfl (by (try simp only [List.map_toArray, List.map_cons, List.map_nil]); first | done | rfl | (simp only [List.length_drop, List.length_take]; rfl) | (have z_ : ∀ s_ : ByteArray, s_.size ≤ 9223372036854775807 → -(s_.size : Int) = wrap64 (-(s_.size : Int)) := (fun s_ h_ => by unfold wrap64; omega); rw [← z_ _ (by omega)]; rfl)) ?_
             with_reducible refine (dec_Dec_Abs.calls kj107 t558 t559 t560 t603 t604 t605 _ A149.out).mono ?_
             rintro e w168 ⟨rfl, hb⟩
             refine ⟨_, rfl, ?_⟩
             have n0_ := bb_ BK551 hb
             have n1_ := bb_ BK552 hb
             have n2_ := bb_ BK553 hb
             have n3_ := bb_ BK561 hb
             have n4_ := bb_ BK565 hb
             have n5_ := bb_ BK569 hb
             have n6_ := Aside0.mk (below_step (bl_ HB).out hb)
             clear BK551
             clear BK552
             clear BK553
             clear BK561
             clear BK565
             clear BK569
             clear HB
             have BK551 := n0_
             have BK552 := n1_
             have BK553 := n2_
             have BK561 := n3_
             have BK565 := n4_
             have BK569 := n5_
             have HB := n6_
             clear n0_ n1_ n2_ n3_ n4_ n5_ n6_
             (try clear hb)
             (try clear hb2)
             (try clear hk)
             (try clear hi)
             refine hK.out _ _ ⟨(blk_cell BK561.out 0).trans rfl, (blk_cell BK561.out 1).trans rfl, (blk_cell BK561.out 2).trans rfl, (blk_cell BK565.out 0).trans rfl, (blk_cell BK565.out 1).trans rfl, (blk_cell BK565.out 2).trans rfl⟩ (fun hHeld => ?_)
             clear hK K
             refine norm_ (a' := ?_) ?_ ?_
             rotate_left
             ·show Act.put _ (some 95) _ = _
              simp only [Act.put, List.setIfInBounds_toArray, List.set_cons_zero, List.set_cons_succ, i64_w, i32_w]
              rfl
             refine one_ (i := 3) (N := some 97) (bm_ 28 47) rfl rfl (one_of HT_.out (by kernel_rfl)) (by decide) (fun K hK => ?_)
             refine goes_ Tryd.func38 (by kernel_rfl) rfl #[.agg #[.bool t562, .string t563, .int .i64 t564]] (by rfl) rfl rfl (by (try simp only [List.map_toArray, List.map_cons, List.map_nil]); first | done | rfl | (simp only [List.length_drop, List.length_take]; rfl) | (have z_ : ∀ s_ : ByteArray, s_.size ≤ 9223372036854775807 → -(s_.size : Int) = wrap64 (-(s_.size : Int)) := (fun s_ h_ => by unfold wrap64; omega); rw [← z_ _ (by omega)]; rfl)) ?_
             with_reducible refine (dec_Dec_Abs.calls kj107 t562 t563 t564 t606 t607 t608 _ A150.out).mono ?_
             rintro e w169 ⟨rfl, hb⟩
             refine ⟨_, rfl, ?_⟩
             have n0_ := bb_ BK551 hb
             have n1_ := bb_ BK552 hb
             have n2_ := bb_ BK553 hb
             have n3_ := bb_ BK561 hb
             have n4_ := bb_ BK565 hb
             have n5_ := bb_ BK569 hb
             have n6_ := Aside0.mk (below_step (bl_ HB).out hb)
             clear BK551
             clear BK552
             clear BK553
             clear BK561
             clear BK565
             clear BK569
             clear HB
             have BK551 := n0_
             have BK552 := n1_
             have BK553 := n2_
             have BK561 := n3_
             have BK565 := n4_
             have BK569 := n5_
             have HB := n6_
             clear n0_ n1_ n2_ n3_ n4_ n5_ n6_
             (try clear hb)
             (try clear hb2)
             (try clear hk)
             (try clear hi)
             refine hK.out _ _ ⟨(blk_cell BK561.out 0).trans rfl, (blk_cell BK561.out 1).trans rfl, (blk_cell BK561.out 2).trans rfl, (blk_cell BK565.out 0).trans rfl, (blk_cell BK565.out 1).trans rfl, (blk_cell BK565.out 2).trans rfl⟩ (fun hHeld => ?_)
             clear hK K
             refine norm_ (a' := ?_) ?_ ?_
             rotate_left
             ·show Act.put _ (some 97) _ = _
              simp only [Act.put, List.setIfInBounds_toArray, List.set_cons_zero, List.set_cons_succ, i64_w, i32_w]
              rfl
             refine one_ (i := 4) (N := some 98) (bm_ 28 63) rfl rfl (one_of HT_.out (by kernel_rfl)) (by decide) (fun K hK => ?_)
             refine goes_ Tryd.func37 (by kernel_rfl) rfl #[.agg #[.bool t603, .string t604, .int .i64 t605], .agg #[.bool t606, .string t607, .int .i64 t608]] (by rfl) rfl rfl (by (try simp only [List.map_toArray, List.map_cons, List.map_nil]); first | done | rfl | (simp only [List.length_drop, List.length_take]; rfl) | (have z_ : ∀ s_ : ByteArray, s_.size ≤ 9223372036854775807 → -(s_.size : Int) = wrap64 (-(s_.size : Int)) := (fun s_ h_ => by unfold wrap64; omega); rw [← z_ _ (by omega)]; rfl)) ?_
             with_reducible refine (dec_Cmp.calls kj107 t603 t604 t605 t606 t607 t608 t609 _ A151.out).mono ?_
             rintro e w170 ⟨rfl, hb⟩
             refine ⟨_, rfl, ?_⟩
             have n0_ := bb_ BK551 hb
             have n1_ := bb_ BK552 hb
             have n2_ := bb_ BK553 hb
             have n3_ := bb_ BK561 hb
             have n4_ := bb_ BK565 hb
             have n5_ := bb_ BK569 hb
             have n6_ := Aside0.mk (below_step (bl_ HB).out hb)
             clear BK551
             clear BK552
             clear BK553
             clear BK561
             clear BK565
             clear BK569
             clear HB
             have BK551 := n0_
             have BK552 := n1_
             have BK553 := n2_
             have BK561 := n3_
             have BK565 := n4_
             have BK569 := n5_
             have HB := n6_
             clear n0_ n1_ n2_ n3_ n4_ n5_ n6_
             (try clear hb)
             (try clear hb2)
             (try clear hk)
             (try clear hi)
             refine hK.out _ _ ⟨(blk_cell BK561.out 0).trans rfl, (blk_cell BK561.out 1).trans rfl, (blk_cell BK561.out 2).trans rfl, (blk_cell BK565.out 0).trans rfl, (blk_cell BK565.out 1).trans rfl, (blk_cell BK565.out 2).trans rfl⟩ (fun hHeld => ?_)
             clear hK K
             refine norm_ (a' := ?_) ?_ ?_
             rotate_left
             ·show Act.put _ (some 98) _ = _
              simp only [Act.put, List.setIfInBounds_toArray, List.set_cons_zero, List.set_cons_succ, i64_w, i32_w]
              rfl
             refine pu_ 6 100 (bm_ 28 127) HT_ ?_
             refine pu_ 7 101 (bm_ 28 255) HT_ ?_
             refine tk_ 8 102 (bm_ 28 511) HT_ HW_ hHeld rfl (by rintro w' ⟨s0, s1, s2, s3, s4, s5⟩; go_simp; with_reducible rfl) ?_
             refine tk_ 11 105 (bm_ 28 2559) HT_ HW_ hHeld rfl (by rintro w' ⟨s0, s1, s2, s3, s4, s5⟩; go_simp; with_reducible rfl) ?_
             refine one_ (i := 9) (N := some 103) (bm_ 28 3071) rfl rfl (one_of HT_.out (by kernel_rfl)) (by decide) (fun K hK => ?_)
             refine goes_ Tryd.func34 (by kernel_rfl) rfl #[.agg #[.bool t558, .string t559, .int .i64 t560]] (by rfl) rfl rfl (by (try simp only [List.map_toArray, List.map_cons, List.map_nil]); first | done | rfl | (simp only [List.length_drop, List.length_take]; rfl) | (have z_ : ∀ s_ : ByteArray, s_.size ≤ 9223372036854775807 → -(s_.size : Int) = wrap64 (-(s_.size : Int)) := (fun s_ h_ => by unfold wrap64; omega); rw [← z_ _ (by omega)]; rfl)) ?_
             with_reducible refine (dec_Dec_Minus.calls kj107 t558 t559 t560 t610 t611 t612 _ A153.out).mono ?_
             rintro e w171 ⟨rfl, hb⟩
             refine ⟨_, rfl, ?_⟩
             have n0_ := bb_ BK551 hb
             have n1_ := bb_ BK552 hb
             have n2_ := bb_ BK553 hb
             have n3_ := bb_ BK561 hb
             have n4_ := bb_ BK565 hb
             have n5_ := bb_ BK569 hb
             have n6_ := Aside0.mk (below_step (bl_ HB).out hb)
             clear BK551
             clear BK552
             clear BK553
             clear BK561
             clear BK565
             clear BK569
             clear HB
             have BK551 := n0_
             have BK552 := n1_
             have BK553 := n2_
             have BK561 := n3_
             have BK565 := n4_
             have BK569 := n5_
             have HB := n6_
             clear n0_ n1_ n2_ n3_ n4_ n5_ n6_
             (try clear hb)
             (try clear hb2)
             (try clear hk)
             (try clear hi)
             refine hK.out _ _ ⟨(blk_cell BK561.out 0).trans rfl, (blk_cell BK561.out 1).trans rfl, (blk_cell BK561.out 2).trans rfl, (blk_cell BK565.out 0).trans rfl, (blk_cell BK565.out 1).trans rfl, (blk_cell BK565.out 2).trans rfl⟩ (fun hHeld => ?_)
             clear hK K
             refine norm_ (a' := ?_) ?_ ?_
             rotate_left
             ·show Act.put _ (some 103) _ = _
              simp only [Act.put, List.setIfInBounds_toArray, List.set_cons_zero, List.set_cons_succ, i64_w, i32_w]
              rfl
             refine one_ (i := 10) (N := some 104) (bm_ 28 4095) rfl rfl (one_of HT_.out (by kernel_rfl)) (by decide) (fun K hK => ?_)
             refine goes_ Tryd.func34 (by kernel_rfl) rfl #[.agg #[.bool t610, .string t611, .int .i64 t612]] (by rfl) rfl rfl (by (try simp only [List.map_toArray, List.map_cons, List.map_nil]); first | done | rfl | (simp only [List.length_drop, List.length_take]; rfl) | (have z_ : ∀ s_ : ByteArray, s_.size ≤ 9223372036854775807 → -(s_.size : Int) = wrap64 (-(s_.size : Int)) := (fun s_ h_ => by unfold wrap64; omega); rw [← z_ _ (by omega)]; rfl)) ?_
             with_reducible refine (dec_Dec_Minus.calls kj107 t610 t611 t612 t613 t614 t615 _ A154.out).mono ?_
             rintro e w172 ⟨rfl, hb⟩
             refine ⟨_, rfl, ?_⟩
             have n0_ := bb_ BK551 hb
             have n1_ := bb_ BK552 hb
             have n2_ := bb_ BK553 hb
             have n3_ := bb_ BK561 hb
             have n4_ := bb_ BK565 hb
             have n5_ := bb_ BK569 hb
             have n6_ := Aside0.mk (below_step (bl_ HB).out hb)
             clear BK551
             clear BK552
             clear BK553
             clear BK561
             clear BK565
             clear BK569
             clear HB
             have BK551 := n0_
             have BK552 := n1_
             have BK553 := n2_
             have BK561 := n3_
             have BK565 := n4_
             have BK569 := n5_
             have HB := n6_
             clear n0_ n1_ n2_ n3_ n4_ n5_ n6_
             (try clear hb)
             (try clear hb2)
             (try clear hk)
             (try clear hi)
             refine hK.out _ _ ⟨(blk_cell BK561.out 0).trans rfl, (blk_cell BK561.out 1).trans rfl, (blk_cell BK561.out 2).trans rfl, (blk_cell BK565.out 0).trans rfl, (blk_cell BK565.out 1).trans rfl, (blk_cell BK565.out 2).trans rfl⟩ (fun hHeld => ?_)
             clear hK K
             refine norm_ (a' := ?_) ?_ ?_
             rotate_left
             ·show Act.put _ (some 104) _ = _
              simp only [Act.put, List.setIfInBounds_toArray, List.set_cons_zero, List.set_cons_succ, i64_w, i32_w]
              rfl
             refine one_ (i := 12) (N := some 106) (bm_ 28 8191) rfl rfl (one_of HT_.out (by kernel_rfl)) (by decide) (fun K hK => ?_)
             refine goes_ Tryd.func19 (by kernel_rfl) rfl #[.agg #[.bool t558, .string t559, .int .i64 t560]] (by rfl) rfl rfl (by (try simp only [List.map_toArray, List.map_cons, List.map_nil]); first | done | rfl | (simp only [List.length_drop, List.length_take]; rfl) | (have z_ : ∀ s_ : ByteArray, s_.size ≤ 9223372036854775807 → -(s_.size : Int) = wrap64 (-(s_.size : Int)) := (fun s_ h_ => by unfold wrap64; omega); rw [← z_ _ (by omega)]; rfl)) ?_
             with_reducible refine (dec_Dec_Norm.calls kj107 t558 t559 t560 t616 t617 t618 _ A155.out).mono ?_
             rintro e w173 ⟨rfl, hb⟩
             refine ⟨_, rfl, ?_⟩
             have n0_ := bb_ BK551 hb
             have n1_ := bb_ BK552 hb
             have n2_ := bb_ BK553 hb
             have n3_ := bb_ BK561 hb
             have n4_ := bb_ BK565 hb
             have n5_ := bb_ BK569 hb
             have n6_ := Aside0.mk (below_step (bl_ HB).out hb)
             clear BK551
             clear BK552
             clear BK553
             clear BK561
             clear BK565
             clear BK569
             clear HB
             have BK551 := n0_
             have BK552 := n1_
             have BK553 := n2_
             have BK561 := n3_
             have BK565 := n4_
             have BK569 := n5_
             have HB := n6_
             clear n0_ n1_ n2_ n3_ n4_ n5_ n6_
             (try clear hb)
             (try clear hb2)
             (try clear hk)
             (try clear hi)
             refine hK.out _ _ ⟨(blk_cell BK561.out 0).trans rfl, (blk_cell BK561.out 1).trans rfl, (blk_cell BK561.out 2).trans rfl, (blk_cell BK565.out 0).trans rfl, (blk_cell BK565.out 1).trans rfl, (blk_cell BK565.out 2).trans rfl⟩ (fun hHeld => ?_)
             clear hK K
             refine norm_ (a' := ?_) ?_ ?_
             rotate_left
             ·show Act.put _ (some 106) _ = _
              simp only [Act.put, List.setIfInBounds_toArray, List.set_cons_zero, List.set_cons_succ, i64_w, i32_w]
              rfl
             refine pu_ 13 107 (bm_ 28 16383) HT_ ?_
             refine pu_ 14 108 (bm_ 28 32767) HT_ ?_
             refine pu_ 15 109 (bm_ 28 65535) HT_ ?_
             refine pu_ 18 112 (bm_ 28 327679) HT_ ?_
             refine tk_ 16 110 (bm_ 28 393215) HT_ HW_ hHeld rfl (by rintro w' ⟨s0, s1, s2, s3, s4, s5⟩; go_simp; with_reducible rfl) ?_
             refine tk_ 20 114 (bm_ 28 1441791) HT_ HW_ hHeld rfl (by rintro w' ⟨s0, s1, s2, s3, s4, s5⟩; go_simp; with_reducible rfl) ?_
             refine one_ (i := 17) (N := some 111) (bm_ 28 1572863) rfl rfl (one_of HT_.out (by kernel_rfl)) (by decide) (fun K hK => ?_)
             refine goes_ Tryd.func38 (by kernel_rfl) rfl #[.agg #[.bool t558, .string t559, .int .i64 t560]] (by rfl) rfl rfl (by (try simp only [List.map_toArray, List.map_cons, List.map_nil]); first | done | rfl | (simp only [List.length_drop, List.length_take]; rfl) | (have z_ : ∀ s_ : ByteArray, s_.size ≤ 9223372036854775807 → -(s_.size : Int) = wrap64 (-(s_.size : Int)) := (fun s_ h_ => by unfold wrap64; omega); rw [← z_ _ (by omega)]; rfl)) ?_
             with_reducible refine (dec_Dec_Abs.calls kj107 t558 t559 t560 t619 t620 t621 _ A157.out).mono ?_
             rintro e w174 ⟨rfl, hb⟩
             refine ⟨_, rfl, ?_⟩
             have n0_ := bb_ BK551 hb
             have n1_ := bb_ BK552 hb
             have n2_ := bb_ BK553 hb
             have n3_ := bb_ BK561 hb
             have n4_ := bb_ BK565 hb
             have n5_ := bb_ BK569 hb
             have n6_ := Aside0.mk (below_step (bl_ HB).out hb)
             clear BK551
             clear BK552
             clear BK553
             clear BK561
             clear BK565
             clear BK569
             clear HB
             have BK551 := n0_
             have BK552 := n1_
             have BK553 := n2_
             have BK561 := n3_
             have BK565 := n4_
             have BK569 := n5_
             have HB := n6_
             clear n0_ n1_ n2_ n3_ n4_ n5_ n6_
             (try clear hb)
             (try clear hb2)
             (try clear hk)
             (try clear hi)
             refine hK.out _ _ ⟨(blk_cell BK561.out 0).trans rfl, (blk_cell BK561.out 1).trans rfl, (blk_cell BK561.out 2).trans rfl, (blk_cell BK565.out 0).trans rfl, (blk_cell BK565.out 1).trans rfl, (blk_cell BK565.out 2).trans rfl⟩ (fun hHeld => ?_)
             clear hK K
             refine norm_ (a' := ?_) ?_ ?_
             rotate_left
             ·show Act.put _ (some 111) _ = _
              simp only [Act.put, List.setIfInBounds_toArray, List.set_cons_zero, List.set_cons_succ, i64_w, i32_w]
              rfl
             refine one_ (i := 19) (N := some 113) (bm_ 28 2097151) rfl rfl (one_of HT_.out (by kernel_rfl)) (by decide) (fun K hK => ?_)
             refine goes_ Tryd.func37 (by kernel_rfl) rfl #[.agg #[.bool t619, .string t620, .int .i64 t621], .agg #[.bool false, .string (⟨#[]⟩ : ByteArray), .int .i64 0]] (by rfl) rfl rfl (by (try simp only [List.map_toArray, List.map_cons, List.map_nil]); first | done | rfl | (simp only [List.length_drop, List.length_take]; rfl) | (have z_ : ∀ s_ : ByteArray, s_.size ≤ 9223372036854775807 → -(s_.size : Int) = wrap64 (-(s_.size : Int)) := (fun s_ h_ => by unfold wrap64; omega); rw [← z_ _ (by omega)]; rfl)) ?_
             with_reducible refine (dec_Cmp.calls kj107 t619 t620 t621 false (⟨#[]⟩ : ByteArray) 0 t622 _ A158.out).mono ?_
             rintro e w175 ⟨rfl, hb⟩
             refine ⟨_, rfl, ?_⟩
             have n0_ := bb_ BK551 hb
             have n1_ := bb_ BK552 hb
             have n2_ := bb_ BK553 hb
             have n3_ := bb_ BK561 hb
             have n4_ := bb_ BK565 hb
             have n5_ := bb_ BK569 hb
             have n6_ := Aside0.mk (below_step (bl_ HB).out hb)
             clear BK551
             clear BK552
             clear BK553
             clear BK561
             clear BK565
             clear BK569
             clear HB
             have BK551 := n0_
             have BK552 := n1_
             have BK553 := n2_
             have BK561 := n3_
             have BK565 := n4_
             have BK569 := n5_
             have HB := n6_
             clear n0_ n1_ n2_ n3_ n4_ n5_ n6_
             (try clear hb)
             (try clear hb2)
             (try clear hk)
             (try clear hi)
             refine hK.out _ _ ⟨(blk_cell BK561.out 0).trans rfl, (blk_cell BK561.out 1).trans rfl, (blk_cell BK561.out 2).trans rfl, (blk_cell BK565.out 0).trans rfl, (blk_cell BK565.out 1).trans rfl, (blk_cell BK565.out 2).trans rfl⟩ (fun hHeld => ?_)
             clear hK K
             refine norm_ (a' := ?_) ?_ ?_
             rotate_left
             ·show Act.put _ (some 113) _ = _
              simp only [Act.put, List.setIfInBounds_toArray, List.set_cons_zero, List.set_cons_succ, i64_w, i32_w]
              rfl
             refine one_ (i := 21) (N := some 115) (bm_ 28 4194303) rfl rfl (one_of HT_.out (by kernel_rfl)) (by decide) (fun K hK => ?_)
             refine goes_ Tryd.func19 (by kernel_rfl) rfl #[.agg #[.bool t558, .string t559, .int .i64 t560]] (by rfl) rfl rfl (by (try simp only [List.map_toArray, List.map_cons, List.map_nil]); first | done | rfl | (simp only [List.length_drop, List.length_take]; rfl) | (have z_ : ∀ s_ : ByteArray, s_.size ≤ 9223372036854775807 → -(s_.size : Int) = wrap64 (-(s_.size : Int)) := (fun s_ h_ => by unfold wrap64; omega); rw [← z_ _ (by omega)]; rfl)) ?_
             with_reducible refine (dec_Dec_Norm.calls kj107 t558 t559 t560 t623 t624 t625 _ A159.out).mono ?_
             rintro e w176 ⟨rfl, hb⟩
             refine ⟨_, rfl, ?_⟩
             have n0_ := bb_ BK551 hb
             have n1_ := bb_ BK552 hb
             have n2_ := bb_ BK553 hb
             have n3_ := bb_ BK561 hb
             have n4_ := bb_ BK565 hb
             have n5_ := bb_ BK569 hb
             have n6_ := Aside0.mk (below_step (bl_ HB).out hb)
             clear BK551
             clear BK552
             clear BK553
             clear BK561
             clear BK565
             clear BK569
             clear HB
             have BK551 := n0_
             have BK552 := n1_
             have BK553 := n2_
             have BK561 := n3_
             have BK565 := n4_
             have BK569 := n5_
             have HB := n6_
             clear n0_ n1_ n2_ n3_ n4_ n5_ n6_
             (try clear hb)
             (try clear hb2)
             (try clear hk)
             (try clear hi)
             refine hK.out _ _ ⟨(blk_cell BK561.out 0).trans rfl, (blk_cell BK561.out 1).trans rfl, (blk_cell BK561.out 2).trans rfl, (blk_cell BK565.out 0).trans rfl, (blk_cell BK565.out 1).trans rfl, (blk_cell BK565.out 2).trans rfl⟩ (fun hHeld => ?_)
             clear hK K
             refine norm_ (a' := ?_) ?_ ?_
             rotate_left
             ·show Act.put _ (some 115) _ = _
              simp only [Act.put, List.setIfInBounds_toArray, List.set_cons_zero, List.set_cons_succ, i64_w, i32_w]
              rfl
             refine pure_ (i := 22) (N := some 116) (v := ?_) (a' := ?_) (bm_ 28 8388607) rfl rfl (any_of HT_.out (by kernel_rfl)) (fun _ _ _ h => h) (Or.inl ⟨by rfl, ?_⟩) ?_ ?_
             rotate_left
             ·intro w'
              go_simp
              first | with_reducible rfl | (refine (fld_ (by assumption) rfl (by kernel_rfl) (by simp <;> rfl)).trans ?_; with_reducible rfl)
             rotate_left; ·simp only [Act.put, List.setIfInBounds_toArray, List.set_cons_zero, List.set_cons_succ, i64_w, i32_w]; rfl
             refine pu_ 23 117 (bm_ 28 16777215) HT_ ?_
             refine pu_ 24 118 (bm_ 28 33554431) HT_ ?_
             refine pu_ 25 119 (bm_ 28 67108863) HT_ ?_
             refine pu_ 26 120 (bm_ 28 134217727) HT_ ?_
             refine pu_ 27 6 (bm_ 28 268435455) HT_ ?_
             refine done_ (done_of HT_.out (by kernel_rfl)) ?_
             try go_wp2
             go_ret
             exact ⟨by first | rfl | (simp [errW_none, errW_some] <;> rfl) | (simp only [← hji160]; first | rfl | (simp [errW_none, errW_some] <;> rfl)) | (simp [*, errW_none, errW_some] <;> first | rfl | exact given_isEmpty _ | exact (given_isEmpty _).symm), by repeat (first | (with_reducible first | exact HB.out | apply below_alloc | apply pw_below_drewN | apply below_drew1 | refine below_set ?_ GE551.out | refine below_set ?_ GE552.out | refine below_set ?_ GE553.out | refine below_set ?_ GE561.out | refine below_set ?_ GE565.out | refine below_set ?_ GE569.out) | exact HB.out)⟩
            ·rw [if_neg c156] at H
             have c156b0 : (t613 == t616 && (t614.toList == t617.toList && (t615 == t618))) = false := by simpa using c156
             (try (have c156b1 : decide (t613 = t616 && (t614.toList == t617.toList && (t615 == t618))) = false := by simpa using c156))
             (try (have c156b2 : (t613 == t616 && (t614.toList == t617.toList && (t615 == t618))) = false := by simpa using c156))
             (try (have c156b3 : ¬ (t613 = t616 && (t614.toList == t617.toList && (t615 == t618))) := by simpa using c156))
             clear c156
             obtain rfl := Option.some.inj H
             try go_wp2
             have n0_ := Aside0.mk (blk_drew BK551.out)
             have n1_ := Aside0.mk (blk_drew BK552.out)
             have n2_ := Aside0.mk (blk_drew BK553.out)
             have n3_ := Aside0.mk (blk_drew BK561.out)
             have n4_ := Aside0.mk (blk_drew BK565.out)
             have n5_ := Aside0.mk (blk_drew BK569.out)
             have n6_ := Aside0.mk (below_drew1 HB.out)
             clear BK551
             clear BK552
             clear BK553
             clear BK561
             clear BK565
             clear BK569
             clear HB
             have BK551 := n0_
             have BK552 := n1_
             have BK553 := n2_
             have BK561 := n3_
             have BK565 := n4_
             have BK569 := n5_
             have HB := n6_
             clear n0_ n1_ n2_ n3_ n4_ n5_ n6_
             refine start_ (n := 8) (S := fun w' => w'.cell? ⟨gb561, 0, none⟩ = some (.bool t558) ∧ w'.cell? ⟨gb561, 1, none⟩ = some (.string t559) ∧ w'.cell? ⟨gb561, 2, none⟩ = some (.int .i64 t560) ∧ w'.cell? ⟨gb565, 0, none⟩ = some (.bool t562) ∧ w'.cell? ⟨gb565, 1, none⟩ = some (.string t563) ∧ w'.cell? ⟨gb565, 2, none⟩ = some (.int .i64 t564)) (ds := []) #[false, false, false, false, false, false, false, false] (by kernel_rfl) rfl rfl ⟨(blk_cell BK561.out 0).trans rfl, (blk_cell BK561.out 1).trans rfl, (blk_cell BK561.out 2).trans rfl, (blk_cell BK565.out 0).trans rfl, (blk_cell BK565.out 1).trans rfl, (blk_cell BK565.out 2).trans rfl⟩ (fun hHeld => ?_); refine with_tabW florinlaw02_DecOrders.tab13 florinlaw02_DecOrders.bits13 (fun HT_ HW_ => ?_)
             generalize wc.drew = w177 at BK551 BK552 BK553 BK561 BK565 BK569 HB hHeld ⊢
             refine tk_ 0 87 #[true, false, false, false, false, false, false, false] HT_ HW_ hHeld rfl (by rintro w' ⟨s0, s1, s2, s3, s4, s5⟩; go_simp; with_reducible rfl) ?_
             refine tk_ 3 90 #[true, false, false, true, false, false, false, false] HT_ HW_ hHeld rfl (by rintro w' ⟨s0, s1, s2, s3, s4, s5⟩; go_simp; with_reducible rfl) ?_
             refine one_ (i := 1) (N := some 88) #[true, true, false, true, false, false, false, false] rfl rfl (one_of HT_.out (by kernel_rfl)) (by decide) (fun K hK => ?_)
             refine goes_ Tryd.func38 (by kernel_rfl) rfl #[.agg #[.bool t558, .string t559, .int .i64 t560]] (by rfl) rfl rfl (by (try simp only [List.map_toArray, List.map_cons, List.map_nil]); first | done | rfl | (simp only [List.length_drop, List.length_take]; rfl) | (have z_ : ∀ s_ : ByteArray, s_.size ≤ 9223372036854775807 → -(s_.size : Int) = wrap64 (-(s_.size : Int)) := (fun s_ h_ => by unfold wrap64; omega); rw [← z_ _ (by omega)]; rfl)) ?_
             with_reducible refine (dec_Dec_Abs.calls kj107 t558 t559 t560 t594 t595 t596 _ A144.out).mono ?_
             rintro e w178 ⟨rfl, hb⟩
             refine ⟨_, rfl, ?_⟩
             have n0_ := bb_ BK551 hb
             have n1_ := bb_ BK552 hb
             have n2_ := bb_ BK553 hb
             have n3_ := bb_ BK561 hb
             have n4_ := bb_ BK565 hb
             have n5_ := bb_ BK569 hb
             have n6_ := Aside0.mk (below_step (bl_ HB).out hb)
             clear BK551
             clear BK552
             clear BK553
             clear BK561
             clear BK565
             clear BK569
             clear HB
             have BK551 := n0_
             have BK552 := n1_
             have BK553 := n2_
             have BK561 := n3_
             have BK565 := n4_
             have BK569 := n5_
             have HB := n6_
             clear n0_ n1_ n2_ n3_ n4_ n5_ n6_
             (try clear hb)
             (try clear hb2)
             (try clear hk)
             (try clear hi)
             refine hK.out _ _ ⟨(blk_cell BK561.out 0).trans rfl, (blk_cell BK561.out 1).trans rfl, (blk_cell BK561.out 2).trans rfl, (blk_cell BK565.out 0).trans rfl, (blk_cell BK565.out 1).trans rfl, (blk_cell BK565.out 2).trans rfl⟩ (fun hHeld => ?_)
             clear hK K
             refine norm_ (a' := ?_) ?_ ?_
             rotate_left
             ·show Act.put _ (some 88) _ = _
              simp only [Act.put, List.setIfInBounds_toArray, List.set_cons_zero, List.set_cons_succ, i64_w, i32_w]
              rfl
             refine one_ (i := 2) (N := some 89) #[true, true, true, true, false, false, false, false] rfl rfl (one_of HT_.out (by kernel_rfl)) (by decide) (fun K hK => ?_)
             refine goes_ Tryd.func31 (by kernel_rfl) rfl #[.agg #[.bool t594, .string t595, .int .i64 t596], .int .i64 50] (by rfl) rfl rfl (by (try simp only [List.map_toArray, List.map_cons, List.map_nil]); first | done | rfl | (simp only [List.length_drop, List.length_take]; rfl) | (have z_ : ∀ s_ : ByteArray, s_.size ≤ 9223372036854775807 → -(s_.size : Int) = wrap64 (-(s_.size : Int)) := (fun s_ h_ => by unfold wrap64; omega); rw [← z_ _ (by omega)]; rfl)) ?_
             with_reducible refine (florinlaw02_Places.calls kj107 t594 t595 t596 50 t597 _ A145.out).mono ?_
             rintro e w179 ⟨rfl, hb⟩
             refine ⟨_, rfl, ?_⟩
             have n0_ := bb_ BK551 hb
             have n1_ := bb_ BK552 hb
             have n2_ := bb_ BK553 hb
             have n3_ := bb_ BK561 hb
             have n4_ := bb_ BK565 hb
             have n5_ := bb_ BK569 hb
             have n6_ := Aside0.mk (below_step (bl_ HB).out hb)
             clear BK551
             clear BK552
             clear BK553
             clear BK561
             clear BK565
             clear BK569
             clear HB
             have BK551 := n0_
             have BK552 := n1_
             have BK553 := n2_
             have BK561 := n3_
             have BK565 := n4_
             have BK569 := n5_
             have HB := n6_
             clear n0_ n1_ n2_ n3_ n4_ n5_ n6_
             (try clear hb)
             (try clear hb2)
             (try clear hk)
             (try clear hi)
             refine hK.out _ _ ⟨(blk_cell BK561.out 0).trans rfl, (blk_cell BK561.out 1).trans rfl, (blk_cell BK561.out 2).trans rfl, (blk_cell BK565.out 0).trans rfl, (blk_cell BK565.out 1).trans rfl, (blk_cell BK565.out 2).trans rfl⟩ (fun hHeld => ?_)
             clear hK K
             refine norm_ (a' := ?_) ?_ ?_
             rotate_left
             ·show Act.put _ (some 89) _ = _
              simp only [Act.put, List.setIfInBounds_toArray, List.set_cons_zero, List.set_cons_succ, i64_w, i32_w]
              rfl
             refine one_ (i := 4) (N := some 91) #[true, true, true, true, true, false, false, false] rfl rfl (one_of HT_.out (by kernel_rfl)) (by decide) (fun K hK => ?_)
             refine goes_ Tryd.func38 (by kernel_rfl) rfl #[.agg #[.bool t562, .string t563, .int .i64 t564]] (by rfl) rfl rfl (by (try simp only [List.map_toArray, List.map_cons, List.map_nil]); first | done | rfl | (simp only [List.length_drop, List.length_take]; rfl) | (have z_ : ∀ s_ : ByteArray, s_.size ≤ 9223372036854775807 → -(s_.size : Int) = wrap64 (-(s_.size : Int)) := (fun s_ h_ => by unfold wrap64; omega); rw [← z_ _ (by omega)]; rfl)) ?_
             with_reducible refine (dec_Dec_Abs.calls kj107 t562 t563 t564 t598 t599 t600 _ A146.out).mono ?_
             rintro e w180 ⟨rfl, hb⟩
             refine ⟨_, rfl, ?_⟩
             have n0_ := bb_ BK551 hb
             have n1_ := bb_ BK552 hb
             have n2_ := bb_ BK553 hb
             have n3_ := bb_ BK561 hb
             have n4_ := bb_ BK565 hb
             have n5_ := bb_ BK569 hb
             have n6_ := Aside0.mk (below_step (bl_ HB).out hb)
             clear BK551
             clear BK552
             clear BK553
             clear BK561
             clear BK565
             clear BK569
             clear HB
             have BK551 := n0_
             have BK552 := n1_
             have BK553 := n2_
             have BK561 := n3_
             have BK565 := n4_
             have BK569 := n5_
             have HB := n6_
             clear n0_ n1_ n2_ n3_ n4_ n5_ n6_
             (try clear hb)
             (try clear hb2)
             (try clear hk)
             (try clear hi)
             refine hK.out _ _ ⟨(blk_cell BK561.out 0).trans rfl, (blk_cell BK561.out 1).trans rfl, (blk_cell BK561.out 2).trans rfl, (blk_cell BK565.out 0).trans rfl, (blk_cell BK565.out 1).trans rfl, (blk_cell BK565.out 2).trans rfl⟩ (fun hHeld => ?_)
             clear hK K
             refine norm_ (a' := ?_) ?_ ?_
             rotate_left
             ·show Act.put _ (some 91) _ = _
              simp only [Act.put, List.setIfInBounds_toArray, List.set_cons_zero, List.set_cons_succ, i64_w, i32_w]
              rfl
             refine one_ (i := 5) (N := some 92) #[true, true, true, true, true, true, false, false] rfl rfl (one_of HT_.out (by kernel_rfl)) (by decide) (fun K hK => ?_)
             refine goes_ Tryd.func31 (by kernel_rfl) rfl #[.agg #[.bool t598, .string t599, .int .i64 t600], .int .i64 50] (by rfl) rfl rfl (by (try simp only [List.map_toArray, List.map_cons, List.map_nil]); first | done | rfl | (simp only [List.length_drop, List.length_take]; rfl) | (have z_ : ∀ s_ : ByteArray, s_.size ≤ 9223372036854775807 → -(s_.size : Int) = wrap64 (-(s_.size : Int)) := (fun s_ h_ => by unfold wrap64; omega); rw [← z_ _ (by omega)]; rfl)) ?_
             with_reducible refine (florinlaw02_Places.calls kj107 t598 t599 t600 50 t601 _ A147.out).mono ?_
             rintro e w181 ⟨rfl, hb⟩
             refine ⟨_, rfl, ?_⟩
             have n0_ := bb_ BK551 hb
             have n1_ := bb_ BK552 hb
             have n2_ := bb_ BK553 hb
             have n3_ := bb_ BK561 hb
             have n4_ := bb_ BK565 hb
             have n5_ := bb_ BK569 hb
             have n6_ := Aside0.mk (below_step (bl_ HB).out hb)
             clear BK551
             clear BK552
             clear BK553
             clear BK561
             clear BK565
             clear BK569
             clear HB
             have BK551 := n0_
             have BK552 := n1_
             have BK553 := n2_
             have BK561 := n3_
             have BK565 := n4_
             have BK569 := n5_
             have HB := n6_
             clear n0_ n1_ n2_ n3_ n4_ n5_ n6_
             (try clear hb)
             (try clear hb2)
             (try clear hk)
             (try clear hi)
             refine hK.out _ _ ⟨(blk_cell BK561.out 0).trans rfl, (blk_cell BK561.out 1).trans rfl, (blk_cell BK561.out 2).trans rfl, (blk_cell BK565.out 0).trans rfl, (blk_cell BK565.out 1).trans rfl, (blk_cell BK565.out 2).trans rfl⟩ (fun hHeld => ?_)
             clear hK K
             refine norm_ (a' := ?_) ?_ ?_
             rotate_left
             ·show Act.put _ (some 92) _ = _
              simp only [Act.put, List.setIfInBounds_toArray, List.set_cons_zero, List.set_cons_succ, i64_w, i32_w]
              rfl
             refine one_ (i := 6) (N := some 93) #[true, true, true, true, true, true, true, false] rfl rfl (one_of HT_.out (by kernel_rfl)) (by decide) (fun K hK => ?_)
             refine goes_ Tryd.func30 (by kernel_rfl) rfl #[.string t597, .string t601] (by rfl) rfl rfl (by (try simp only [List.map_toArray, List.map_cons, List.map_nil]); first | done | rfl | (simp only [List.length_drop, List.length_take]; rfl) | (have z_ : ∀ s_ : ByteArray, s_.size ≤ 9223372036854775807 → -(s_.size : Int) = wrap64 (-(s_.size : Int)) := (fun s_ h_ => by unfold wrap64; omega); rw [← z_ _ (by omega)]; rfl)) ?_
             with_reducible refine (num_Cmp.calls kj107 t597 t601 t602 _ A148.out).mono ?_
             rintro e w182 ⟨rfl, hb⟩
             refine ⟨_, rfl, ?_⟩
             have n0_ := bb_ BK551 hb
             have n1_ := bb_ BK552 hb
             have n2_ := bb_ BK553 hb
             have n3_ := bb_ BK561 hb
             have n4_ := bb_ BK565 hb
             have n5_ := bb_ BK569 hb
             have n6_ := Aside0.mk (below_step (bl_ HB).out hb)
             clear BK551
             clear BK552
             clear BK553
             clear BK561
             clear BK565
             clear BK569
             clear HB
             have BK551 := n0_
             have BK552 := n1_
             have BK553 := n2_
             have BK561 := n3_
             have BK565 := n4_
             have BK569 := n5_
             have HB := n6_
             clear n0_ n1_ n2_ n3_ n4_ n5_ n6_
             (try clear hb)
             (try clear hb2)
             (try clear hk)
             (try clear hi)
             refine hK.out _ _ ⟨(blk_cell BK561.out 0).trans rfl, (blk_cell BK561.out 1).trans rfl, (blk_cell BK561.out 2).trans rfl, (blk_cell BK565.out 0).trans rfl, (blk_cell BK565.out 1).trans rfl, (blk_cell BK565.out 2).trans rfl⟩ (fun hHeld => ?_)
             clear hK K
             refine norm_ (a' := ?_) ?_ ?_
             rotate_left
             ·show Act.put _ (some 93) _ = _
              simp only [Act.put, List.setIfInBounds_toArray, List.set_cons_zero, List.set_cons_succ, i64_w, i32_w]
              rfl
             refine pu_ 7 11 #[true, true, true, true, true, true, true, true] HT_ ?_
             refine done_ (done_of HT_.out (by kernel_rfl)) ?_
             try go_wp2
             have n0_ := Aside0.mk (blk_drew BK551.out)
             have n1_ := Aside0.mk (blk_drew BK552.out)
             have n2_ := Aside0.mk (blk_drew BK553.out)
             have n3_ := Aside0.mk (blk_drew BK561.out)
             have n4_ := Aside0.mk (blk_drew BK565.out)
             have n5_ := Aside0.mk (blk_drew BK569.out)
             have n6_ := Aside0.mk (below_drew1 HB.out)
             clear BK551
             clear BK552
             clear BK553
             clear BK561
             clear BK565
             clear BK569
             clear HB
             have BK551 := n0_
             have BK552 := n1_
             have BK553 := n2_
             have BK561 := n3_
             have BK565 := n4_
             have BK569 := n5_
             have HB := n6_
             clear n0_ n1_ n2_ n3_ n4_ n5_ n6_
             refine start_ (n := 28) (S := fun w' => w'.cell? ⟨gb561, 0, none⟩ = some (.bool t558) ∧ w'.cell? ⟨gb561, 1, none⟩ = some (.string t559) ∧ w'.cell? ⟨gb561, 2, none⟩ = some (.int .i64 t560) ∧ w'.cell? ⟨gb565, 0, none⟩ = some (.bool t562) ∧ w'.cell? ⟨gb565, 1, none⟩ = some (.string t563) ∧ w'.cell? ⟨gb565, 2, none⟩ = some (.int .i64 t564)) (ds := []) #[false, false, false, false, false, false, false, false, false, false, false, false, false, false, false, false, false, false, false, false, false, false, false, false, false, false, false, false] (by kernel_rfl) rfl rfl ⟨(blk_cell BK561.out 0).trans rfl, (blk_cell BK561.out 1).trans rfl, (blk_cell BK561.out 2).trans rfl, (blk_cell BK565.out 0).trans rfl, (blk_cell BK565.out 1).trans rfl, (blk_cell BK565.out 2).trans rfl⟩ (fun hHeld => ?_); refine with_tabW florinlaw02_DecOrders.tab14 florinlaw02_DecOrders.bits14 (fun HT_ HW_ => ?_)
             generalize w182.drew = w183 at BK551 BK552 BK553 BK561 BK565 BK569 HB hHeld ⊢
             refine pu_ 5 99 (bm_ 28 32) HT_ ?_
             refine tk_ 0 94 (bm_ 28 33) HT_ HW_ hHeld rfl (by rintro w' ⟨s0, s1, s2, s3, s4, s5⟩; go_simp; with_reducible rfl) ?_
             refine tk_ 2 96 (bm_ 28 37) HT_ HW_ hHeld rfl (by rintro w' ⟨s0, s1, s2, s3, s4, s5⟩; go_simp; with_reducible rfl) ?_
             refine one_ (i := 1) (N := some 95) (bm_ 28 39) rfl rfl (one_of HT_.out (by kernel_rfl)) (by decide) (fun K hK => ?_)
             refine goes_ Tryd.func38 (by kernel_rfl) rfl #[.agg #[.bool t558, .string t559, .int .i64 t560]] (by rfl) rfl rfl (by (try simp only [List.map_toArray, List.map_cons, List.map_nil]); first | done | rfl | (simp only [List.length_drop, List.length_take]; rfl) | (have z_ : ∀ s_ : ByteArray, s_.size ≤ 9223372036854775807 → -(s_.size : Int) = wrap64 (-(s_.size : Int)) := (fun s_ h_ => by unfold wrap64; omega); rw [← z_ _ (by omega)]; rfl)) ?_
             with_reducible refine (dec_Dec_Abs.calls kj107 t558 t559 t560 t603 t604 t605 _ A149.out).mono ?_
             rintro e w184 ⟨rfl, hb⟩
             refine ⟨_, rfl, ?_⟩
             have n0_ := bb_ BK551 hb
             have n1_ := bb_ BK552 hb
             have n2_ := bb_ BK553 hb
             have n3_ := bb_ BK561 hb
             have n4_ := bb_ BK565 hb
             have n5_ := bb_ BK569 hb
             have n6_ := Aside0.mk (below_step (bl_ HB).out hb)
             clear BK551
             clear BK552
             clear BK553
             clear BK561
             clear BK565
             clear BK569
             clear HB
             have BK551 := n0_
             have BK552 := n1_
             have BK553 := n2_
             have BK561 := n3_
             have BK565 := n4_
             have BK569 := n5_
             have HB := n6_
             clear n0_ n1_ n2_ n3_ n4_ n5_ n6_
             (try clear hb)
             (try clear hb2)
             (try clear hk)
             (try clear hi)
             refine hK.out _ _ ⟨(blk_cell BK561.out 0).trans rfl, (blk_cell BK561.out 1).trans rfl, (blk_cell BK561.out 2).trans rfl, (blk_cell BK565.out 0).trans rfl, (blk_cell BK565.out 1).trans rfl, (blk_cell BK565.out 2).trans rfl⟩ (fun hHeld => ?_)
             clear hK K
             refine norm_ (a' := ?_) ?_ ?_
             rotate_left
             ·show Act.put _ (some 95) _ = _
              simp only [Act.put, List.setIfInBounds_toArray, List.set_cons_zero, List.set_cons_succ, i64_w, i32_w]
              rfl
             refine one_ (i := 3) (N := some 97) (bm_ 28 47) rfl rfl (one_of HT_.out (by kernel_rfl)) (by decide) (fun K hK => ?_)
             refine goes_ Tryd.func38 (by kernel_rfl) rfl #[.agg #[.bool t562, .string t563, .int .i64 t564]] (by rfl) rfl rfl (by (try simp only [List.map_toArray, List.map_cons, List.map_nil]); first | done | rfl | (simp only [List.length_drop, List.length_take]; rfl) | (have z_ : ∀ s_ : ByteArray, s_.size ≤ 9223372036854775807 → -(s_.size : Int) = wrap64 (-(s_.size : Int)) := (fun s_ h_ => by unfold wrap64; omega); rw [← z_ _ (by omega)]; rfl)) ?_
             with_reducible refine (dec_Dec_Abs.calls kj107 t562 t563 t564 t606 t607 t608 _ A150.out).mono ?_
             rintro e w185 ⟨rfl, hb⟩
             refine ⟨_, rfl, ?_⟩
             have n0_ := bb_ BK551 hb
             have n1_ := bb_ BK552 hb
             have n2_ := bb_ BK553 hb
             have n3_ := bb_ BK561 hb
             have n4_ := bb_ BK565 hb
             have n5_ := bb_ BK569 hb
             have n6_ := Aside0.mk (below_step (bl_ HB).out hb)
             clear BK551
             clear BK552
             clear BK553
             clear BK561
             clear BK565
             clear BK569
             clear HB
             have BK551 := n0_
             have BK552 := n1_
             have BK553 := n2_
             have BK561 := n3_
             have BK565 := n4_
             have BK569 := n5_
             have HB := n6_
             clear n0_ n1_ n2_ n3_ n4_ n5_ n6_
             (try clear hb)
             (try clear hb2)
             (try clear hk)
             (try clear hi)
             refine hK.out _ _ ⟨(blk_cell BK561.out 0).trans rfl, (blk_cell BK561.out 1).trans rfl, (blk_cell BK561.out 2).trans rfl, (blk_cell BK565.out 0).trans rfl, (blk_cell BK565.out 1).trans rfl, (blk_cell BK565.out 2).trans rfl⟩ (fun hHeld => ?_)
             clear hK K
             refine norm_ (a' := ?_) ?_ ?_
             rotate_left
             ·show Act.put _ (some 97) _ = _
              simp only [Act.put, List.setIfInBounds_toArray, List.set_cons_zero, List.set_cons_succ, i64_w, i32_w]
              rfl
             refine one_ (i := 4) (N := some 98) (bm_ 28 63) rfl rfl (one_of HT_.out (by kernel_rfl)) (by decide) (fun K hK => ?_)
             refine goes_ Tryd.func37 (by kernel_rfl) rfl #[.agg #[.bool t603, .string t604, .int .i64 t605], .agg #[.bool t606, .string t607, .int .i64 t608]] (by rfl) rfl rfl (by (try simp only [List.map_toArray, List.map_cons, List.map_nil]); first | done | rfl | (simp only [List.length_drop, List.length_take]; rfl) | (have z_ : ∀ s_ : ByteArray, s_.size ≤ 9223372036854775807 → -(s_.size : Int) = wrap64 (-(s_.size : Int)) := (fun s_ h_ => by unfold wrap64; omega); rw [← z_ _ (by omega)]; rfl)) ?_
             with_reducible refine (dec_Cmp.calls kj107 t603 t604 t605 t606 t607 t608 t609 _ A151.out).mono ?_
             rintro e w186 ⟨rfl, hb⟩
             refine ⟨_, rfl, ?_⟩
             have n0_ := bb_ BK551 hb
             have n1_ := bb_ BK552 hb
             have n2_ := bb_ BK553 hb
             have n3_ := bb_ BK561 hb
             have n4_ := bb_ BK565 hb
             have n5_ := bb_ BK569 hb
             have n6_ := Aside0.mk (below_step (bl_ HB).out hb)
             clear BK551
             clear BK552
             clear BK553
             clear BK561
             clear BK565
             clear BK569
             clear HB
             have BK551 := n0_
             have BK552 := n1_
             have BK553 := n2_
             have BK561 := n3_
             have BK565 := n4_
             have BK569 := n5_
             have HB := n6_
             clear n0_ n1_ n2_ n3_ n4_ n5_ n6_
             (try clear hb)
             (try clear hb2)
             (try clear hk)
             (try clear hi)
             refine hK.out _ _ ⟨(blk_cell BK561.out 0).trans rfl, (blk_cell BK561.out 1).trans rfl, (blk_cell BK561.out 2).trans rfl, (blk_cell BK565.out 0).trans rfl, (blk_cell BK565.out 1).trans rfl, (blk_cell BK565.out 2).trans rfl⟩ (fun hHeld => ?_)
             clear hK K
             refine norm_ (a' := ?_) ?_ ?_
             rotate_left
             ·show Act.put _ (some 98) _ = _
              simp only [Act.put, List.setIfInBounds_toArray, List.set_cons_zero, List.set_cons_succ, i64_w, i32_w]
              rfl
             refine pu_ 6 100 (bm_ 28 127) HT_ ?_
             refine pu_ 7 101 (bm_ 28 255) HT_ ?_
             refine tk_ 8 102 (bm_ 28 511) HT_ HW_ hHeld rfl (by rintro w' ⟨s0, s1, s2, s3, s4, s5⟩; go_simp; with_reducible rfl) ?_
             refine tk_ 11 105 (bm_ 28 2559) HT_ HW_ hHeld rfl (by rintro w' ⟨s0, s1, s2, s3, s4, s5⟩; go_simp; with_reducible rfl) ?_
             refine one_ (i := 9) (N := some 103) (bm_ 28 3071) rfl rfl (one_of HT_.out (by kernel_rfl)) (by decide) (fun K hK => ?_)
             refine goes_ Tryd.func34 (by kernel_rfl) rfl #[.agg #[.bool t558, .string t559, .int .i64 t560]] (by rfl) rfl rfl (by (try simp only [List.map_toArray, List.map_cons, List.map_nil]); first | done | rfl | (simp only [List.length_drop, List.length_take]; rfl) | (have z_ : ∀ s_ : ByteArray, s_.size ≤ 9223372036854775807 → -(s_.size : Int) = wrap64 (-(s_.size : Int)) := (fun s_ h_ => by unfold wrap64; omega); rw [← z_ _ (by omega)]; rfl)) ?_
             with_reducible refine (dec_Dec_Minus.calls kj107 t558 t559 t560 t610 t611 t612 _ A153.out).mono ?_
             rintro e w187 ⟨rfl, hb⟩
             refine ⟨_, rfl, ?_⟩
             have n0_ := bb_ BK551 hb
             have n1_ := bb_ BK552 hb
             have n2_ := bb_ BK553 hb
             have n3_ := bb_ BK561 hb
             have n4_ := bb_ BK565 hb
             have n5_ := bb_ BK569 hb
             have n6_ := Aside0.mk (below_step (bl_ HB).out hb)
             clear BK551
             clear BK552
             clear BK553
             clear BK561
             clear BK565
             clear BK569
             clear HB
             have BK551 := n0_
             have BK552 := n1_
             have BK553 := n2_
             have BK561 := n3_
             have BK565 := n4_
             have BK569 := n5_
             have HB := n6_
             clear n0_ n1_ n2_ n3_ n4_ n5_ n6_
             (try clear hb)
             (try clear hb2)
             (try clear hk)
             (try clear hi)
             refine hK.out _ _ ⟨(blk_cell BK561.out 0).trans rfl, (blk_cell BK561.out 1).trans rfl, (blk_cell BK561.out 2).trans rfl, (blk_cell BK565.out 0).trans rfl, (blk_cell BK565.out 1).trans rfl, (blk_cell BK565.out 2).trans rfl⟩ (fun hHeld => ?_)
             clear hK K
             refine norm_ (a' := ?_) ?_ ?_
             rotate_left
             ·show Act.put _ (some 103) _ = _
              simp only [Act.put, List.setIfInBounds_toArray, List.set_cons_zero, List.set_cons_succ, i64_w, i32_w]
              rfl
             refine one_ (i := 10) (N := some 104) (bm_ 28 4095) rfl rfl (one_of HT_.out (by kernel_rfl)) (by decide) (fun K hK => ?_)
             refine goes_ Tryd.func34 (by kernel_rfl) rfl #[.agg #[.bool t610, .string t611, .int .i64 t612]] (by rfl) rfl rfl (by (try simp only [List.map_toArray, List.map_cons, List.map_nil]); first | done | rfl | (simp only [List.length_drop, List.length_take]; rfl) | (have z_ : ∀ s_ : ByteArray, s_.size ≤ 9223372036854775807 → -(s_.size : Int) = wrap64 (-(s_.size : Int)) := (fun s_ h_ => by unfold wrap64; omega); rw [← z_ _ (by omega)]; rfl)) ?_
             with_reducible refine (dec_Dec_Minus.calls kj107 t610 t611 t612 t613 t614 t615 _ A154.out).mono ?_
             rintro e w188 ⟨rfl, hb⟩
             refine ⟨_, rfl, ?_⟩
             have n0_ := bb_ BK551 hb
             have n1_ := bb_ BK552 hb
             have n2_ := bb_ BK553 hb
             have n3_ := bb_ BK561 hb
             have n4_ := bb_ BK565 hb
             have n5_ := bb_ BK569 hb
             have n6_ := Aside0.mk (below_step (bl_ HB).out hb)
             clear BK551
             clear BK552
             clear BK553
             clear BK561
             clear BK565
             clear BK569
             clear HB
             have BK551 := n0_
             have BK552 := n1_
             have BK553 := n2_
             have BK561 := n3_
             have BK565 := n4_
             have BK569 := n5_
             have HB := n6_
             clear n0_ n1_ n2_ n3_ n4_ n5_ n6_
             (try clear hb)
             (try clear hb2)
             (try clear hk)
             (try clear hi)
             refine hK.out _ _ ⟨(blk_cell BK561.out 0).trans rfl, (blk_cell BK561.out 1).trans rfl, (blk_cell BK561.out 2).trans rfl, (blk_cell BK565.out 0).trans rfl, (blk_cell BK565.out 1).trans rfl, (blk_cell BK565.out 2).trans rfl⟩ (fun hHeld => ?_)
             clear hK K
             refine norm_ (a' := ?_) ?_ ?_
             rotate_left
             ·show Act.put _ (some 104) _ = _
              simp only [Act.put, List.setIfInBounds_toArray, List.set_cons_zero, List.set_cons_succ, i64_w, i32_w]
              rfl
             refine one_ (i := 12) (N := some 106) (bm_ 28 8191) rfl rfl (one_of HT_.out (by kernel_rfl)) (by decide) (fun K hK => ?_)
             refine goes_ Tryd.func19 (by kernel_rfl) rfl #[.agg #[.bool t558, .string t559, .int .i64 t560]] (by rfl) rfl rfl (by (try simp only [List.map_toArray, List.map_cons, List.map_nil]); first | done | rfl | (simp only [List.length_drop, List.length_take]; rfl) | (have z_ : ∀ s_ : ByteArray, s_.size ≤ 9223372036854775807 → -(s_.size : Int) = wrap64 (-(s_.size : Int)) := (fun s_ h_ => by unfold wrap64; omega); rw [← z_ _ (by omega)]; rfl)) ?_
             with_reducible refine (dec_Dec_Norm.calls kj107 t558 t559 t560 t616 t617 t618 _ A155.out).mono ?_
             rintro e w189 ⟨rfl, hb⟩
             refine ⟨_, rfl, ?_⟩
             have n0_ := bb_ BK551 hb
             have n1_ := bb_ BK552 hb
             have n2_ := bb_ BK553 hb
             have n3_ := bb_ BK561 hb
             have n4_ := bb_ BK565 hb
             have n5_ := bb_ BK569 hb
             have n6_ := Aside0.mk (below_step (bl_ HB).out hb)
             clear BK551
             clear BK552
             clear BK553
             clear BK561
             clear BK565
             clear BK569
             clear HB
             have BK551 := n0_
             have BK552 := n1_
             have BK553 := n2_
             have BK561 := n3_
             have BK565 := n4_
             have BK569 := n5_
             have HB := n6_
             clear n0_ n1_ n2_ n3_ n4_ n5_ n6_
             (try clear hb)
             (try clear hb2)
             (try clear hk)
             (try clear hi)
             refine hK.out _ _ ⟨(blk_cell BK561.out 0).trans rfl, (blk_cell BK561.out 1).trans rfl, (blk_cell BK561.out 2).trans rfl, (blk_cell BK565.out 0).trans rfl, (blk_cell BK565.out 1).trans rfl, (blk_cell BK565.out 2).trans rfl⟩ (fun hHeld => ?_)
             clear hK K
             refine norm_ (a' := ?_) ?_ ?_
             rotate_left
             ·show Act.put _ (some 106) _ = _
              simp only [Act.put, List.setIfInBounds_toArray, List.set_cons_zero, List.set_cons_succ, i64_w, i32_w]
              rfl
             refine pu_ 13 107 (bm_ 28 16383) HT_ ?_
             refine pu_ 14 108 (bm_ 28 32767) HT_ ?_
             refine pu_ 15 109 (bm_ 28 65535) HT_ ?_
             refine pn_ 16 110 (bm_ 28 131071) HT_ ?_
             refine pn_ 17 111 (bm_ 28 262143) HT_ ?_
             refine pn_ 18 112 (bm_ 28 524287) HT_ ?_
             refine pn_ 19 113 (bm_ 28 1048575) HT_ ?_
             refine pn_ 20 114 (bm_ 28 2097151) HT_ ?_
             refine pn_ 21 115 (bm_ 28 4194303) HT_ ?_
             refine pn_ 22 116 (bm_ 28 8388607) HT_ ?_
             refine pn_ 23 117 (bm_ 28 16777215) HT_ ?_
             refine pn_ 24 118 (bm_ 28 33554431) HT_ ?_
             refine pn_ 25 119 (bm_ 28 67108863) HT_ ?_
             refine pu_ 26 120 (bm_ 28 134217727) HT_ ?_
             refine pu_ 27 6 (bm_ 28 268435455) HT_ ?_
             refine done_ (done_of HT_.out (by kernel_rfl)) ?_
             try go_wp2
             go_ret
             exact ⟨by first | rfl | (simp [errW_none, errW_some] <;> rfl) | (simp [*, errW_none, errW_some] <;> first | rfl | exact given_isEmpty _ | exact (given_isEmpty _).symm), by repeat (first | (with_reducible first | exact HB.out | apply below_alloc | apply pw_below_drewN | apply below_drew1 | refine below_set ?_ GE551.out | refine below_set ?_ GE552.out | refine below_set ?_ GE553.out | refine below_set ?_ GE561.out | refine below_set ?_ GE565.out | refine below_set ?_ GE569.out) | exact HB.out)⟩
           ·rw [if_neg c152] at H
            have c152b0 : (t609 == t602) = false := beq_eq_false_iff_ne.mpr c152
            have c152b1 : (t609 != t602) = true := bne_iff_ne.mpr c152
            obtain rfl := Option.some.inj H
            try go_wp2
            have n0_ := Aside0.mk (blk_drew BK551.out)
            have n1_ := Aside0.mk (blk_drew BK552.out)
            have n2_ := Aside0.mk (blk_drew BK553.out)
            have n3_ := Aside0.mk (blk_drew BK561.out)
            have n4_ := Aside0.mk (blk_drew BK565.out)
            have n5_ := Aside0.mk (blk_drew BK569.out)
            have n6_ := Aside0.mk (below_drew1 HB.out)
            clear BK551
            clear BK552
            clear BK553
            clear BK561
            clear BK565
            clear BK569
            clear HB
            have BK551 := n0_
            have BK552 := n1_
            have BK553 := n2_
            have BK561 := n3_
            have BK565 := n4_
            have BK569 := n5_
            have HB := n6_
            clear n0_ n1_ n2_ n3_ n4_ n5_ n6_
            refine start_ (n := 8) (S := fun w' => w'.cell? ⟨gb561, 0, none⟩ = some (.bool t558) ∧ w'.cell? ⟨gb561, 1, none⟩ = some (.string t559) ∧ w'.cell? ⟨gb561, 2, none⟩ = some (.int .i64 t560) ∧ w'.cell? ⟨gb565, 0, none⟩ = some (.bool t562) ∧ w'.cell? ⟨gb565, 1, none⟩ = some (.string t563) ∧ w'.cell? ⟨gb565, 2, none⟩ = some (.int .i64 t564)) (ds := []) #[false, false, false, false, false, false, false, false] (by kernel_rfl) rfl rfl ⟨(blk_cell BK561.out 0).trans rfl, (blk_cell BK561.out 1).trans rfl, (blk_cell BK561.out 2).trans rfl, (blk_cell BK565.out 0).trans rfl, (blk_cell BK565.out 1).trans rfl, (blk_cell BK565.out 2).trans rfl⟩ (fun hHeld => ?_); refine with_tabW florinlaw02_DecOrders.tab13 florinlaw02_DecOrders.bits13 (fun HT_ HW_ => ?_)
            generalize wc.drew = w190 at BK551 BK552 BK553 BK561 BK565 BK569 HB hHeld ⊢
            refine tk_ 0 87 #[true, false, false, false, false, false, false, false] HT_ HW_ hHeld rfl (by rintro w' ⟨s0, s1, s2, s3, s4, s5⟩; go_simp; with_reducible rfl) ?_
            refine tk_ 3 90 #[true, false, false, true, false, false, false, false] HT_ HW_ hHeld rfl (by rintro w' ⟨s0, s1, s2, s3, s4, s5⟩; go_simp; with_reducible rfl) ?_
            refine one_ (i := 1) (N := some 88) #[true, true, false, true, false, false, false, false] rfl rfl (one_of HT_.out (by kernel_rfl)) (by decide) (fun K hK => ?_)
            refine goes_ Tryd.func38 (by kernel_rfl) rfl #[.agg #[.bool t558, .string t559, .int .i64 t560]] (by rfl) rfl rfl (by (try simp only [List.map_toArray, List.map_cons, List.map_nil]); first | done | rfl | (simp only [List.length_drop, List.length_take]; rfl) | (have z_ : ∀ s_ : ByteArray, s_.size ≤ 9223372036854775807 → -(s_.size : Int) = wrap64 (-(s_.size : Int)) := (fun s_ h_ => by unfold wrap64; omega); rw [← z_ _ (by omega)]; rfl)) ?_
            with_reducible refine (dec_Dec_Abs.calls kj107 t558 t559 t560 t594 t595 t596 _ A144.out).mono ?_
            rintro e w191 ⟨rfl, hb⟩
            refine ⟨_, rfl, ?_⟩
            have n0_ := bb_ BK551 hb
            have n1_ := bb_ BK552 hb
            have n2_ := bb_ BK553 hb
            have n3_ := bb_ BK561 hb
            have n4_ := bb_ BK565 hb
            have n5_ := bb_ BK569 hb
            have n6_ := Aside0.mk (below_step (bl_ HB).out hb)
            clear BK551
            clear BK552
            clear BK553
            clear BK561
            clear BK565
            clear BK569
            clear HB
            have BK551 := n0_
            have BK552 := n1_
            have BK553 := n2_
            have BK561 := n3_
            have BK565 := n4_
            have BK569 := n5_
            have HB := n6_
            clear n0_ n1_ n2_ n3_ n4_ n5_ n6_
            (try clear hb)
            (try clear hb2)
            (try clear hk)
            (try clear hi)
            refine hK.out _ _ ⟨(blk_cell BK561.out 0).trans rfl, (blk_cell BK561.out 1).trans rfl, (blk_cell BK561.out 2).trans rfl, (blk_cell BK565.out 0).trans rfl, (blk_cell BK565.out 1).trans rfl, (blk_cell BK565.out 2).trans rfl⟩ (fun hHeld => ?_)
            clear hK K
            refine norm_ (a' := ?_) ?_ ?_
            rotate_left
            ·show Act.put _ (some 88) _ = _
             simp only [Act.put, List.setIfInBounds_toArray, List.set_cons_zero, List.set_cons_succ, i64_w, i32_w]
             rfl
            refine one_ (i := 2) (N := some 89) #[true, true, true, true, false, false, false, false] rfl rfl (one_of HT_.out (by kernel_rfl)) (by decide) (fun K hK => ?_)
            refine goes_ Tryd.func31 (by kernel_rfl) rfl #[.agg #[.bool t594, .string t595, .int .i64 t596], .int .i64 50] (by rfl) rfl rfl (by (try simp only [List.map_toArray, List.map_cons, List.map_nil]); first | done | rfl | (simp only [List.length_drop, List.length_take]; rfl) | (have z_ : ∀ s_ : ByteArray, s_.size ≤ 9223372036854775807 → -(s_.size : Int) = wrap64 (-(s_.size : Int)) := (fun s_ h_ => by unfold wrap64; omega); rw [← z_ _ (by omega)]; rfl)) ?_
            with_reducible refine (florinlaw02_Places.calls kj107 t594 t595 t596 50 t597 _ A145.out).mono ?_
            rintro e w192 ⟨rfl, hb⟩
            refine ⟨_, rfl, ?_⟩
            have n0_ := bb_ BK551 hb
            have n1_ := bb_ BK552 hb
            have n2_ := bb_ BK553 hb
            have n3_ := bb_ BK561 hb
            have n4_ := bb_ BK565 hb
            have n5_ := bb_ BK569 hb
            have n6_ := Aside0.mk (below_step (bl_ HB).out hb)
            clear BK551
            clear BK552
            clear BK553
            clear BK561
            clear BK565
            clear BK569
            clear HB
            have BK551 := n0_
            have BK552 := n1_
            have BK553 := n2_
            have BK561 := n3_
            have BK565 := n4_
            have BK569 := n5_
            have HB := n6_
            clear n0_ n1_ n2_ n3_ n4_ n5_ n6_
            (try clear hb)
            (try clear hb2)
            (try clear hk)
            (try clear hi)
            refine hK.out _ _ ⟨(blk_cell BK561.out 0).trans rfl, (blk_cell BK561.out 1).trans rfl, (blk_cell BK561.out 2).trans rfl, (blk_cell BK565.out 0).trans rfl, (blk_cell BK565.out 1).trans rfl, (blk_cell BK565.out 2).trans rfl⟩ (fun hHeld => ?_)
            clear hK K
            refine norm_ (a' := ?_) ?_ ?_
            rotate_left
            ·show Act.put _ (some 89) _ = _
             simp only [Act.put, List.setIfInBounds_toArray, List.set_cons_zero, List.set_cons_succ, i64_w, i32_w]
             rfl
            refine one_ (i := 4) (N := some 91) #[true, true, true, true, true, false, false, false] rfl rfl (one_of HT_.out (by kernel_rfl)) (by decide) (fun K hK => ?_)
            refine goes_ Tryd.func38 (by kernel_rfl) rfl #[.agg #[.bool t562, .string t563, .int .i64 t564]] (by rfl) rfl rfl (by (try simp only [List.map_toArray, List.map_cons, List.map_nil]); first | done | rfl | (simp only [List.length_drop, List.length_take]; rfl) | (have z_ : ∀ s_ : ByteArray, s_.size ≤ 9223372036854775807 → -(s_.size : Int) = wrap64 (-(s_.size : Int)) := (fun s_ h_ => by unfold wrap64; omega); rw [← z_ _ (by omega)]; rfl)) ?_
            with_reducible refine (dec_Dec_Abs.calls kj107 t562 t563 t564 t598 t599 t600 _ A146.out).mono ?_
            rintro e w193 ⟨rfl, hb⟩
            refine ⟨_, rfl, ?_⟩
            have n0_ := bb_ BK551 hb
            have n1_ := bb_ BK552 hb
            have n2_ := bb_ BK553 hb
            have n3_ := bb_ BK561 hb
            have n4_ := bb_ BK565 hb
            have n5_ := bb_ BK569 hb
            have n6_ := Aside0.mk (below_step (bl_ HB).out hb)
            clear BK551
            clear BK552
            clear BK553
            clear BK561
            clear BK565
            clear BK569
            clear HB
            have BK551 := n0_
            have BK552 := n1_
            have BK553 := n2_
            have BK561 := n3_
            have BK565 := n4_
            have BK569 := n5_
            have HB := n6_
            clear n0_ n1_ n2_ n3_ n4_ n5_ n6_
            (try clear hb)
            (try clear hb2)
            (try clear hk)
            (try clear hi)
            refine hK.out _ _ ⟨(blk_cell BK561.out 0).trans rfl, (blk_cell BK561.out 1).trans rfl, (blk_cell BK561.out 2).trans rfl, (blk_cell BK565.out 0).trans rfl, (blk_cell BK565.out 1).trans rfl, (blk_cell BK565.out 2).trans rfl⟩ (fun hHeld => ?_)
            clear hK K
            refine norm_ (a' := ?_) ?_ ?_
            rotate_left
            ·show Act.put _ (some 91) _ = _
             simp only [Act.put, List.setIfInBounds_toArray, List.set_cons_zero, List.set_cons_succ, i64_w, i32_w]
             rfl
            refine one_ (i := 5) (N := some 92) #[true, true, true, true, true, true, false, false] rfl rfl (one_of HT_.out (by kernel_rfl)) (by decide) (fun K hK => ?_)
            refine goes_ Tryd.func31 (by kernel_rfl) rfl #[.agg #[.bool t598, .string t599, .int .i64 t600], .int .i64 50] (by rfl) rfl rfl (by (try simp only [List.map_toArray, List.map_cons, List.map_nil]); first | done | rfl | (simp only [List.length_drop, List.length_take]; rfl) | (have z_ : ∀ s_ : ByteArray, s_.size ≤ 9223372036854775807 → -(s_.size : Int) = wrap64 (-(s_.size : Int)) := (fun s_ h_ => by unfold wrap64; omega); rw [← z_ _ (by omega)]; rfl)) ?_
            with_reducible refine (florinlaw02_Places.calls kj107 t598 t599 t600 50 t601 _ A147.out).mono ?_
            rintro e w194 ⟨rfl, hb⟩
            refine ⟨_, rfl, ?_⟩
            have n0_ := bb_ BK551 hb
            have n1_ := bb_ BK552 hb
            have n2_ := bb_ BK553 hb
            have n3_ := bb_ BK561 hb
            have n4_ := bb_ BK565 hb
            have n5_ := bb_ BK569 hb
            have n6_ := Aside0.mk (below_step (bl_ HB).out hb)
            clear BK551
            clear BK552
            clear BK553
            clear BK561
            clear BK565
            clear BK569
            clear HB
            have BK551 := n0_
            have BK552 := n1_
            have BK553 := n2_
            have BK561 := n3_
            have BK565 := n4_
            have BK569 := n5_
            have HB := n6_
            clear n0_ n1_ n2_ n3_ n4_ n5_ n6_
            (try clear hb)
            (try clear hb2)
            (try clear hk)
            (try clear hi)
            refine hK.out _ _ ⟨(blk_cell BK561.out 0).trans rfl, (blk_cell BK561.out 1).trans rfl, (blk_cell BK561.out 2).trans rfl, (blk_cell BK565.out 0).trans rfl, (blk_cell BK565.out 1).trans rfl, (blk_cell BK565.out 2).trans rfl⟩ (fun hHeld => ?_)
            clear hK K
            refine norm_ (a' := ?_) ?_ ?_
            rotate_left
            ·show Act.put _ (some 92) _ = _
             simp only [Act.put, List.setIfInBounds_toArray, List.set_cons_zero, List.set_cons_succ, i64_w, i32_w]
             rfl
            refine one_ (i := 6) (N := some 93) #[true, true, true, true, true, true, true, false] rfl rfl (one_of HT_.out (by kernel_rfl)) (by decide) (fun K hK => ?_)
            refine goes_ Tryd.func30 (by kernel_rfl) rfl #[.string t597, .string t601] (by rfl) rfl rfl (by (try simp only [List.map_toArray, List.map_cons, List.map_nil]); first | done | rfl | (simp only [List.length_drop, List.length_take]; rfl) | (have z_ : ∀ s_ : ByteArray, s_.size ≤ 9223372036854775807 → -(s_.size : Int) = wrap64 (-(s_.size : Int)) := (fun s_ h_ => by unfold wrap64; omega); rw [← z_ _ (by omega)]; rfl)) ?_
            with_reducible refine (num_Cmp.calls kj107 t597 t601 t602 _ A148.out).mono ?_
            rintro e w195 ⟨rfl, hb⟩
            refine ⟨_, rfl, ?_⟩
            have n0_ := bb_ BK551 hb
            have n1_ := bb_ BK552 hb
            have n2_ := bb_ BK553 hb
            have n3_ := bb_ BK561 hb
            have n4_ := bb_ BK565 hb
            have n5_ := bb_ BK569 hb
            have n6_ := Aside0.mk (below_step (bl_ HB).out hb)
            clear BK551
            clear BK552
            clear BK553
            clear BK561
            clear BK565
            clear BK569
            clear HB
            have BK551 := n0_
            have BK552 := n1_
            have BK553 := n2_
            have BK561 := n3_
            have BK565 := n4_
            have BK569 := n5_
            have HB := n6_
            clear n0_ n1_ n2_ n3_ n4_ n5_ n6_
            (try clear hb)
            (try clear hb2)
            (try clear hk)
            (try clear hi)
            refine hK.out _ _ ⟨(blk_cell BK561.out 0).trans rfl, (blk_cell BK561.out 1).trans rfl, (blk_cell BK561.out 2).trans rfl, (blk_cell BK565.out 0).trans rfl, (blk_cell BK565.out 1).trans rfl, (blk_cell BK565.out 2).trans rfl⟩ (fun hHeld => ?_)
            clear hK K
            refine norm_ (a' := ?_) ?_ ?_
            rotate_left
            ·show Act.put _ (some 93) _ = _
             simp only [Act.put, List.setIfInBounds_toArray, List.set_cons_zero, List.set_cons_succ, i64_w, i32_w]
             rfl
            refine pu_ 7 11 #[true, true, true, true, true, true, true, true] HT_ ?_
            refine done_ (done_of HT_.out (by kernel_rfl)) ?_
            try go_wp2
            have n0_ := Aside0.mk (blk_drew BK551.out)
            have n1_ := Aside0.mk (blk_drew BK552.out)
            have n2_ := Aside0.mk (blk_drew BK553.out)
            have n3_ := Aside0.mk (blk_drew BK561.out)
            have n4_ := Aside0.mk (blk_drew BK565.out)
            have n5_ := Aside0.mk (blk_drew BK569.out)
            have n6_ := Aside0.mk (below_drew1 HB.out)
            clear BK551
            clear BK552
            clear BK553
            clear BK561
            clear BK565
            clear BK569
            clear HB
            have BK551 := n0_
            have BK552 := n1_
            have BK553 := n2_
            have BK561 := n3_
            have BK565 := n4_
            have BK569 := n5_
            have HB := n6_
            clear n0_ n1_ n2_ n3_ n4_ n5_ n6_
            refine start_ (n := 28) (S := fun w' => w'.cell? ⟨gb561, 0, none⟩ = some (.bool t558) ∧ w'.cell? ⟨gb561, 1, none⟩ = some (.string t559) ∧ w'.cell? ⟨gb561, 2, none⟩ = some (.int .i64 t560) ∧ w'.cell? ⟨gb565, 0, none⟩ = some (.bool t562) ∧ w'.cell? ⟨gb565, 1, none⟩ = some (.string t563) ∧ w'.cell? ⟨gb565, 2, none⟩ = some (.int .i64 t564)) (ds := []) #[false, false, false, false, false, false, false, false, false, false, false, false, false, false, false, false, false, false, false, false, false, false, false, false, false, false, false, false] (by kernel_rfl) rfl rfl ⟨(blk_cell BK561.out 0).trans rfl, (blk_cell BK561.out 1).trans rfl, (blk_cell BK561.out 2).trans rfl, (blk_cell BK565.out 0).trans rfl, (blk_cell BK565.out 1).trans rfl, (blk_cell BK565.out 2).trans rfl⟩ (fun hHeld => ?_); refine with_tabW florinlaw02_DecOrders.tab14 florinlaw02_DecOrders.bits14 (fun HT_ HW_ => ?_)
            generalize w195.drew = w196 at BK551 BK552 BK553 BK561 BK565 BK569 HB hHeld ⊢
            refine pu_ 5 99 (bm_ 28 32) HT_ ?_
            refine tk_ 0 94 (bm_ 28 33) HT_ HW_ hHeld rfl (by rintro w' ⟨s0, s1, s2, s3, s4, s5⟩; go_simp; with_reducible rfl) ?_
            refine tk_ 2 96 (bm_ 28 37) HT_ HW_ hHeld rfl (by rintro w' ⟨s0, s1, s2, s3, s4, s5⟩; go_simp; with_reducible rfl) ?_
            refine one_ (i := 1) (N := some 95) (bm_ 28 39) rfl rfl (one_of HT_.out (by kernel_rfl)) (by decide) (fun K hK => ?_)
            refine goes_ Tryd.func38 (by kernel_rfl) rfl #[.agg #[.bool t558, .string t559, .int .i64 t560]] (by rfl) rfl rfl (by (try simp only [List.map_toArray, List.map_cons, List.map_nil]); first | done | rfl | (simp only [List.length_drop, List.length_take]; rfl) | (have z_ : ∀ s_ : ByteArray, s_.size ≤ 9223372036854775807 → -(s_.size : Int) = wrap64 (-(s_.size : Int)) := (fun s_ h_ => by unfold wrap64; omega); rw [← z_ _ (by omega)]; rfl)) ?_
            with_reducible refine (dec_Dec_Abs.calls kj107 t558 t559 t560 t603 t604 t605 _ A149.out).mono ?_
            rintro e w197 ⟨rfl, hb⟩
            refine ⟨_, rfl, ?_⟩
            have n0_ := bb_ BK551 hb
            have n1_ := bb_ BK552 hb
            have n2_ := bb_ BK553 hb
            have n3_ := bb_ BK561 hb
            have n4_ := bb_ BK565 hb
            have n5_ := bb_ BK569 hb
            have n6_ := Aside0.mk (below_step (bl_ HB).out hb)
            clear BK551
            clear BK552
            clear BK553
            clear BK561
            clear BK565
            clear BK569
            clear HB
            have BK551 := n0_
            have BK552 := n1_
            have BK553 := n2_
            have BK561 := n3_
            have BK565 := n4_
            have BK569 := n5_
            have HB := n6_
            clear n0_ n1_ n2_ n3_ n4_ n5_ n6_
            (try clear hb)
            (try clear hb2)
            (try clear hk)
            (try clear hi)
            refine hK.out _ _ ⟨(blk_cell BK561.out 0).trans rfl, (blk_cell BK561.out 1).trans rfl, (blk_cell BK561.out 2).trans rfl, (blk_cell BK565.out 0).trans rfl, (blk_cell BK565.out 1).trans rfl, (blk_cell BK565.out 2).trans rfl⟩ (fun hHeld => ?_)
            clear hK K
            refine norm_ (a' := ?_) ?_ ?_
            rotate_left
            ·show Act.put _ (some 95) _ = _
             simp only [Act.put, List.setIfInBounds_toArray, List.set_cons_zero, List.set_cons_succ, i64_w, i32_w]
             rfl
            refine one_ (i := 3) (N := some 97) (bm_ 28 47) rfl rfl (one_of HT_.out (by kernel_rfl)) (by decide) (fun K hK => ?_)
            refine goes_ Tryd.func38 (by kernel_rfl) rfl #[.agg #[.bool t562, .string t563, .int .i64 t564]] (by rfl) rfl rfl (by (try simp only [List.map_toArray, List.map_cons, List.map_nil]); first | done | rfl | (simp only [List.length_drop, List.length_take]; rfl) | (have z_ : ∀ s_ : ByteArray, s_.size ≤ 9223372036854775807 → -(s_.size : Int) = wrap64 (-(s_.size : Int)) := (fun s_ h_ => by unfold wrap64; omega); rw [← z_ _ (by omega)]; rfl)) ?_
            with_reducible refine (dec_Dec_Abs.calls kj107 t562 t563 t564 t606 t607 t608 _ A150.out).mono ?_
            rintro e w198 ⟨rfl, hb⟩
            refine ⟨_, rfl, ?_⟩
            have n0_ := bb_ BK551 hb
            have n1_ := bb_ BK552 hb
            have n2_ := bb_ BK553 hb
            have n3_ := bb_ BK561 hb
            have n4_ := bb_ BK565 hb
            have n5_ := bb_ BK569 hb
            have n6_ := Aside0.mk (below_step (bl_ HB).out hb)
            clear BK551
            clear BK552
            clear BK553
            clear BK561
            clear BK565
            clear BK569
            clear HB
            have BK551 := n0_
            have BK552 := n1_
            have BK553 := n2_
            have BK561 := n3_
            have BK565 := n4_
            have BK569 := n5_
            have HB := n6_
            clear n0_ n1_ n2_ n3_ n4_ n5_ n6_
            (try clear hb)
            (try clear hb2)
            (try clear hk)
            (try clear hi)
            refine hK.out _ _ ⟨(blk_cell BK561.out 0).trans rfl, (blk_cell BK561.out 1).trans rfl, (blk_cell BK561.out 2).trans rfl, (blk_cell BK565.out 0).trans rfl, (blk_cell BK565.out 1).trans rfl, (blk_cell BK565.out 2).trans rfl⟩ (fun hHeld => ?_)
            clear hK K
            refine norm_ (a' := ?_) ?_ ?_
            rotate_left
            ·show Act.put _ (some 97) _ = _
             simp only [Act.put, List.setIfInBounds_toArray, List.set_cons_zero, List.set_cons_succ, i64_w, i32_w]
             rfl
            refine one_ (i := 4) (N := some 98) (bm_ 28 63) rfl rfl (one_of HT_.out (by kernel_rfl)) (by decide) (fun K hK => ?_)
            refine goes_ Tryd.func37 (by kernel_rfl) rfl #[.agg #[.bool t603, .string t604, .int .i64 t605], .agg #[.bool t606, .string t607, .int .i64 t608]] (by rfl) rfl rfl (by (try simp only [List.map_toArray, List.map_cons, List.map_nil]); first | done | rfl | (simp only [List.length_drop, List.length_take]; rfl) | (have z_ : ∀ s_ : ByteArray, s_.size ≤ 9223372036854775807 → -(s_.size : Int) = wrap64 (-(s_.size : Int)) := (fun s_ h_ => by unfold wrap64; omega); rw [← z_ _ (by omega)]; rfl)) ?_
            with_reducible refine (dec_Cmp.calls kj107 t603 t604 t605 t606 t607 t608 t609 _ A151.out).mono ?_
            rintro e w199 ⟨rfl, hb⟩
            refine ⟨_, rfl, ?_⟩
            have n0_ := bb_ BK551 hb
            have n1_ := bb_ BK552 hb
            have n2_ := bb_ BK553 hb
            have n3_ := bb_ BK561 hb
            have n4_ := bb_ BK565 hb
            have n5_ := bb_ BK569 hb
            have n6_ := Aside0.mk (below_step (bl_ HB).out hb)
            clear BK551
            clear BK552
            clear BK553
            clear BK561
            clear BK565
            clear BK569
            clear HB
            have BK551 := n0_
            have BK552 := n1_
            have BK553 := n2_
            have BK561 := n3_
            have BK565 := n4_
            have BK569 := n5_
            have HB := n6_
            clear n0_ n1_ n2_ n3_ n4_ n5_ n6_
            (try clear hb)
            (try clear hb2)
            (try clear hk)
            (try clear hi)
            refine hK.out _ _ ⟨(blk_cell BK561.out 0).trans rfl, (blk_cell BK561.out 1).trans rfl, (blk_cell BK561.out 2).trans rfl, (blk_cell BK565.out 0).trans rfl, (blk_cell BK565.out 1).trans rfl, (blk_cell BK565.out 2).trans rfl⟩ (fun hHeld => ?_)
            clear hK K
            refine norm_ (a' := ?_) ?_ ?_
            rotate_left
            ·show Act.put _ (some 98) _ = _
             simp only [Act.put, List.setIfInBounds_toArray, List.set_cons_zero, List.set_cons_succ, i64_w, i32_w]
             rfl
            refine pu_ 6 100 (bm_ 28 127) HT_ ?_
            refine pu_ 7 101 (bm_ 28 255) HT_ ?_
            refine pn_ 8 102 (bm_ 28 511) HT_ ?_
            refine pn_ 9 103 (bm_ 28 1023) HT_ ?_
            refine pn_ 10 104 (bm_ 28 2047) HT_ ?_
            refine pn_ 11 105 (bm_ 28 4095) HT_ ?_
            refine pn_ 12 106 (bm_ 28 8191) HT_ ?_
            refine pn_ 13 107 (bm_ 28 16383) HT_ ?_
            refine pu_ 14 108 (bm_ 28 32767) HT_ ?_
            refine pu_ 15 109 (bm_ 28 65535) HT_ ?_
            refine pn_ 16 110 (bm_ 28 131071) HT_ ?_
            refine pn_ 17 111 (bm_ 28 262143) HT_ ?_
            refine pn_ 18 112 (bm_ 28 524287) HT_ ?_
            refine pn_ 19 113 (bm_ 28 1048575) HT_ ?_
            refine pn_ 20 114 (bm_ 28 2097151) HT_ ?_
            refine pn_ 21 115 (bm_ 28 4194303) HT_ ?_
            refine pn_ 22 116 (bm_ 28 8388607) HT_ ?_
            refine pn_ 23 117 (bm_ 28 16777215) HT_ ?_
            refine pn_ 24 118 (bm_ 28 33554431) HT_ ?_
            refine pn_ 25 119 (bm_ 28 67108863) HT_ ?_
            refine pu_ 26 120 (bm_ 28 134217727) HT_ ?_
            refine pu_ 27 6 (bm_ 28 268435455) HT_ ?_
            refine done_ (done_of HT_.out (by kernel_rfl)) ?_
            try go_wp2
            go_ret
            exact ⟨by first | rfl | (simp [errW_none, errW_some] <;> rfl) | (simp [*, errW_none, errW_some] <;> first | rfl | exact given_isEmpty _ | exact (given_isEmpty _).symm), by repeat (first | (with_reducible first | exact HB.out | apply below_alloc | apply pw_below_drewN | apply below_drew1 | refine below_set ?_ GE551.out | refine below_set ?_ GE552.out | refine below_set ?_ GE553.out | refine below_set ?_ GE561.out | refine below_set ?_ GE565.out | refine below_set ?_ GE569.out) | exact HB.out)⟩
 ·replace c5 := Bool.eq_false_iff.mpr c5
  subst c5
  have H1 : (some false) = some r := by rw [if_neg (show ¬ (false = true) by decide)] at H; exact H
  clear H
  have H := H1
  clear H1
  obtain rfl := Option.some.inj H
  go_enter Tryd.func10, Tryd.ntmps10
  go_wp2_with (first | ((with_reducible refine gate_dst (N := 3) rfl ?_); (try (refine gate_guard (by rfl) ?_; dsimp only)); refine box_event ?hg (N := 3) ?hd (cs := #[.bool a0_0, .slice A0_1 l0_1.length c0_1, .int .i64 a0_2]) (t := 33) ?hr ?_; (case hd => rfl); (case hg => rfl); (case hr => first | (go_simp; done) | (go_simp; rfl)); intro gb551 hg w200 hbox hb; have n0_ := Aside0.mk (below_step (bl_ HB).out hb); have n1_ := Aside0.mk (hbox); have n2_ := Aside0.mk ((by rw [hg]; exact (below_size (bl_ HB).out) : w.heap.size ≤ gb551)); have n3_ := Aside0.mk ((by rw [hg]; exact (below_size (bl_ HB).out) : w.heap.size ≤ gb551)); clear HB; have HB := n0_; have BK551 := n1_; have GW551 := n2_; have GE551 := n3_; clear n0_ n1_ n2_ n3_; clear hb hbox hg) | ((with_reducible refine gate_dst (N := 4) rfl ?_); (try (refine gate_guard (by rfl) ?_; dsimp only)); refine box_event ?hg (N := 4) ?hd (cs := #[.bool a1_0, .slice A1_1 l1_1.length c1_1, .int .i64 a1_2]) (t := 33) ?hr ?_; (case hd => rfl); (case hg => rfl); (case hr => first | (go_simp; done) | (go_simp; rfl)); intro gb552 hg w201 hbox hb; have n0_ := bb_ BK551 hb; have n1_ := Aside0.mk (below_step (bl_ HB).out hb); have n2_ := Aside0.mk (hbox); have n3_ := Aside0.mk ((by rw [hg]; exact (below_size (bl_ HB).out) : w.heap.size ≤ gb552)); have n4_ := Aside0.mk ((by rw [hg]; exact (below_size (bl_ HB).out) : w.heap.size ≤ gb552)); have n5_ := Aside0.mk ((by rw [hg]; exact Nat.ne_of_lt (blk_lt (g := gb551) (o := .cells #[.bool a0_0, .slice A0_1 l0_1.length c0_1, .int .i64 a0_2] 33 (0, 0)) (by (with_reducible repeat (first | refine blk_drewN ?_ _ | refine blk_drew ?_ | refine blk_alloc ?_ _)); exact BK551.out)) : gb551 ≠ gb552)); have n6_ := Aside0.mk ((by rw [hg]; exact Nat.ne_of_gt (blk_lt (g := gb551) (o := .cells #[.bool a0_0, .slice A0_1 l0_1.length c0_1, .int .i64 a0_2] 33 (0, 0)) (by (with_reducible repeat (first | refine blk_drewN ?_ _ | refine blk_drew ?_ | refine blk_alloc ?_ _)); exact BK551.out)) : gb552 ≠ gb551)); clear BK551; clear HB; have BK551 := n0_; have HB := n1_; have BK552 := n2_; have GW552 := n3_; have GE552 := n4_; have NB551_552 := n5_; have NB552_551 := n6_; clear n0_ n1_ n2_ n3_ n4_ n5_ n6_; clear hb hbox hg) | ((with_reducible refine gate_dst (N := 5) rfl ?_); (try (refine gate_guard (by rfl) ?_; dsimp only)); refine box_event ?hg (N := 5) ?hd (cs := #[.bool a2_0, .slice A2_1 l2_1.length c2_1, .int .i64 a2_2]) (t := 33) ?hr ?_; (case hd => rfl); (case hg => rfl); (case hr => first | (go_simp; done) | (go_simp; rfl)); intro gb553 hg w202 hbox hb; have n0_ := bb_ BK551 hb; have n1_ := bb_ BK552 hb; have n2_ := Aside0.mk (below_step (bl_ HB).out hb); have n3_ := Aside0.mk (hbox); have n4_ := Aside0.mk ((by rw [hg]; exact (below_size (bl_ HB).out) : w.heap.size ≤ gb553)); have n5_ := Aside0.mk ((by rw [hg]; exact (below_size (bl_ HB).out) : w.heap.size ≤ gb553)); have n6_ := Aside0.mk ((by rw [hg]; exact Nat.ne_of_lt (blk_lt (g := gb551) (o := .cells #[.bool a0_0, .slice A0_1 l0_1.length c0_1, .int .i64 a0_2] 33 (0, 0)) (by (with_reducible repeat (first | refine blk_drewN ?_ _ | refine blk_drew ?_ | refine blk_alloc ?_ _)); exact BK551.out)) : gb551 ≠ gb553)); have n7_ := Aside0.mk ((by rw [hg]; exact Nat.ne_of_gt (blk_lt (g := gb551) (o := .cells #[.bool a0_0, .slice A0_1 l0_1.length c0_1, .int .i64 a0_2] 33 (0, 0)) (by (with_reducible repeat (first | refine blk_drewN ?_ _ | refine blk_drew ?_ | refine blk_alloc ?_ _)); exact BK551.out)) : gb553 ≠ gb551)); have n8_ := Aside0.mk ((by rw [hg]; exact Nat.ne_of_lt (blk_lt (g := gb552) (o := .cells #[.bool a1_0, .slice A1_1 l1_1.length c1_1, .int .i64 a1_2] 33 (0, 0)) (by (with_reducible repeat (first | refine blk_drewN ?_ _ | refine blk_drew ?_ | refine blk_alloc ?_ _)); exact BK552.out)) : gb552 ≠ gb553)); have n9_ := Aside0.mk ((by rw [hg]; exact Nat.ne_of_gt (blk_lt (g := gb552) (o := .cells #[.bool a1_0, .slice A1_1 l1_1.length c1_1, .int .i64 a1_2] 33 (0, 0)) (by (with_reducible repeat (first | refine blk_drewN ?_ _ | refine blk_drew ?_ | refine blk_alloc ?_ _)); exact BK552.out)) : gb553 ≠ gb552)); clear BK551; clear BK552; clear HB; have BK551 := n0_; have BK552 := n1_; have HB := n2_; have BK553 := n3_; have GW553 := n4_; have GE553 := n5_; have NB551_553 := n6_; have NB553_551 := n7_; have NB552_553 := n8_; have NB553_552 := n9_; clear n0_ n1_ n2_ n3_ n4_ n5_ n6_ n7_ n8_ n9_; clear hb hbox hg) | ((with_reducible refine gate_callee (f := 11) rfl ?_); refine goesL_ (some 12) rfl rfl Tryd.func11 (by kernel_rfl) rfl #[] rfl (by (try simp only [List.map_toArray, List.map_cons, List.map_nil]); first | done | rfl | (simp only [List.length_drop, List.length_take]; rfl) | (have z_ : ∀ s_ : ByteArray, s_.size ≤ 9223372036854775807 → -(s_.size : Int) = wrap64 (-(s_.size : Int)) := (fun s_ h_ => by unfold wrap64; omega); rw [← z_ _ (by omega)]; rfl)) ?_; (with_reducible refine (florinlaw02_head.calls k  false _ A4.out).mono ?_); rintro e w203 ⟨rfl, hb⟩; refine ⟨_, rfl, ?_⟩; have n0_ := bb_ BK551 hb; have n1_ := bb_ BK552 hb; have n2_ := bb_ BK553 hb; have n3_ := Aside0.mk (below_step (bl_ HB).out hb); clear BK551; clear BK552; clear BK553; clear HB; have BK551 := n0_; have BK552 := n1_; have BK553 := n2_; have HB := n3_; clear n0_ n1_ n2_ n3_; (try clear hb); (try clear hb2); (try clear hk); (try clear hi)))
  go_ret
  exact ⟨by first | rfl | (simp [errW_none, errW_some] <;> rfl) | (simp [*, errW_none, errW_some] <;> first | rfl | exact given_isEmpty _ | exact (given_isEmpty _).symm), by repeat (first | (with_reducible first | exact HB.out | apply below_alloc | apply pw_below_drewN | apply below_drew1 | refine below_set ?_ GE551.out | refine below_set ?_ GE552.out | refine below_set ?_ GE553.out) | exact HB.out)⟩

end Go.Proofs.YtlkiaeipbekpkaaDoor.P
