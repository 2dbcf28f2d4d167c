-- written by a program of this session (wip/p2)
import Derived.Test.YtlkiaeipbekpkaaDoorPx0
import Derived.Test.YtlkiaeipbekpkaaDoorPx1
import Derived.Test.YtlkiaeipbekpkaaDoorPx2
import Derived.Test.YtlkiaeipbekpkaaDoorPx3
import Derived.Test.YtlkiaeipbekpkaaDoorPx4
import Derived.Test.YtlkiaeipbekpkaaDoorPx7
import Derived.Test.YtlkiaeipbekpkaaDoorPx9
import Derived.Test.YtlkiaeipbekpkaaDoorPx11
import Derived.Test.YtlkiaeipbekpkaaDoorPx19
import Derived.Test.YtlkiaeipbekpkaaDoorPx20
import Derived.Test.YtlkiaeipbekpkaaDoorPx22
import Derived.Test.YtlkiaeipbekpkaaDoorPx23
namespace Go.Proofs.YtlkiaeipbekpkaaDoor.P
open Go.RowKit Go.Proofs.YtlkiaeipbekpkaaDoorW.PrintWords Go.Proofs.YtlkiaeipbekpkaaDoorW.PrintLast Go.Proofs.YtlkiaeipbekpkaaDoorW.PrintMore
attribute [local go_sem] max2_int min2_int max_two min_two max_three min_three max_four min_four   -- for this text's walks alone
set_option linter.unusedVariables false
set_option linter.unusedSimpArgs false

attribute [local go_sem high] eqA24
/-! ### florinlaw02_DecAdds: function 9 -/
mutual
def florinlaw02_DecAdds.j0 : Nat → Bool → Bool → List Int → Int → Bool → List Int → Int → Option (Bool)
 | 0, _, _, _, _, _, _, _ => none
 | k + 1, x22, x482000, x482001, x482002, x483000, x483001, x483002 => if x22 = true then (some true) else ((florinlaw02_Raw_Make.f k x482000 x482001 x482002).bind fun bt486 => ((florinlaw02_Raw_Make.f k x483000 x483001 x483002).bind fun bt490 => ((dec_Add.f k bt486.1 bt486.2.1 bt486.2.2 bt490.1 bt490.2.1 bt490.2.2).bind fun bt494 => ((florinlaw02_normal.f k bt494.1 bt494.2.1 bt494.2.2).bind fun t498 => (if t498 = true then ((dec_Add.f k bt490.1 bt490.2.1 bt490.2.2 bt486.1 bt486.2.1 bt486.2.2).bind fun bt499 => (if (!(bt494.1 == bt499.1) || (!(bt494.2.1.toList == bt499.2.1.toList) || (!(bt494.2.2 == bt499.2.2)))) = true then (florinlaw02_DecAdds.j1 k true bt486.1 bt486.2.1 bt486.2.2 bt490.1 bt490.2.1 bt490.2.2 bt494.1 bt494.2.1 bt494.2.2) else ((dec_Sub.f k bt494.1 bt494.2.1 bt494.2.2 bt490.1 bt490.2.1 bt490.2.2).bind fun bt502 => ((dec_Dec_Norm.f k bt486.1 bt486.2.1 bt486.2.2).bind fun bt505 => (if (!(bt502.1 == bt505.1) || (!(bt502.2.1.toList == bt505.2.1.toList) || (!(bt502.2.2 == bt505.2.2)))) = true then (florinlaw02_DecAdds.j1 k true bt486.1 bt486.2.1 bt486.2.2 bt490.1 bt490.2.1 bt490.2.2 bt494.1 bt494.2.1 bt494.2.2) else ((dec_Sub.f k bt486.1 bt486.2.1 bt486.2.2 bt490.1 bt490.2.1 bt490.2.2).bind fun bt508 => ((dec_Sub.f k bt490.1 bt490.2.1 bt490.2.2 bt486.1 bt486.2.1 bt486.2.2).bind fun bt511 => ((dec_Dec_Minus.f k bt511.1 bt511.2.1 bt511.2.2).bind fun bt514 => (if (!(bt508.1 == bt514.1) || (!(bt508.2.1.toList == bt514.2.1.toList) || (!(bt508.2.2 == bt514.2.2)))) = true then (florinlaw02_DecAdds.j1 k true bt486.1 bt486.2.1 bt486.2.2 bt490.1 bt490.2.1 bt490.2.2 bt494.1 bt494.2.1 bt494.2.2) else ((dec_Add.f k bt486.1 bt486.2.1 bt486.2.2 false (⟨#[]⟩ : ByteArray) 0).bind fun bt517 => ((dec_Dec_Norm.f k bt486.1 bt486.2.1 bt486.2.2).bind fun bt520 => (florinlaw02_DecAdds.j1 k (!(bt517.1 == bt520.1) || (!(bt517.2.1.toList == bt520.2.1.toList) || (!(bt517.2.2 == bt520.2.2)))) bt486.1 bt486.2.1 bt486.2.2 bt490.1 bt490.2.1 bt490.2.2 bt494.1 bt494.2.1 bt494.2.2)))))))))))) else (florinlaw02_DecAdds.j1 k true bt486.1 bt486.2.1 bt486.2.2 bt490.1 bt490.2.1 bt490.2.2 bt494.1 bt494.2.1 bt494.2.2))))))
def florinlaw02_DecAdds.j1 : Nat → Bool → Bool → ByteArray → Int → Bool → ByteArray → Int → Bool → ByteArray → Int → Option (Bool)
 | 0, _, _, _, _, _, _, _, _, _, _ => none
 | k + 1, x65, x490000, x490001, x490002, x494000, x494001, x494002, x498000, x498001, x498002 => if x65 = true then (some false) else ((florinlaw02_Places.f k x490000 x490001 x490002 60).bind fun t523 => ((florinlaw02_Places.f k x494000 x494001 x494002 60).bind fun t524 => ((num_Trim.f k t523).bind fun t525 => (if t525.toList = ([] : List UInt8) then (florinlaw02_DecAdds.j2 k t523 t524 true x490000 x490001 x490002 x494000 x494001 x494002 x498000 x498001 x498002) else ((num_Trim.f k t524).bind fun t526 => (florinlaw02_DecAdds.j2 k t523 t524 (t526.toList == ([] : List UInt8)) x490000 x490001 x490002 x494000 x494001 x494002 x498000 x498001 x498002))))))
def florinlaw02_DecAdds.j2 : Nat → ByteArray → ByteArray → Bool → Bool → ByteArray → Int → Bool → ByteArray → Int → Bool → ByteArray → Int → Option (Bool)
 | 0, _, _, _, _, _, _, _, _, _, _, _, _ => none
 | k + 1, x8, x9, x77, x490000, x490001, x490002, x494000, x494001, x494002, x498000, x498001, x498002 => if x77 = true then (some true) else (if (x490000 == x494000) = true then ((florinlaw02_Places.f k x498000 x498001 x498002 60).bind fun t527 => ((num_Add.f k x8 x9).bind fun t528 => ((num_Cmp.f k t527 t528).bind fun t529 => (if t529 = 0 then (some (x498000 == x490000)) else (some false))))) else ((num_Cmp.f k x8 x9).bind fun t530 => (if t530 = 0 then (some (!x498000 && (x498001.toList == ([] : List UInt8) && (x498002 == 0)))) else ((num_Sub.f k x8 x9).bind fun bt531 => (if bt531.2 = true then (if (x498000 == x490000) = true then ((florinlaw02_Places.f k x498000 x498001 x498002 60).bind fun t533 => ((num_Cmp.f k t533 bt531.1).bind fun t534 => (some (t534 == 0)))) else (some false)) else ((num_Sub.f k x9 x8).bind fun bt535 => (if (x498000 == x494000) = true then ((florinlaw02_Places.f k x498000 x498001 x498002 60).bind fun t537 => ((num_Cmp.f k t537 bt535.1).bind fun t538 => (some (t538 == 0)))) else (some false))))))))
end
def florinlaw02_DecAdds.f (k : Nat) (a0_0 : Bool) (l0_1 : List Int) (a0_2 : Int) (a1_0 : Bool) (l1_1 : List Int) (a1_2 : Int) : Option (Bool) := (florinlaw02_head.f k).bind fun t483 => (if t483 = true then ((florinlaw02_Raw_Few.f a0_0 l0_1 a0_2 60).bind fun t484 => (if t484 = true then ((florinlaw02_Raw_Few.f a1_0 l1_1 a1_2 60).bind fun t485 => (florinlaw02_DecAdds.j0 k (!t485) a0_0 l0_1 a0_2 a1_0 l1_1 a1_2)) else (florinlaw02_DecAdds.j0 k true a0_0 l0_1 a0_2 a1_0 l1_1 a1_2))) else (some false))
theorem florinlaw02_DecAdds.mono_l : ∀ k, (∀ y0 y1 y2 y3 y4 y5 y6, LeO (florinlaw02_DecAdds.j0 k y0 y1 y2 y3 y4 y5 y6) (florinlaw02_DecAdds.j0 (k + 1) y0 y1 y2 y3 y4 y5 y6)) ∧ (∀ y0 y1 y2 y3 y4 y5 y6 y7 y8 y9, LeO (florinlaw02_DecAdds.j1 k y0 y1 y2 y3 y4 y5 y6 y7 y8 y9) (florinlaw02_DecAdds.j1 (k + 1) y0 y1 y2 y3 y4 y5 y6 y7 y8 y9)) ∧ (∀ y0 y1 y2 y3 y4 y5 y6 y7 y8 y9 y10 y11, LeO (florinlaw02_DecAdds.j2 k y0 y1 y2 y3 y4 y5 y6 y7 y8 y9 y10 y11) (florinlaw02_DecAdds.j2 (k + 1) y0 y1 y2 y3 y4 y5 y6 y7 y8 y9 y10 y11))
 | 0 => ⟨fun _ _ _ _ _ _ _ r h => by simp [florinlaw02_DecAdds.j0] at h, fun _ _ _ _ _ _ _ _ _ _ r h => by simp [florinlaw02_DecAdds.j1] at h, fun _ _ _ _ _ _ _ _ _ _ _ _ r h => by simp [florinlaw02_DecAdds.j2] at h⟩
 | k + 1 => by
  obtain ⟨ih0, ih1, ih2⟩ := florinlaw02_DecAdds.mono_l k
  refine ⟨?_, ?_, ?_⟩
  ·intro y0 y1 y2 y3 y4 y5 y6
   unfold florinlaw02_DecAdds.j0
   repeat' first
   | (with_reducible exact ih0 _ _ _ _ _ _ _)
   | (with_reducible exact ih1 _ _ _ _ _ _ _ _ _ _)
   | (with_reducible exact ih2 _ _ _ _ _ _ _ _ _ _ _ _)
   | (with_reducible exact dec_Add.mono _ _ _ _ _ _ _)
   | (with_reducible exact dec_Dec_Minus.mono _ _ _ _)
   | (with_reducible exact dec_Dec_Norm.mono _ _ _ _)
   | (with_reducible exact dec_Sub.mono _ _ _ _ _ _ _)
   | (with_reducible exact florinlaw02_Places.mono _ _ _ _ _)
   | (with_reducible exact florinlaw02_Raw_Make.mono _ _ _ _)
   | (with_reducible exact florinlaw02_head.mono _)
   | (with_reducible exact florinlaw02_normal.mono _ _ _ _)
   | (with_reducible exact num_Add.mono _ _ _)
   | (with_reducible exact num_Cmp.mono _ _ _)
   | (with_reducible exact num_Sub.mono _ _ _)
   | (with_reducible exact num_Trim.mono _ _)
   | (with_reducible exact LeO.refl _)
   | (with_reducible exact LeO.none _)
   | (with_reducible refine LeO.ite ?_ ?_)
   | (with_reducible refine LeO.bind ?_ (fun _ => ?_))
   | exact ih0 _ _ _ _ _ _ _
   | exact ih1 _ _ _ _ _ _ _ _ _ _
   | exact ih2 _ _ _ _ _ _ _ _ _ _ _ _
   | exact dec_Add.mono _ _ _ _ _ _ _
   | exact dec_Dec_Minus.mono _ _ _ _
   | exact dec_Dec_Norm.mono _ _ _ _
   | exact dec_Sub.mono _ _ _ _ _ _ _
   | exact florinlaw02_Places.mono _ _ _ _ _
   | exact florinlaw02_Raw_Make.mono _ _ _ _
   | exact florinlaw02_head.mono _
   | exact florinlaw02_normal.mono _ _ _ _
   | exact num_Add.mono _ _ _
   | exact num_Cmp.mono _ _ _
   | exact num_Sub.mono _ _ _
   | exact num_Trim.mono _ _
   | exact LeO.none _
   | refine LeO.ite ?_ ?_
   | refine LeO.bind ?_ (fun _ => ?_)
  ·intro y0 y1 y2 y3 y4 y5 y6 y7 y8 y9
   unfold florinlaw02_DecAdds.j1
   repeat' first
   | (with_reducible exact ih0 _ _ _ _ _ _ _)
   | (with_reducible exact ih1 _ _ _ _ _ _ _ _ _ _)
   | (with_reducible exact ih2 _ _ _ _ _ _ _ _ _ _ _ _)
   | (with_reducible exact dec_Add.mono _ _ _ _ _ _ _)
   | (with_reducible exact dec_Dec_Minus.mono _ _ _ _)
   | (with_reducible exact dec_Dec_Norm.mono _ _ _ _)
   | (with_reducible exact dec_Sub.mono _ _ _ _ _ _ _)
   | (with_reducible exact florinlaw02_Places.mono _ _ _ _ _)
   | (with_reducible exact florinlaw02_Raw_Make.mono _ _ _ _)
   | (with_reducible exact florinlaw02_head.mono _)
   | (with_reducible exact florinlaw02_normal.mono _ _ _ _)
   | (with_reducible exact num_Add.mono _ _ _)
   | (with_reducible exact num_Cmp.mono _ _ _)
   | (with_reducible exact num_Sub.mono _ _ _)
   | (with_reducible exact num_Trim.mono _ _)
   | (with_reducible exact LeO.refl _)
   | (with_reducible exact LeO.none _)
   | (with_reducible refine LeO.ite ?_ ?_)
   | (with_reducible refine LeO.bind ?_ (fun _ => ?_))
   | exact ih0 _ _ _ _ _ _ _
   | exact ih1 _ _ _ _ _ _ _ _ _ _
   | exact ih2 _ _ _ _ _ _ _ _ _ _ _ _
   | exact dec_Add.mono _ _ _ _ _ _ _
   | exact dec_Dec_Minus.mono _ _ _ _
   | exact dec_Dec_Norm.mono _ _ _ _
   | exact dec_Sub.mono _ _ _ _ _ _ _
   | exact florinlaw02_Places.mono _ _ _ _ _
   | exact florinlaw02_Raw_Make.mono _ _ _ _
   | exact florinlaw02_head.mono _
   | exact florinlaw02_normal.mono _ _ _ _
   | exact num_Add.mono _ _ _
   | exact num_Cmp.mono _ _ _
   | exact num_Sub.mono _ _ _
   | exact num_Trim.mono _ _
   | exact LeO.none _
   | refine LeO.ite ?_ ?_
   | refine LeO.bind ?_ (fun _ => ?_)
  ·intro y0 y1 y2 y3 y4 y5 y6 y7 y8 y9 y10 y11
   unfold florinlaw02_DecAdds.j2
   repeat' first
   | (with_reducible exact ih0 _ _ _ _ _ _ _)
   | (with_reducible exact ih1 _ _ _ _ _ _ _ _ _ _)
   | (with_reducible exact ih2 _ _ _ _ _ _ _ _ _ _ _ _)
   | (with_reducible exact dec_Add.mono _ _ _ _ _ _ _)
   | (with_reducible exact dec_Dec_Minus.mono _ _ _ _)
   | (with_reducible exact dec_Dec_Norm.mono _ _ _ _)
   | (with_reducible exact dec_Sub.mono _ _ _ _ _ _ _)
   | (with_reducible exact florinlaw02_Places.mono _ _ _ _ _)
   | (with_reducible exact florinlaw02_Raw_Make.mono _ _ _ _)
   | (with_reducible exact florinlaw02_head.mono _)
   | (with_reducible exact florinlaw02_normal.mono _ _ _ _)
   | (with_reducible exact num_Add.mono _ _ _)
   | (with_reducible exact num_Cmp.mono _ _ _)
   | (with_reducible exact num_Sub.mono _ _ _)
   | (with_reducible exact num_Trim.mono _ _)
   | (with_reducible exact LeO.refl _)
   | (with_reducible exact LeO.none _)
   | (with_reducible refine LeO.ite ?_ ?_)
   | (with_reducible refine LeO.bind ?_ (fun _ => ?_))
   | exact ih0 _ _ _ _ _ _ _
   | exact ih1 _ _ _ _ _ _ _ _ _ _
   | exact ih2 _ _ _ _ _ _ _ _ _ _ _ _
   | exact dec_Add.mono _ _ _ _ _ _ _
   | exact dec_Dec_Minus.mono _ _ _ _
   | exact dec_Dec_Norm.mono _ _ _ _
   | exact dec_Sub.mono _ _ _ _ _ _ _
   | exact florinlaw02_Places.mono _ _ _ _ _
   | exact florinlaw02_Raw_Make.mono _ _ _ _
   | exact florinlaw02_head.mono _
   | exact florinlaw02_normal.mono _ _ _ _
   | exact num_Add.mono _ _ _
   | exact num_Cmp.mono _ _ _
   | exact num_Sub.mono _ _ _
   | exact num_Trim.mono _ _
   | exact LeO.none _
   | refine LeO.ite ?_ ?_
   | refine LeO.bind ?_ (fun _ => ?_)
theorem florinlaw02_DecAdds.mono : ∀ a0 a1 a2 a3 a4 a5 k, LeO (florinlaw02_DecAdds.f k a0 a1 a2 a3 a4 a5) (florinlaw02_DecAdds.f (k + 1) a0 a1 a2 a3 a4 a5) := by
 intro a0 a1 a2 a3 a4 a5 k
 obtain ⟨ih0, ih1, ih2⟩ := florinlaw02_DecAdds.mono_l k
 unfold florinlaw02_DecAdds.f
 repeat' first
   | (with_reducible exact ih0 _ _ _ _ _ _ _)
   | (with_reducible exact ih1 _ _ _ _ _ _ _ _ _ _)
   | (with_reducible exact ih2 _ _ _ _ _ _ _ _ _ _ _ _)
   | (with_reducible exact dec_Add.mono _ _ _ _ _ _ _)
   | (with_reducible exact dec_Dec_Minus.mono _ _ _ _)
   | (with_reducible exact dec_Dec_Norm.mono _ _ _ _)
   | (with_reducible exact dec_Sub.mono _ _ _ _ _ _ _)
   | (with_reducible exact florinlaw02_Places.mono _ _ _ _ _)
   | (with_reducible exact florinlaw02_Raw_Make.mono _ _ _ _)
   | (with_reducible exact florinlaw02_head.mono _)
   | (with_reducible exact florinlaw02_normal.mono _ _ _ _)
   | (with_reducible exact num_Add.mono _ _ _)
   | (with_reducible exact num_Cmp.mono _ _ _)
   | (with_reducible exact num_Sub.mono _ _ _)
   | (with_reducible exact num_Trim.mono _ _)
   | (with_reducible exact LeO.refl _)
   | (with_reducible exact LeO.none _)
   | (with_reducible refine LeO.ite ?_ ?_)
   | (with_reducible refine LeO.bind ?_ (fun _ => ?_))
   | exact ih0 _ _ _ _ _ _ _
   | exact ih1 _ _ _ _ _ _ _ _ _ _
   | exact ih2 _ _ _ _ _ _ _ _ _ _ _ _
   | exact dec_Add.mono _ _ _ _ _ _ _
   | exact dec_Dec_Minus.mono _ _ _ _
   | exact dec_Dec_Norm.mono _ _ _ _
   | exact dec_Sub.mono _ _ _ _ _ _ _
   | exact florinlaw02_Places.mono _ _ _ _ _
   | exact florinlaw02_Raw_Make.mono _ _ _ _
   | exact florinlaw02_head.mono _
   | exact florinlaw02_normal.mono _ _ _ _
   | exact num_Add.mono _ _ _
   | exact num_Cmp.mono _ _ _
   | exact num_Sub.mono _ _ _
   | exact num_Trim.mono _ _
   | exact LeO.none _
   | refine LeO.ite ?_ ?_
   | refine LeO.bind ?_ (fun _ => ?_)
def florinlaw02_DecAdds.T8 : Bool × List (List Nat × List Nat) := (true, [([], []), ([0], [0]), ([1], [1]), ([2, 1], [2]), ([3], [3]), ([3], [3]), ([3], [3]), ([5, 6, 3, 3], [3, 5, 6]), ([4, 7, 3], [3, 4, 7]), ([3, 8], [3, 8]), ([9, 7], [9]), ([10], [10]), ([10], [10]), ([11, 12, 10, 10], [10, 11, 12]), ([10], [10]), ([14, 13, 10], [10, 14]), ([13, 15, 10], [10, 13, 15]), ([10, 16], [10, 16]), ([17, 15], [17]), ([18], [18]), ([18], [18]), ([19, 20, 18, 18], [18, 19, 20]), ([18], [18]), ([18], [18]), ([22, 23, 21, 18], [18, 22, 23]), ([24, 24, 18], [18, 24]), ([21, 25, 18], [18, 21, 25]), ([18, 26], [18, 26]), ([27, 25], [27]), ([28], [28]), ([28], [28]), ([29, 30, 28, 28], [28, 29, 30]), ([28], [28]), ([32, 31, 28], [28, 32]), ([31, 33, 28], [28, 31, 33]), ([28, 34], [28, 34])])
def florinlaw02_DecAdds.B8 : List Nat := [0, 1, 3, 7, 15, 15, 15, 111, 255, 511, 1023, 2047, 2047, 8191, 2047, 32767, 65535, 131071, 262143, 524287, 524287, 2097151, 524287, 524287, 16777215, 33554431, 67108863, 134217727, 268435455, 536870911, 536870911, 2147483647, 536870911, 8589934591, 17179869183, 34359738367]
theorem florinlaw02_DecAdds.tab8 : rtab .any (opsOf Tryd.f9 8) = florinlaw02_DecAdds.T8 := by kernel_rfl
theorem florinlaw02_DecAdds.bits8 : waitsOk florinlaw02_DecAdds.T8.2 florinlaw02_DecAdds.B8 = true := by kernel_rfl
set_option maxHeartbeats 8000000 in
set_option maxRecDepth 100000 in
theorem florinlaw02_DecAdds.calls (k : Nat) (a0_0 : Bool) (A0_1 : Option Addr) (c0_1 : Nat) (l0_1 : List Int) (a0_2 : Int) (a1_0 : Bool) (A1_1 : Option Addr) (c1_1 : Nat) (l1_1 : List Int) (a1_2 : Int) (r : Bool) (w : World) (hr0_1 : Kd.C (Kd.int .u8) w A0_1 l0_1.length l0_1) (hc0_1 : l0_1.length ≤ c0_1) (hr1_1 : Kd.C (Kd.int .u8) w A1_1 l1_1.length l1_1) (hc1_1 : l1_1.length ≤ c1_1) (h : florinlaw02_DecAdds.f k a0_0 l0_1 a0_2 a1_0 l1_1 a1_2 = some r) (ht : Lib.TabIs Tryd.prog w "internal/strconv.uint64pow10" .u64 Lib.pow10Tab := by first | assumption | exact tb_ (by assumption) (bl_ (by assumption)).out) :
  Calls Tryd.prog 9 #[.agg #[.bool a0_0, .slice A0_1 l0_1.length c0_1, .int .i64 a0_2], .agg #[.bool a1_0, .slice A1_1 l1_1.length c1_1, .int .i64 a1_2]] w fun e w' => e = .returned (.bool r) ∧ Below w.heap.size w w' := by
 have hu33 := Tryd.underlying33
 have hu24 := Tryd.underlying24
 have HR0_1 := Aside0.mk hr0_1
 have HC0_1 := Aside0.mk hc0_1
 clear hr0_1 hc0_1
 have HR1_1 := Aside0.mk hr1_1
 have HC1_1 := Aside0.mk hc1_1
 clear hr1_1 hc1_1
 have HB := Aside0.mk (Below.refl w.heap.size w)
 have H : ((florinlaw02_head.f k).bind fun t483 => (if t483 = true then ((florinlaw02_Raw_Few.f a0_0 l0_1 a0_2 60).bind fun t484 => (if t484 = true then ((florinlaw02_Raw_Few.f a1_0 l1_1 a1_2 60).bind fun t485 => (florinlaw02_DecAdds.j0 k (!t485) a0_0 l0_1 a0_2 a1_0 l1_1 a1_2)) else (florinlaw02_DecAdds.j0 k true a0_0 l0_1 a0_2 a1_0 l1_1 a1_2))) else (some false))) = some r := h
 clear h
 replace H := Option.bind_eq_some_iff.mp H
 obtain ⟨t483, A30, H⟩ := H
 replace H : (if t483 = true then ((florinlaw02_Raw_Few.f a0_0 l0_1 a0_2 60).bind fun t484 => (if t484 = true then ((florinlaw02_Raw_Few.f a1_0 l1_1 a1_2 60).bind fun t485 => (florinlaw02_DecAdds.j0 k (!t485) a0_0 l0_1 a0_2 a1_0 l1_1 a1_2)) else (florinlaw02_DecAdds.j0 k true a0_0 l0_1 a0_2 a1_0 l1_1 a1_2))) else (some false)) = some r := H
 have A3 := Aside0.mk A30
 clear A30
 by_cases c4 : t483 = true
 ·subst c4
  have H1 : ((florinlaw02_Raw_Few.f a0_0 l0_1 a0_2 60).bind fun t484 => (if t484 = true then ((florinlaw02_Raw_Few.f a1_0 l1_1 a1_2 60).bind fun t485 => (florinlaw02_DecAdds.j0 k (!t485) a0_0 l0_1 a0_2 a1_0 l1_1 a1_2)) else (florinlaw02_DecAdds.j0 k true a0_0 l0_1 a0_2 a1_0 l1_1 a1_2))) = some r := by rw [if_pos rfl] at H; exact H
  clear H
  have H := H1
  clear H1
  have HC5 := Aside0.mk H
  clear H
  go_enter Tryd.func9, Tryd.ntmps9
  go_upto_region 3 with (first | ((with_reducible refine gate_dst (N := 2) rfl ?_); refine box_event ?hg (N := 2) ?hd (cs := #[.bool a0_0, .slice A0_1 l0_1.length c0_1, .int .i64 a0_2]) (t := 33) ?hr ?_; (case hd => rfl); (case hg => rfl); (case hr => first | (go_simp; done) | (go_simp; rfl)); intro gb481 hg w6 hbox hb; have n0_ := Aside0.mk (below_step (bl_ HB).out hb); have n1_ := Aside0.mk (hbox); have n2_ := Aside0.mk ((by rw [hg]; exact (below_size (bl_ HB).out) : w.heap.size ≤ gb481)); have n3_ := Aside0.mk ((by rw [hg]; exact (below_size (bl_ HB).out) : w.heap.size ≤ gb481)); clear HB; have HB := n0_; have BK481 := n1_; have GW481 := n2_; have GE481 := n3_; clear n0_ n1_ n2_ n3_; clear hb hbox hg) | ((with_reducible refine gate_dst (N := 3) rfl ?_); refine box_event ?hg (N := 3) ?hd (cs := #[.bool a1_0, .slice A1_1 l1_1.length c1_1, .int .i64 a1_2]) (t := 33) ?hr ?_; (case hd => rfl); (case hg => rfl); (case hr => first | (go_simp; done) | (go_simp; rfl)); intro gb482 hg w7 hbox hb; have n0_ := bb_ BK481 hb; have n1_ := Aside0.mk (below_step (bl_ HB).out hb); have n2_ := Aside0.mk (hbox); have n3_ := Aside0.mk ((by rw [hg]; exact (below_size (bl_ HB).out) : w.heap.size ≤ gb482)); have n4_ := Aside0.mk ((by rw [hg]; exact (below_size (bl_ HB).out) : w.heap.size ≤ gb482)); have n5_ := Aside0.mk ((by rw [hg]; exact Nat.ne_of_lt (blk_lt (g := gb481) (o := .cells #[.bool a0_0, .slice A0_1 l0_1.length c0_1, .int .i64 a0_2] 33 (0, 0)) (by (with_reducible repeat (first | refine blk_drewN ?_ _ | refine blk_drew ?_ | refine blk_alloc ?_ _)); exact BK481.out)) : gb481 ≠ gb482)); have n6_ := Aside0.mk ((by rw [hg]; exact Nat.ne_of_gt (blk_lt (g := gb481) (o := .cells #[.bool a0_0, .slice A0_1 l0_1.length c0_1, .int .i64 a0_2] 33 (0, 0)) (by (with_reducible repeat (first | refine blk_drewN ?_ _ | refine blk_drew ?_ | refine blk_alloc ?_ _)); exact BK481.out)) : gb482 ≠ gb481)); clear BK481; clear HB; have BK481 := n0_; have HB := n1_; have BK482 := n2_; have GW482 := n3_; have GE482 := n4_; have NB481_482 := n5_; have NB482_481 := n6_; clear n0_ n1_ n2_ n3_ n4_ n5_ n6_; clear hb hbox hg) | ((with_reducible refine gate_callee (f := 11) rfl ?_); refine goesL_ (some 13) rfl rfl Tryd.func11 (by kernel_rfl) rfl #[] rfl (by (try simp only [List.map_toArray, List.map_cons, List.map_nil]); first | done | rfl | (simp only [List.length_drop, List.length_take]; rfl) | (have z_ : ∀ s_ : ByteArray, s_.size ≤ 9223372036854775807 → -(s_.size : Int) = wrap64 (-(s_.size : Int)) := (fun s_ h_ => by unfold wrap64; omega); rw [← z_ _ (by omega)]; rfl)) ?_; (with_reducible refine (florinlaw02_head.calls k  true _ A3.out).mono ?_); rintro e w8 ⟨rfl, hb⟩; refine ⟨_, rfl, ?_⟩; have n0_ := bb_ BK481 hb; have n1_ := bb_ BK482 hb; have n2_ := Aside0.mk (below_step (bl_ HB).out hb); clear BK481; clear BK482; clear HB; have BK481 := n0_; have BK482 := n1_; have HB := n2_; clear n0_ n1_ n2_; (try clear hb); (try clear hb2); (try clear hk); (try clear hi)))
  (try simp only [Act.put, List.setIfInBounds_toArray, List.set_cons_zero, List.set_cons_succ])
  go_cut [22] (fun v22 wc => ∃ (kq : Nat) (x22_4 : Bool), v22 = .bool x22_4 ∧ Aside0 (florinlaw02_DecAdds.j0 kq x22_4 a0_0 l0_1 a0_2 a1_0 l1_1 a1_2 = some r) ∧ Aside0 (kq ≤ k) ∧ Aside0 (wc.heap[gb481]? = some (.cells #[.bool a0_0, (.slice A0_1 l0_1.length c0_1), .int .i64 a0_2] 33 (0, 0))) ∧ Aside0 (wc.heap[gb482]? = some (.cells #[.bool a1_0, (.slice A1_1 l1_1.length c1_1), .int .i64 a1_2] 33 (0, 0))) ∧ Aside0 (Below w.heap.size w wc))
  case first =>
   have H := HC5.out
   clear HC5
   replace H := Option.bind_eq_some_iff.mp H
   obtain ⟨t484, A90, H⟩ := H
   replace H : (if t484 = true then ((florinlaw02_Raw_Few.f a1_0 l1_1 a1_2 60).bind fun t485 => (florinlaw02_DecAdds.j0 k (!t485) a0_0 l0_1 a0_2 a1_0 l1_1 a1_2)) else (florinlaw02_DecAdds.j0 k true a0_0 l0_1 a0_2 a1_0 l1_1 a1_2)) = some r := H
   have A9 := Aside0.mk A90
   clear A90
   by_cases c10 : t484 = true
   ·subst c10
    have H1 : ((florinlaw02_Raw_Few.f a1_0 l1_1 a1_2 60).bind fun t485 => (florinlaw02_DecAdds.j0 k (!t485) a0_0 l0_1 a0_2 a1_0 l1_1 a1_2)) = some r := by rw [if_pos rfl] at H; exact H
    clear H
    have H := H1
    clear H1
    replace H := Option.bind_eq_some_iff.mp H
    obtain ⟨t485, A110, H⟩ := H
    replace H : (florinlaw02_DecAdds.j0 k (!t485) a0_0 l0_1 a0_2 a1_0 l1_1 a1_2) = some r := H
    have A11 := Aside0.mk A110
    clear A110
    have H' := Aside0.mk H
    clear H
    have hnb12 := NB481_482.out
    have hnc12 := NB482_481.out
    have hcz13_0 : w8.cell? ⟨gb481, 0, none⟩ = some (.bool a0_0) := (blk_cell BK481.out 0).trans rfl
    have hcz13_1 : w8.cell? ⟨gb481, 1, none⟩ = some (.slice A0_1 l0_1.length c0_1) := (blk_cell BK481.out 1).trans rfl
    have hcz13_2 : w8.cell? ⟨gb481, 2, none⟩ = some (.int .i64 a0_2) := (blk_cell BK481.out 2).trans rfl
    have hfz13_0 := blk_frozen BK481.out 0
    have hfz13_1 := blk_frozen BK481.out 1
    have hfz13_2 := blk_frozen BK481.out 2
    go_wp2_with (first | ((with_reducible refine gate_callee (f := 17) rfl ?_); refine goesL_ (some 16) rfl rfl Tryd.func17 (by kernel_rfl) rfl #[.agg #[.bool a0_0, .slice A0_1 l0_1.length c0_1, .int .i64 a0_2], .int .i64 60] rfl (by (try simp only [List.map_toArray, List.map_cons, List.map_nil]); first | done | rfl | (simp only [List.length_drop, List.length_take]; rfl) | (have z_ : ∀ s_ : ByteArray, s_.size ≤ 9223372036854775807 → -(s_.size : Int) = wrap64 (-(s_.size : Int)) := (fun s_ h_ => by unfold wrap64; omega); rw [← z_ _ (by omega)]; rfl)) ?_; (with_reducible refine (florinlaw02_Raw_Few.calls a0_0 _ _ l0_1 a0_2 60 true _ ?side1 ?side2 A9.out).mono ?_); (case side1 => repeat (first | exact (Kd.C_below HR0_1.out HB.out) | (with_reducible refine Kd.C_alloc ?_ _) | (with_reducible refine Kd.C_drewN ?_ _) | (with_reducible refine Kd.C_drew ?_))); (case side2 => exact HC0_1.out); rintro e w14 ⟨rfl, hb⟩; refine ⟨_, rfl, ?_⟩; have n0_ := bb_ BK481 hb; have n1_ := bb_ BK482 hb; have n2_ := Aside0.mk (below_step (bl_ HB).out hb); clear BK481; clear BK482; clear HB; have BK481 := n0_; have BK482 := n1_; have HB := n2_; clear n0_ n1_ n2_; (try clear hb); (try clear hb2); (try clear hk); (try clear hi); have hcz15_0 : w14.cell? ⟨gb482, 0, none⟩ = some (.bool a1_0) := (blk_cell BK482.out 0).trans rfl; have hcz15_1 : w14.cell? ⟨gb482, 1, none⟩ = some (.slice A1_1 l1_1.length c1_1) := (blk_cell BK482.out 1).trans rfl; have hcz15_2 : w14.cell? ⟨gb482, 2, none⟩ = some (.int .i64 a1_2) := (blk_cell BK482.out 2).trans rfl; have hfz15_0 := blk_frozen BK482.out 0; have hfz15_1 := blk_frozen BK482.out 1; have hfz15_2 := blk_frozen BK482.out 2) | (go_at_call 17; (with_reducible refine (florinlaw02_Raw_Few.calls a1_0 _ _ l1_1 a1_2 60 t485 _ ?side1 ?side2 A11.out).mono ?_); (case side1 => repeat (first | exact (Kd.C_below HR1_1.out HB.out) | (with_reducible refine Kd.C_alloc ?_ _) | (with_reducible refine Kd.C_drewN ?_ _) | (with_reducible refine Kd.C_drew ?_))); (case side2 => exact HC1_1.out); rintro e w16 ⟨rfl, hb⟩; have n0_ := bb_ BK481 hb; have n1_ := bb_ BK482 hb; have n2_ := Aside0.mk (below_step (bl_ HB).out hb); clear BK481; clear BK482; clear HB; have BK481 := n0_; have BK482 := n1_; have HB := n2_; clear n0_ n1_ n2_; (try clear hb); (try clear hb2); (try clear hk); (try clear hi)))
    go_meet
    case rel => exact ⟨_, (!t485), eq_, H', ⟨by first | omega | exact Nat.le_refl _⟩, (bk_ BK481), (bk_ BK482), (bl_ HB)⟩
   ·replace c10 := Bool.eq_false_iff.mpr c10
    subst c10
    have H1 : (florinlaw02_DecAdds.j0 k true a0_0 l0_1 a0_2 a1_0 l1_1 a1_2) = some r := by rw [if_neg (show ¬ (false = true) by decide)] at H; exact H
    clear H
    have H := H1
    clear H1
    have H' := Aside0.mk H
    clear H
    have hnb17 := NB481_482.out
    have hnc17 := NB482_481.out
    have hcz18_0 : w8.cell? ⟨gb481, 0, none⟩ = some (.bool a0_0) := (blk_cell BK481.out 0).trans rfl
    have hcz18_1 : w8.cell? ⟨gb481, 1, none⟩ = some (.slice A0_1 l0_1.length c0_1) := (blk_cell BK481.out 1).trans rfl
    have hcz18_2 : w8.cell? ⟨gb481, 2, none⟩ = some (.int .i64 a0_2) := (blk_cell BK481.out 2).trans rfl
    have hfz18_0 := blk_frozen BK481.out 0
    have hfz18_1 := blk_frozen BK481.out 1
    have hfz18_2 := blk_frozen BK481.out 2
    go_wp2_with (first | ((with_reducible refine gate_callee (f := 17) rfl ?_); refine goesL_ (some 16) rfl rfl Tryd.func17 (by kernel_rfl) rfl #[.agg #[.bool a0_0, .slice A0_1 l0_1.length c0_1, .int .i64 a0_2], .int .i64 60] rfl (by (try simp only [List.map_toArray, List.map_cons, List.map_nil]); first | done | rfl | (simp only [List.length_drop, List.length_take]; rfl) | (have z_ : ∀ s_ : ByteArray, s_.size ≤ 9223372036854775807 → -(s_.size : Int) = wrap64 (-(s_.size : Int)) := (fun s_ h_ => by unfold wrap64; omega); rw [← z_ _ (by omega)]; rfl)) ?_; (with_reducible refine (florinlaw02_Raw_Few.calls a0_0 _ _ l0_1 a0_2 60 false _ ?side1 ?side2 A9.out).mono ?_); (case side1 => repeat (first | exact (Kd.C_below HR0_1.out HB.out) | (with_reducible refine Kd.C_alloc ?_ _) | (with_reducible refine Kd.C_drewN ?_ _) | (with_reducible refine Kd.C_drew ?_))); (case side2 => exact HC0_1.out); rintro e w19 ⟨rfl, hb⟩; refine ⟨_, rfl, ?_⟩; have n0_ := bb_ BK481 hb; have n1_ := bb_ BK482 hb; have n2_ := Aside0.mk (below_step (bl_ HB).out hb); clear BK481; clear BK482; clear HB; have BK481 := n0_; have BK482 := n1_; have HB := n2_; clear n0_ n1_ n2_; (try clear hb); (try clear hb2); (try clear hk); (try clear hi)))
    go_meet
    case rel => exact ⟨_, (true), eq_, H', ⟨by first | omega | exact Nat.le_refl _⟩, (bk_ BK481), (bk_ BK482), (bl_ HB)⟩
  case rest =>
   clear HC5
   try clear c1
   try clear p2
   try clear c4
   try clear p6
   try clear c9
   try clear c10
   try clear c11
   try clear c12
   try clear c17
   try clear hcz13_0
   try clear hcz13_1
   try clear hcz13_2
   try clear hcz15_0
   try clear hcz15_1
   try clear hcz15_2
   try clear hcz18_0
   try clear hcz18_1
   try clear hcz18_2
   try clear hfz13_0
   try clear hfz13_1
   try clear hfz13_2
   try clear hfz15_0
   try clear hfz15_1
   try clear hfz15_2
   try clear hfz18_0
   try clear hfz18_1
   try clear hfz18_2
   obtain ⟨kq, x22_4, rfl, HA, HJ4, BK481, BK482, HB⟩ := hcut
   cases kq with
   | zero => exact absurd HA.out (by simp [florinlaw02_DecAdds.j0])
   | succ kj4 =>
    have H := HA.out
    clear HA
    simp only [florinlaw02_DecAdds.j0] at H
    by_cases c20 : x22_4 = true
    ·subst c20
     have H1 : (some true) = some r := by rw [if_pos rfl] at H; exact H
     clear H
     have H := H1
     clear H1
     obtain rfl := Option.some.inj H
     go_wp2
     go_ret
     exact ⟨by first | rfl | (simp [errW_none, errW_some] <;> rfl) | (simp [*, errW_none, errW_some] <;> first | rfl | exact given_isEmpty _ | exact (given_isEmpty _).symm), by repeat (first | (with_reducible first | exact HB.out | apply below_alloc | apply pw_below_drewN | apply below_drew1 | refine below_set ?_ GE481.out | refine below_set ?_ GE482.out) | exact HB.out)⟩
    ·replace c20 := Bool.eq_false_iff.mpr c20
     subst c20
     have H1 : ((florinlaw02_Raw_Make.f kj4 a0_0 l0_1 a0_2).bind fun bt486 => ((florinlaw02_Raw_Make.f kj4 a1_0 l1_1 a1_2).bind fun bt490 => ((dec_Add.f kj4 bt486.1 bt486.2.1 bt486.2.2 bt490.1 bt490.2.1 bt490.2.2).bind fun bt494 => ((florinlaw02_normal.f kj4 bt494.1 bt494.2.1 bt494.2.2).bind fun t498 => (if t498 = true then ((dec_Add.f kj4 bt490.1 bt490.2.1 bt490.2.2 bt486.1 bt486.2.1 bt486.2.2).bind fun bt499 => (if (!(bt494.1 == bt499.1) || (!(bt494.2.1.toList == bt499.2.1.toList) || (!(bt494.2.2 == bt499.2.2)))) = true then (florinlaw02_DecAdds.j1 kj4 true bt486.1 bt486.2.1 bt486.2.2 bt490.1 bt490.2.1 bt490.2.2 bt494.1 bt494.2.1 bt494.2.2) else ((dec_Sub.f kj4 bt494.1 bt494.2.1 bt494.2.2 bt490.1 bt490.2.1 bt490.2.2).bind fun bt502 => ((dec_Dec_Norm.f kj4 bt486.1 bt486.2.1 bt486.2.2).bind fun bt505 => (if (!(bt502.1 == bt505.1) || (!(bt502.2.1.toList == bt505.2.1.toList) || (!(bt502.2.2 == bt505.2.2)))) = true then (florinlaw02_DecAdds.j1 kj4 true bt486.1 bt486.2.1 bt486.2.2 bt490.1 bt490.2.1 bt490.2.2 bt494.1 bt494.2.1 bt494.2.2) else ((dec_Sub.f kj4 bt486.1 bt486.2.1 bt486.2.2 bt490.1 bt490.2.1 bt490.2.2).bind fun bt508 => ((dec_Sub.f kj4 bt490.1 bt490.2.1 bt490.2.2 bt486.1 bt486.2.1 bt486.2.2).bind fun bt511 => ((dec_Dec_Minus.f kj4 bt511.1 bt511.2.1 bt511.2.2).bind fun bt514 => (if (!(bt508.1 == bt514.1) || (!(bt508.2.1.toList == bt514.2.1.toList) || (!(bt508.2.2 == bt514.2.2)))) = true then (florinlaw02_DecAdds.j1 kj4 true bt486.1 bt486.2.1 bt486.2.2 bt490.1 bt490.2.1 bt490.2.2 bt494.1 bt494.2.1 bt494.2.2) else ((dec_Add.f kj4 bt486.1 bt486.2.1 bt486.2.2 false (⟨#[]⟩ : ByteArray) 0).bind fun bt517 => ((dec_Dec_Norm.f kj4 bt486.1 bt486.2.1 bt486.2.2).bind fun bt520 => (florinlaw02_DecAdds.j1 kj4 (!(bt517.1 == bt520.1) || (!(bt517.2.1.toList == bt520.2.1.toList) || (!(bt517.2.2 == bt520.2.2)))) bt486.1 bt486.2.1 bt486.2.2 bt490.1 bt490.2.1 bt490.2.2 bt494.1 bt494.2.1 bt494.2.2)))))))))))) else (florinlaw02_DecAdds.j1 kj4 true bt486.1 bt486.2.1 bt486.2.2 bt490.1 bt490.2.1 bt490.2.2 bt494.1 bt494.2.1 bt494.2.2)))))) = some r := by rw [if_neg (show ¬ (false = true) by decide)] at H; exact H
     clear H
     have H := H1
     clear H1
     replace H := Option.bind_eq_some_iff.mp H
     obtain ⟨⟨t486, t487, t488⟩, A210, H⟩ := H
     replace H : ((florinlaw02_Raw_Make.f kj4 a1_0 l1_1 a1_2).bind fun bt490 => ((dec_Add.f kj4 t486 t487 t488 bt490.1 bt490.2.1 bt490.2.2).bind fun bt494 => ((florinlaw02_normal.f kj4 bt494.1 bt494.2.1 bt494.2.2).bind fun t498 => (if t498 = true then ((dec_Add.f kj4 bt490.1 bt490.2.1 bt490.2.2 t486 t487 t488).bind fun bt499 => (if (!(bt494.1 == bt499.1) || (!(bt494.2.1.toList == bt499.2.1.toList) || (!(bt494.2.2 == bt499.2.2)))) = true then (florinlaw02_DecAdds.j1 kj4 true t486 t487 t488 bt490.1 bt490.2.1 bt490.2.2 bt494.1 bt494.2.1 bt494.2.2) else ((dec_Sub.f kj4 bt494.1 bt494.2.1 bt494.2.2 bt490.1 bt490.2.1 bt490.2.2).bind fun bt502 => ((dec_Dec_Norm.f kj4 t486 t487 t488).bind fun bt505 => (if (!(bt502.1 == bt505.1) || (!(bt502.2.1.toList == bt505.2.1.toList) || (!(bt502.2.2 == bt505.2.2)))) = true then (florinlaw02_DecAdds.j1 kj4 true t486 t487 t488 bt490.1 bt490.2.1 bt490.2.2 bt494.1 bt494.2.1 bt494.2.2) else ((dec_Sub.f kj4 t486 t487 t488 bt490.1 bt490.2.1 bt490.2.2).bind fun bt508 => ((dec_Sub.f kj4 bt490.1 bt490.2.1 bt490.2.2 t486 t487 t488).bind fun bt511 => ((dec_Dec_Minus.f kj4 bt511.1 bt511.2.1 bt511.2.2).bind fun bt514 => (if (!(bt508.1 == bt514.1) || (!(bt508.2.1.toList == bt514.2.1.toList) || (!(bt508.2.2 == bt514.2.2)))) = true then (florinlaw02_DecAdds.j1 kj4 true t486 t487 t488 bt490.1 bt490.2.1 bt490.2.2 bt494.1 bt494.2.1 bt494.2.2) else ((dec_Add.f kj4 t486 t487 t488 false (⟨#[]⟩ : ByteArray) 0).bind fun bt517 => ((dec_Dec_Norm.f kj4 t486 t487 t488).bind fun bt520 => (florinlaw02_DecAdds.j1 kj4 (!(bt517.1 == bt520.1) || (!(bt517.2.1.toList == bt520.2.1.toList) || (!(bt517.2.2 == bt520.2.2)))) t486 t487 t488 bt490.1 bt490.2.1 bt490.2.2 bt494.1 bt494.2.1 bt494.2.2)))))))))))) else (florinlaw02_DecAdds.j1 kj4 true t486 t487 t488 bt490.1 bt490.2.1 bt490.2.2 bt494.1 bt494.2.1 bt494.2.2))))) = some r := H
     have A21 := Aside0.mk A210
     clear A210
     replace H := Option.bind_eq_some_iff.mp H
     obtain ⟨⟨t490, t491, t492⟩, A220, H⟩ := H
     replace H : ((dec_Add.f kj4 t486 t487 t488 t490 t491 t492).bind fun bt494 => ((florinlaw02_normal.f kj4 bt494.1 bt494.2.1 bt494.2.2).bind fun t498 => (if t498 = true then ((dec_Add.f kj4 t490 t491 t492 t486 t487 t488).bind fun bt499 => (if (!(bt494.1 == bt499.1) || (!(bt494.2.1.toList == bt499.2.1.toList) || (!(bt494.2.2 == bt499.2.2)))) = true then (florinlaw02_DecAdds.j1 kj4 true t486 t487 t488 t490 t491 t492 bt494.1 bt494.2.1 bt494.2.2) else ((dec_Sub.f kj4 bt494.1 bt494.2.1 bt494.2.2 t490 t491 t492).bind fun bt502 => ((dec_Dec_Norm.f kj4 t486 t487 t488).bind fun bt505 => (if (!(bt502.1 == bt505.1) || (!(bt502.2.1.toList == bt505.2.1.toList) || (!(bt502.2.2 == bt505.2.2)))) = true then (florinlaw02_DecAdds.j1 kj4 true t486 t487 t488 t490 t491 t492 bt494.1 bt494.2.1 bt494.2.2) else ((dec_Sub.f kj4 t486 t487 t488 t490 t491 t492).bind fun bt508 => ((dec_Sub.f kj4 t490 t491 t492 t486 t487 t488).bind fun bt511 => ((dec_Dec_Minus.f kj4 bt511.1 bt511.2.1 bt511.2.2).bind fun bt514 => (if (!(bt508.1 == bt514.1) || (!(bt508.2.1.toList == bt514.2.1.toList) || (!(bt508.2.2 == bt514.2.2)))) = true then (florinlaw02_DecAdds.j1 kj4 true t486 t487 t488 t490 t491 t492 bt494.1 bt494.2.1 bt494.2.2) else ((dec_Add.f kj4 t486 t487 t488 false (⟨#[]⟩ : ByteArray) 0).bind fun bt517 => ((dec_Dec_Norm.f kj4 t486 t487 t488).bind fun bt520 => (florinlaw02_DecAdds.j1 kj4 (!(bt517.1 == bt520.1) || (!(bt517.2.1.toList == bt520.2.1.toList) || (!(bt517.2.2 == bt520.2.2)))) t486 t487 t488 t490 t491 t492 bt494.1 bt494.2.1 bt494.2.2)))))))))))) else (florinlaw02_DecAdds.j1 kj4 true t486 t487 t488 t490 t491 t492 bt494.1 bt494.2.1 bt494.2.2)))) = some r := H
     have A22 := Aside0.mk A220
     clear A220
     replace H := Option.bind_eq_some_iff.mp H
     obtain ⟨⟨t494, t495, t496⟩, A230, H⟩ := H
     replace H : ((florinlaw02_normal.f kj4 t494 t495 t496).bind fun t498 => (if t498 = true then ((dec_Add.f kj4 t490 t491 t492 t486 t487 t488).bind fun bt499 => (if (!(t494 == bt499.1) || (!(t495.toList == bt499.2.1.toList) || (!(t496 == bt499.2.2)))) = true then (florinlaw02_DecAdds.j1 kj4 true t486 t487 t488 t490 t491 t492 t494 t495 t496) else ((dec_Sub.f kj4 t494 t495 t496 t490 t491 t492).bind fun bt502 => ((dec_Dec_Norm.f kj4 t486 t487 t488).bind fun bt505 => (if (!(bt502.1 == bt505.1) || (!(bt502.2.1.toList == bt505.2.1.toList) || (!(bt502.2.2 == bt505.2.2)))) = true then (florinlaw02_DecAdds.j1 kj4 true t486 t487 t488 t490 t491 t492 t494 t495 t496) else ((dec_Sub.f kj4 t486 t487 t488 t490 t491 t492).bind fun bt508 => ((dec_Sub.f kj4 t490 t491 t492 t486 t487 t488).bind fun bt511 => ((dec_Dec_Minus.f kj4 bt511.1 bt511.2.1 bt511.2.2).bind fun bt514 => (if (!(bt508.1 == bt514.1) || (!(bt508.2.1.toList == bt514.2.1.toList) || (!(bt508.2.2 == bt514.2.2)))) = true then (florinlaw02_DecAdds.j1 kj4 true t486 t487 t488 t490 t491 t492 t494 t495 t496) else ((dec_Add.f kj4 t486 t487 t488 false (⟨#[]⟩ : ByteArray) 0).bind fun bt517 => ((dec_Dec_Norm.f kj4 t486 t487 t488).bind fun bt520 => (florinlaw02_DecAdds.j1 kj4 (!(bt517.1 == bt520.1) || (!(bt517.2.1.toList == bt520.2.1.toList) || (!(bt517.2.2 == bt520.2.2)))) t486 t487 t488 t490 t491 t492 t494 t495 t496)))))))))))) else (florinlaw02_DecAdds.j1 kj4 true t486 t487 t488 t490 t491 t492 t494 t495 t496))) = some r := H
     have A23 := Aside0.mk A230
     clear A230
     have HC24 := Aside0.mk H
     clear H
     have hnb25 := NB481_482.out
     have hnc25 := NB482_481.out
     have hcz26_0 : wc.cell? ⟨gb481, 0, none⟩ = some (.bool a0_0) := (blk_cell BK481.out 0).trans rfl
     have hcz26_1 : wc.cell? ⟨gb481, 1, none⟩ = some (.slice A0_1 l0_1.length c0_1) := (blk_cell BK481.out 1).trans rfl
     have hcz26_2 : wc.cell? ⟨gb481, 2, none⟩ = some (.int .i64 a0_2) := (blk_cell BK481.out 2).trans rfl
     have hfz26_0 := blk_frozen BK481.out 0
     have hfz26_1 := blk_frozen BK481.out 1
     have hfz26_2 := blk_frozen BK481.out 2
     go_upto_region 8 with (first | ((with_reducible refine gate_callee (f := 18) rfl ?_); refine goesL_ (some 24) rfl rfl Tryd.func18 (by kernel_rfl) rfl #[.agg #[.bool a0_0, .slice A0_1 l0_1.length c0_1, .int .i64 a0_2]] rfl (by (try simp only [List.map_toArray, List.map_cons, List.map_nil]); first | done | rfl | (simp only [List.length_drop, List.length_take]; rfl) | (have z_ : ∀ s_ : ByteArray, s_.size ≤ 9223372036854775807 → -(s_.size : Int) = wrap64 (-(s_.size : Int)) := (fun s_ h_ => by unfold wrap64; omega); rw [← z_ _ (by omega)]; rfl)) ?_; (with_reducible refine (florinlaw02_Raw_Make.calls kj4 a0_0 _ _ l0_1 a0_2 t486 t487 t488 _ ?side1 ?side2 A21.out).mono ?_); (case side1 => repeat (first | exact (Kd.C_below HR0_1.out HB.out) | (with_reducible refine Kd.C_alloc ?_ _) | (with_reducible refine Kd.C_drewN ?_ _) | (with_reducible refine Kd.C_drew ?_))); (case side2 => exact HC0_1.out); rintro e w27 ⟨rfl, hb⟩; refine ⟨_, rfl, ?_⟩; have n0_ := bb_ BK481 hb; have n1_ := bb_ BK482 hb; have n2_ := Aside0.mk (below_step (bl_ HB).out hb); clear BK481; clear BK482; clear HB; have BK481 := n0_; have BK482 := n1_; have HB := n2_; clear n0_ n1_ n2_; (try clear hb); (try clear hb2); (try clear hk); (try clear hi)) | ((with_reducible refine gate_dst (N := 5) rfl ?_); refine box_event ?hg (N := 5) ?hd (cs := #[.bool false, .string (⟨#[]⟩ : ByteArray), .int .i64 0]) (t := 24) ?hr ?_; (case hd => rfl); (case hg => rfl); (case hr => first | (go_simp; done) | (go_simp; rfl)); intro gb489 hg w28 hbox hb; have n0_ := bb_ BK481 hb; have n1_ := bb_ BK482 hb; have n2_ := Aside0.mk (below_step (bl_ HB).out hb); have n3_ := Aside0.mk (hbox); have n4_ := Aside0.mk ((by rw [hg]; exact (below_size (bl_ HB).out) : w.heap.size ≤ gb489)); have n5_ := Aside0.mk ((by rw [hg]; exact (below_size (bl_ HB).out) : w.heap.size ≤ gb489)); have n6_ := Aside0.mk ((by rw [hg]; exact Nat.ne_of_lt (blk_lt (g := gb481) (o := .cells #[.bool a0_0, .slice A0_1 l0_1.length c0_1, .int .i64 a0_2] 33 (0, 0)) (by (with_reducible repeat (first | refine blk_drewN ?_ _ | refine blk_drew ?_ | refine blk_alloc ?_ _)); exact BK481.out)) : gb481 ≠ gb489)); have n7_ := Aside0.mk ((by rw [hg]; exact Nat.ne_of_gt (blk_lt (g := gb481) (o := .cells #[.bool a0_0, .slice A0_1 l0_1.length c0_1, .int .i64 a0_2] 33 (0, 0)) (by (with_reducible repeat (first | refine blk_drewN ?_ _ | refine blk_drew ?_ | refine blk_alloc ?_ _)); exact BK481.out)) : gb489 ≠ gb481)); have n8_ := Aside0.mk ((by rw [hg]; exact Nat.ne_of_lt (blk_lt (g := gb482) (o := .cells #[.bool a1_0, .slice A1_1 l1_1.length c1_1, .int .i64 a1_2] 33 (0, 0)) (by (with_reducible repeat (first | refine blk_drewN ?_ _ | refine blk_drew ?_ | refine blk_alloc ?_ _)); exact BK482.out)) : gb482 ≠ gb489)); have n9_ := Aside0.mk ((by rw [hg]; exact Nat.ne_of_gt (blk_lt (g := gb482) (o := .cells #[.bool a1_0, .slice A1_1 l1_1.length c1_1, .int .i64 a1_2] 33 (0, 0)) (by (with_reducible repeat (first | refine blk_drewN ?_ _ | refine blk_drew ?_ | refine blk_alloc ?_ _)); exact BK482.out)) : gb489 ≠ gb482)); clear BK481; clear BK482; clear HB; have BK481 := n0_; have BK482 := n1_; have HB := n2_; have BK489 := n3_; have GW489 := n4_; have GE489 := n5_; have NB481_489 := n6_; have NB489_481 := n7_; have NB482_489 := n8_; have NB489_482 := n9_; clear n0_ n1_ n2_ n3_ n4_ n5_ n6_ n7_ n8_ n9_; clear hb hbox hg; have hnb29 := NB489_481.out; have hnc29 := NB481_489.out; have hnb30 := NB489_482.out; have hnc30 := NB482_489.out; have hcz31_0 : w28.cell? ⟨gb489, 0, none⟩ = some (.bool false) := (blk_cell BK489.out 0).trans rfl; have hcz31_1 : w28.cell? ⟨gb489, 1, none⟩ = some (.string (⟨#[]⟩ : ByteArray)) := (blk_cell BK489.out 1).trans rfl; have hcz31_2 : w28.cell? ⟨gb489, 2, none⟩ = some (.int .i64 0) := (blk_cell BK489.out 2).trans rfl; have hfz31_0 := blk_frozen BK489.out 0; have hfz31_1 := blk_frozen BK489.out 1; have hfz31_2 := blk_frozen BK489.out 2; have hcz32_0 : w28.cell? ⟨gb482, 0, none⟩ = some (.bool a1_0) := (blk_cell BK482.out 0).trans rfl; have hcz32_1 : w28.cell? ⟨gb482, 1, none⟩ = some (.slice A1_1 l1_1.length c1_1) := (blk_cell BK482.out 1).trans rfl; have hcz32_2 : w28.cell? ⟨gb482, 2, none⟩ = some (.int .i64 a1_2) := (blk_cell BK482.out 2).trans rfl; have hfz32_0 := blk_frozen BK482.out 0; have hfz32_1 := blk_frozen BK482.out 1; have hfz32_2 := blk_frozen BK482.out 2) | ((with_reducible refine gate_callee (f := 18) rfl ?_); refine goesL_ (some 26) rfl rfl Tryd.func18 (by kernel_rfl) rfl #[.agg #[.bool a1_0, .slice A1_1 l1_1.length c1_1, .int .i64 a1_2]] rfl (by (try simp only [List.map_toArray, List.map_cons, List.map_nil]); first | done | rfl | (simp only [List.length_drop, List.length_take]; rfl) | (have z_ : ∀ s_ : ByteArray, s_.size ≤ 9223372036854775807 → -(s_.size : Int) = wrap64 (-(s_.size : Int)) := (fun s_ h_ => by unfold wrap64; omega); rw [← z_ _ (by omega)]; rfl)) ?_; (with_reducible refine (florinlaw02_Raw_Make.calls kj4 a1_0 _ _ l1_1 a1_2 t490 t491 t492 _ ?side1 ?side2 A22.out).mono ?_); (case side1 => exact Kd.C_below HR1_1.out (bl_ HB).out); (case side2 => exact HC1_1.out); rintro e w33 ⟨rfl, hb⟩; refine ⟨_, rfl, ?_⟩; have n0_ := Aside0.mk (blk_below (g := gb481) (o := .cells #[.bool a0_0, .slice A0_1 l0_1.length c0_1, .int .i64 a0_2] 33 (0, 0)) (by (with_reducible repeat (first | refine blk_drewN ?_ _ | refine blk_drew ?_ | refine blk_alloc ?_ _)); refine blk_far ?_ NB481_489.out _; (with_reducible repeat (first | refine blk_drewN ?_ _ | refine blk_drew ?_ | refine blk_alloc ?_ _)); refine blk_far ?_ NB481_489.out _; (with_reducible repeat (first | refine blk_drewN ?_ _ | refine blk_drew ?_ | refine blk_alloc ?_ _)); refine blk_far ?_ NB481_489.out _; (with_reducible repeat (first | refine blk_drewN ?_ _ | refine blk_drew ?_ | refine blk_alloc ?_ _)); exact BK481.out) hb); have n1_ := Aside0.mk (blk_below (g := gb482) (o := .cells #[.bool a1_0, .slice A1_1 l1_1.length c1_1, .int .i64 a1_2] 33 (0, 0)) (by (with_reducible repeat (first | refine blk_drewN ?_ _ | refine blk_drew ?_ | refine blk_alloc ?_ _)); refine blk_far ?_ NB482_489.out _; (with_reducible repeat (first | refine blk_drewN ?_ _ | refine blk_drew ?_ | refine blk_alloc ?_ _)); refine blk_far ?_ NB482_489.out _; (with_reducible repeat (first | refine blk_drewN ?_ _ | refine blk_drew ?_ | refine blk_alloc ?_ _)); refine blk_far ?_ NB482_489.out _; (with_reducible repeat (first | refine blk_drewN ?_ _ | refine blk_drew ?_ | refine blk_alloc ?_ _)); exact BK482.out) hb); have n2_ := Aside0.mk (blk_below (g := gb489) (o := .cells #[.bool t486, .string t487, .int .i64 t488] 24 (0, 0)) (by (with_reducible repeat (first | refine blk_drewN ?_ _ | refine blk_drew ?_ | refine blk_alloc ?_ _)); refine blk_put (cs := #[.bool t486, .string t487, .int .i64 0]) ?_ 2 _ rfl; (with_reducible repeat (first | refine blk_drewN ?_ _ | refine blk_drew ?_ | refine blk_alloc ?_ _)); refine blk_put (cs := #[.bool t486, .string (⟨#[]⟩ : ByteArray), .int .i64 0]) ?_ 1 _ rfl; (with_reducible repeat (first | refine blk_drewN ?_ _ | refine blk_drew ?_ | refine blk_alloc ?_ _)); refine blk_put (cs := #[.bool false, .string (⟨#[]⟩ : ByteArray), .int .i64 0]) ?_ 0 _ rfl; (with_reducible repeat (first | refine blk_drewN ?_ _ | refine blk_drew ?_ | refine blk_alloc ?_ _)); exact BK489.out) hb); have n3_ := Aside0.mk (below_step (bl_ HB).out hb); clear BK481; clear BK482; clear BK489; clear HB; have BK481 := n0_; have BK482 := n1_; have BK489 := n2_; have HB := n3_; clear n0_ n1_ n2_ n3_; (try clear hb); (try clear hb2); (try clear hk); (try clear hi)) | ((with_reducible refine gate_dst (N := 6) rfl ?_); refine box_event ?hg (N := 6) ?hd (cs := #[.bool false, .string (⟨#[]⟩ : ByteArray), .int .i64 0]) (t := 24) ?hr ?_; (case hd => rfl); (case hg => rfl); (case hr => first | (go_simp; done) | (go_simp; rfl)); intro gb493 hg w34 hbox hb; have n0_ := bb_ BK481 hb; have n1_ := bb_ BK482 hb; have n2_ := bb_ BK489 hb; have n3_ := Aside0.mk (below_step (bl_ HB).out hb); have n4_ := Aside0.mk (hbox); have n5_ := Aside0.mk ((by rw [hg]; exact (below_size (bl_ HB).out) : w.heap.size ≤ gb493)); have n6_ := Aside0.mk ((by rw [hg]; exact (below_size (bl_ HB).out) : w.heap.size ≤ gb493)); have n7_ := Aside0.mk ((by rw [hg]; exact Nat.ne_of_lt (blk_lt (g := gb481) (o := .cells #[.bool a0_0, .slice A0_1 l0_1.length c0_1, .int .i64 a0_2] 33 (0, 0)) (by (with_reducible repeat (first | refine blk_drewN ?_ _ | refine blk_drew ?_ | refine blk_alloc ?_ _)); exact BK481.out)) : gb481 ≠ gb493)); have n8_ := Aside0.mk ((by rw [hg]; exact Nat.ne_of_gt (blk_lt (g := gb481) (o := .cells #[.bool a0_0, .slice A0_1 l0_1.length c0_1, .int .i64 a0_2] 33 (0, 0)) (by (with_reducible repeat (first | refine blk_drewN ?_ _ | refine blk_drew ?_ | refine blk_alloc ?_ _)); exact BK481.out)) : gb493 ≠ gb481)); have n9_ := Aside0.mk ((by rw [hg]; exact Nat.ne_of_lt (blk_lt (g := gb482) (o := .cells #[.bool a1_0, .slice A1_1 l1_1.length c1_1, .int .i64 a1_2] 33 (0, 0)) (by (with_reducible repeat (first | refine blk_drewN ?_ _ | refine blk_drew ?_ | refine blk_alloc ?_ _)); exact BK482.out)) : gb482 ≠ gb493)); have n10_ := Aside0.mk ((by rw [hg]; exact Nat.ne_of_gt (blk_lt (g := gb482) (o := .cells #[.bool a1_0, .slice A1_1 l1_1.length c1_1, .int .i64 a1_2] 33 (0, 0)) (by (with_reducible repeat (first | refine blk_drewN ?_ _ | refine blk_drew ?_ | refine blk_alloc ?_ _)); exact BK482.out)) : gb493 ≠ gb482)); have n11_ := Aside0.mk ((by rw [hg]; exact Nat.ne_of_lt (blk_lt (g := gb489) (o := .cells #[.bool t486, .string t487, .int .i64 t488] 24 (0, 0)) (by (with_reducible repeat (first | refine blk_drewN ?_ _ | refine blk_drew ?_ | refine blk_alloc ?_ _)); exact BK489.out)) : gb489 ≠ gb493)); have n12_ := Aside0.mk ((by rw [hg]; exact Nat.ne_of_gt (blk_lt (g := gb489) (o := .cells #[.bool t486, .string t487, .int .i64 t488] 24 (0, 0)) (by (with_reducible repeat (first | refine blk_drewN ?_ _ | refine blk_drew ?_ | refine blk_alloc ?_ _)); exact BK489.out)) : gb493 ≠ gb489)); clear BK481; clear BK482; clear BK489; clear HB; have BK481 := n0_; have BK482 := n1_; have BK489 := n2_; have HB := n3_; have BK493 := n4_; have GW493 := n5_; have GE493 := n6_; have NB481_493 := n7_; have NB493_481 := n8_; have NB482_493 := n9_; have NB493_482 := n10_; have NB489_493 := n11_; have NB493_489 := n12_; clear n0_ n1_ n2_ n3_ n4_ n5_ n6_ n7_ n8_ n9_ n10_ n11_ n12_; clear hb hbox hg; have hnb35 := NB493_481.out; have hnc35 := NB481_493.out; have hnb36 := NB493_482.out; have hnc36 := NB482_493.out; have hnb37 := NB493_489.out; have hnc37 := NB489_493.out; have hcz38_0 : w34.cell? ⟨gb493, 0, none⟩ = some (.bool false) := (blk_cell BK493.out 0).trans rfl; have hcz38_1 : w34.cell? ⟨gb493, 1, none⟩ = some (.string (⟨#[]⟩ : ByteArray)) := (blk_cell BK493.out 1).trans rfl; have hcz38_2 : w34.cell? ⟨gb493, 2, none⟩ = some (.int .i64 0) := (blk_cell BK493.out 2).trans rfl; have hfz38_0 := blk_frozen BK493.out 0; have hfz38_1 := blk_frozen BK493.out 1; have hfz38_2 := blk_frozen BK493.out 2; have hcz39_0 : w34.cell? ⟨gb489, 0, none⟩ = some (.bool t486) := (blk_cell BK489.out 0).trans rfl; have hcz39_1 : w34.cell? ⟨gb489, 1, none⟩ = some (.string t487) := (blk_cell BK489.out 1).trans rfl; have hcz39_2 : w34.cell? ⟨gb489, 2, none⟩ = some (.int .i64 t488) := (blk_cell BK489.out 2).trans rfl; have hfz39_0 := blk_frozen BK489.out 0; have hfz39_1 := blk_frozen BK489.out 1; have hfz39_2 := blk_frozen BK489.out 2) | ((with_reducible refine gate_callee (f := 32) rfl ?_); refine goesL_ (some 29) rfl rfl Tryd.func32 (by kernel_rfl) rfl #[.agg #[.bool t486, .string t487, .int .i64 t488], .agg #[.bool t490, .string t491, .int .i64 t492]] rfl (by (try simp only [List.map_toArray, List.map_cons, List.map_nil]); first | done | rfl | (simp only [List.length_drop, List.length_take]; rfl) | (have z_ : ∀ s_ : ByteArray, s_.size ≤ 9223372036854775807 → -(s_.size : Int) = wrap64 (-(s_.size : Int)) := (fun s_ h_ => by unfold wrap64; omega); rw [← z_ _ (by omega)]; rfl)) ?_; (with_reducible refine (dec_Add.calls kj4 t486 t487 t488 t490 t491 t492 t494 t495 t496 _ A23.out).mono ?_); rintro e w40 ⟨rfl, hb⟩; refine ⟨_, rfl, ?_⟩; have n0_ := Aside0.mk (blk_below (g := gb481) (o := .cells #[.bool a0_0, .slice A0_1 l0_1.length c0_1, .int .i64 a0_2] 33 (0, 0)) (by (with_reducible repeat (first | refine blk_drewN ?_ _ | refine blk_drew ?_ | refine blk_alloc ?_ _)); refine blk_far ?_ NB481_493.out _; (with_reducible repeat (first | refine blk_drewN ?_ _ | refine blk_drew ?_ | refine blk_alloc ?_ _)); refine blk_far ?_ NB481_493.out _; (with_reducible repeat (first | refine blk_drewN ?_ _ | refine blk_drew ?_ | refine blk_alloc ?_ _)); refine blk_far ?_ NB481_493.out _; (with_reducible repeat (first | refine blk_drewN ?_ _ | refine blk_drew ?_ | refine blk_alloc ?_ _)); exact BK481.out) hb); have n1_ := Aside0.mk (blk_below (g := gb482) (o := .cells #[.bool a1_0, .slice A1_1 l1_1.length c1_1, .int .i64 a1_2] 33 (0, 0)) (by (with_reducible repeat (first | refine blk_drewN ?_ _ | refine blk_drew ?_ | refine blk_alloc ?_ _)); refine blk_far ?_ NB482_493.out _; (with_reducible repeat (first | refine blk_drewN ?_ _ | refine blk_drew ?_ | refine blk_alloc ?_ _)); refine blk_far ?_ NB482_493.out _; (with_reducible repeat (first | refine blk_drewN ?_ _ | refine blk_drew ?_ | refine blk_alloc ?_ _)); refine blk_far ?_ NB482_493.out _; (with_reducible repeat (first | refine blk_drewN ?_ _ | refine blk_drew ?_ | refine blk_alloc ?_ _)); exact BK482.out) hb); have n2_ := Aside0.mk (blk_below (g := gb489) (o := .cells #[.bool t486, .string t487, .int .i64 t488] 24 (0, 0)) (by (with_reducible repeat (first | refine blk_drewN ?_ _ | refine blk_drew ?_ | refine blk_alloc ?_ _)); refine blk_far ?_ NB489_493.out _; (with_reducible repeat (first | refine blk_drewN ?_ _ | refine blk_drew ?_ | refine blk_alloc ?_ _)); refine blk_far ?_ NB489_493.out _; (with_reducible repeat (first | refine blk_drewN ?_ _ | refine blk_drew ?_ | refine blk_alloc ?_ _)); refine blk_far ?_ NB489_493.out _; (with_reducible repeat (first | refine blk_drewN ?_ _ | refine blk_drew ?_ | refine blk_alloc ?_ _)); exact BK489.out) hb); have n3_ := Aside0.mk (blk_below (g := gb493) (o := .cells #[.bool t490, .string t491, .int .i64 t492] 24 (0, 0)) (by (with_reducible repeat (first | refine blk_drewN ?_ _ | refine blk_drew ?_ | refine blk_alloc ?_ _)); refine blk_put (cs := #[.bool t490, .string t491, .int .i64 0]) ?_ 2 _ rfl; (with_reducible repeat (first | refine blk_drewN ?_ _ | refine blk_drew ?_ | refine blk_alloc ?_ _)); refine blk_put (cs := #[.bool t490, .string (⟨#[]⟩ : ByteArray), .int .i64 0]) ?_ 1 _ rfl; (with_reducible repeat (first | refine blk_drewN ?_ _ | refine blk_drew ?_ | refine blk_alloc ?_ _)); refine blk_put (cs := #[.bool false, .string (⟨#[]⟩ : ByteArray), .int .i64 0]) ?_ 0 _ rfl; (with_reducible repeat (first | refine blk_drewN ?_ _ | refine blk_drew ?_ | refine blk_alloc ?_ _)); exact BK493.out) hb); have n4_ := Aside0.mk (below_step (bl_ HB).out hb); clear BK481; clear BK482; clear BK489; clear BK493; clear HB; have BK481 := n0_; have BK482 := n1_; have BK489 := n2_; have BK493 := n3_; have HB := n4_; clear n0_ n1_ n2_ n3_ n4_; (try clear hb); (try clear hb2); (try clear hk); (try clear hi)) | ((with_reducible refine gate_dst (N := 7) rfl ?_); refine box_event ?hg (N := 7) ?hd (cs := #[.bool false, .string (⟨#[]⟩ : ByteArray), .int .i64 0]) (t := 24) ?hr ?_; (case hd => rfl); (case hg => rfl); (case hr => first | (go_simp; done) | (go_simp; rfl)); intro gb497 hg w41 hbox hb; have n0_ := bb_ BK481 hb; have n1_ := bb_ BK482 hb; have n2_ := bb_ BK489 hb; have n3_ := bb_ BK493 hb; have n4_ := Aside0.mk (below_step (bl_ HB).out hb); have n5_ := Aside0.mk (hbox); have n6_ := Aside0.mk ((by rw [hg]; exact (below_size (bl_ HB).out) : w.heap.size ≤ gb497)); have n7_ := Aside0.mk ((by rw [hg]; exact (below_size (bl_ HB).out) : w.heap.size ≤ gb497)); have n8_ := Aside0.mk ((by rw [hg]; exact Nat.ne_of_lt (blk_lt (g := gb481) (o := .cells #[.bool a0_0, .slice A0_1 l0_1.length c0_1, .int .i64 a0_2] 33 (0, 0)) (by (with_reducible repeat (first | refine blk_drewN ?_ _ | refine blk_drew ?_ | refine blk_alloc ?_ _)); exact BK481.out)) : gb481 ≠ gb497)); have n9_ := Aside0.mk ((by rw [hg]; exact Nat.ne_of_gt (blk_lt (g := gb481) (o := .cells #[.bool a0_0, .slice A0_1 l0_1.length c0_1, .int .i64 a0_2] 33 (0, 0)) (by (with_reducible repeat (first | refine blk_drewN ?_ _ | refine blk_drew ?_ | refine blk_alloc ?_ _)); exact BK481.out)) : gb497 ≠ gb481)); have n10_ := Aside0.mk ((by rw [hg]; exact Nat.ne_of_lt (blk_lt (g := gb482) (o := .cells #[.bool a1_0, .slice A1_1 l1_1.length c1_1, .int .i64 a1_2] 33 (0, 0)) (by (with_reducible repeat (first | refine blk_drewN ?_ _ | refine blk_drew ?_ | refine blk_alloc ?_ _)); exact BK482.out)) : gb482 ≠ gb497)); have n11_ := Aside0.mk ((by rw [hg]; exact Nat.ne_of_gt (blk_lt (g := gb482) (o := .cells #[.bool a1_0, .slice A1_1 l1_1.length c1_1, .int .i64 a1_2] 33 (0, 0)) (by (with_reducible repeat (first | refine blk_drewN ?_ _ | refine blk_drew ?_ | refine blk_alloc ?_ _)); exact BK482.out)) : gb497 ≠ gb482)); have n12_ := Aside0.mk ((by rw [hg]; exact Nat.ne_of_lt (blk_lt (g := gb489) (o := .cells #[.bool t486, .string t487, .int .i64 t488] 24 (0, 0)) (by (with_reducible repeat (first | refine blk_drewN ?_ _ | refine blk_drew ?_ | refine blk_alloc ?_ _)); exact BK489.out)) : gb489 ≠ gb497)); have n13_ := Aside0.mk ((by rw [hg]; exact Nat.ne_of_gt (blk_lt (g := gb489) (o := .cells #[.bool t486, .string t487, .int .i64 t488] 24 (0, 0)) (by (with_reducible repeat (first | refine blk_drewN ?_ _ | refine blk_drew ?_ | refine blk_alloc ?_ _)); exact BK489.out)) : gb497 ≠ gb489)); have n14_ := Aside0.mk ((by rw [hg]; exact Nat.ne_of_lt (blk_lt (g := gb493) (o := .cells #[.bool t490, .string t491, .int .i64 t492] 24 (0, 0)) (by (with_reducible repeat (first | refine blk_drewN ?_ _ | refine blk_drew ?_ | refine blk_alloc ?_ _)); exact BK493.out)) : gb493 ≠ gb497)); have n15_ := Aside0.mk ((by rw [hg]; exact Nat.ne_of_gt (blk_lt (g := gb493) (o := .cells #[.bool t490, .string t491, .int .i64 t492] 24 (0, 0)) (by (with_reducible repeat (first | refine blk_drewN ?_ _ | refine blk_drew ?_ | refine blk_alloc ?_ _)); exact BK493.out)) : gb497 ≠ gb493)); clear BK481; clear BK482; clear BK489; clear BK493; clear HB; have BK481 := n0_; have BK482 := n1_; have BK489 := n2_; have BK493 := n3_; have HB := n4_; have BK497 := n5_; have GW497 := n6_; have GE497 := n7_; have NB481_497 := n8_; have NB497_481 := n9_; have NB482_497 := n10_; have NB497_482 := n11_; have NB489_497 := n12_; have NB497_489 := n13_; have NB493_497 := n14_; have NB497_493 := n15_; clear n0_ n1_ n2_ n3_ n4_ n5_ n6_ n7_ n8_ n9_ n10_ n11_ n12_ n13_ n14_ n15_; clear hb hbox hg; have hnb42 := NB497_481.out; have hnc42 := NB481_497.out; have hnb43 := NB497_482.out; have hnc43 := NB482_497.out; have hnb44 := NB497_489.out; have hnc44 := NB489_497.out; have hnb45 := NB497_493.out; have hnc45 := NB493_497.out; have hcz46_0 : w41.cell? ⟨gb497, 0, none⟩ = some (.bool false) := (blk_cell BK497.out 0).trans rfl; have hcz46_1 : w41.cell? ⟨gb497, 1, none⟩ = some (.string (⟨#[]⟩ : ByteArray)) := (blk_cell BK497.out 1).trans rfl; have hcz46_2 : w41.cell? ⟨gb497, 2, none⟩ = some (.int .i64 0) := (blk_cell BK497.out 2).trans rfl; have hfz46_0 := blk_frozen BK497.out 0; have hfz46_1 := blk_frozen BK497.out 1; have hfz46_2 := blk_frozen BK497.out 2))
     (try simp only [Act.put, List.setIfInBounds_toArray, List.set_cons_zero, List.set_cons_succ])
     go_cut [65] (fun v65 wc => ∃ (kq : Nat) (x65_23 : Bool), v65 = .bool x65_23 ∧ Aside0 (florinlaw02_DecAdds.j1 kq x65_23 t486 t487 t488 t490 t491 t492 t494 t495 t496 = some r) ∧ Aside0 (kq ≤ kj4) ∧ Aside0 (wc.heap[gb481]? = some (.cells #[.bool a0_0, (.slice A0_1 l0_1.length c0_1), .int .i64 a0_2] 33 (0, 0))) ∧ Aside0 (wc.heap[gb482]? = some (.cells #[.bool a1_0, (.slice A1_1 l1_1.length c1_1), .int .i64 a1_2] 33 (0, 0))) ∧ Aside0 (wc.heap[gb489]? = some (.cells #[.bool t486, .string t487, .int .i64 t488] 24 (0, 0))) ∧ Aside0 (wc.heap[gb493]? = some (.cells #[.bool t490, .string t491, .int .i64 t492] 24 (0, 0))) ∧ Aside0 (wc.heap[gb497]? = some (.cells #[.bool t494, .string t495, .int .i64 t496] 24 (0, 0))) ∧ Aside0 (Below w.heap.size w wc))
     case first =>
      have H := HC24.out
      clear HC24
      replace H := Option.bind_eq_some_iff.mp H
      obtain ⟨t498, A470, H⟩ := H
      replace H : (if t498 = true then ((dec_Add.f kj4 t490 t491 t492 t486 t487 t488).bind fun bt499 => (if (!(t494 == bt499.1) || (!(t495.toList == bt499.2.1.toList) || (!(t496 == bt499.2.2)))) = true then (florinlaw02_DecAdds.j1 kj4 true t486 t487 t488 t490 t491 t492 t494 t495 t496) else ((dec_Sub.f kj4 t494 t495 t496 t490 t491 t492).bind fun bt502 => ((dec_Dec_Norm.f kj4 t486 t487 t488).bind fun bt505 => (if (!(bt502.1 == bt505.1) || (!(bt502.2.1.toList == bt505.2.1.toList) || (!(bt502.2.2 == bt505.2.2)))) = true then (florinlaw02_DecAdds.j1 kj4 true t486 t487 t488 t490 t491 t492 t494 t495 t496) else ((dec_Sub.f kj4 t486 t487 t488 t490 t491 t492).bind fun bt508 => ((dec_Sub.f kj4 t490 t491 t492 t486 t487 t488).bind fun bt511 => ((dec_Dec_Minus.f kj4 bt511.1 bt511.2.1 bt511.2.2).bind fun bt514 => (if (!(bt508.1 == bt514.1) || (!(bt508.2.1.toList == bt514.2.1.toList) || (!(bt508.2.2 == bt514.2.2)))) = true then (florinlaw02_DecAdds.j1 kj4 true t486 t487 t488 t490 t491 t492 t494 t495 t496) else ((dec_Add.f kj4 t486 t487 t488 false (⟨#[]⟩ : ByteArray) 0).bind fun bt517 => ((dec_Dec_Norm.f kj4 t486 t487 t488).bind fun bt520 => (florinlaw02_DecAdds.j1 kj4 (!(bt517.1 == bt520.1) || (!(bt517.2.1.toList == bt520.2.1.toList) || (!(bt517.2.2 == bt520.2.2)))) t486 t487 t488 t490 t491 t492 t494 t495 t496)))))))))))) else (florinlaw02_DecAdds.j1 kj4 true t486 t487 t488 t490 t491 t492 t494 t495 t496)) = some r := H
      have A47 := Aside0.mk A470
      clear A470
      by_cases c48 : t498 = true
      ·subst c48
       have H1 : ((dec_Add.f kj4 t490 t491 t492 t486 t487 t488).bind fun bt499 => (if (!(t494 == bt499.1) || (!(t495.toList == bt499.2.1.toList) || (!(t496 == bt499.2.2)))) = true then (florinlaw02_DecAdds.j1 kj4 true t486 t487 t488 t490 t491 t492 t494 t495 t496) else ((dec_Sub.f kj4 t494 t495 t496 t490 t491 t492).bind fun bt502 => ((dec_Dec_Norm.f kj4 t486 t487 t488).bind fun bt505 => (if (!(bt502.1 == bt505.1) || (!(bt502.2.1.toList == bt505.2.1.toList) || (!(bt502.2.2 == bt505.2.2)))) = true then (florinlaw02_DecAdds.j1 kj4 true t486 t487 t488 t490 t491 t492 t494 t495 t496) else ((dec_Sub.f kj4 t486 t487 t488 t490 t491 t492).bind fun bt508 => ((dec_Sub.f kj4 t490 t491 t492 t486 t487 t488).bind fun bt511 => ((dec_Dec_Minus.f kj4 bt511.1 bt511.2.1 bt511.2.2).bind fun bt514 => (if (!(bt508.1 == bt514.1) || (!(bt508.2.1.toList == bt514.2.1.toList) || (!(bt508.2.2 == bt514.2.2)))) = true then (florinlaw02_DecAdds.j1 kj4 true t486 t487 t488 t490 t491 t492 t494 t495 t496) else ((dec_Add.f kj4 t486 t487 t488 false (⟨#[]⟩ : ByteArray) 0).bind fun bt517 => ((dec_Dec_Norm.f kj4 t486 t487 t488).bind fun bt520 => (florinlaw02_DecAdds.j1 kj4 (!(bt517.1 == bt520.1) || (!(bt517.2.1.toList == bt520.2.1.toList) || (!(bt517.2.2 == bt520.2.2)))) t486 t487 t488 t490 t491 t492 t494 t495 t496)))))))))))) = some r := by rw [if_pos rfl] at H; exact H
       clear H
       have H := H1
       clear H1
       replace H := Option.bind_eq_some_iff.mp H
       obtain ⟨⟨t499, t500, t501⟩, A490, H⟩ := H
       replace H : (if (!(t494 == t499) || (!(t495.toList == t500.toList) || (!(t496 == t501)))) = true then (florinlaw02_DecAdds.j1 kj4 true t486 t487 t488 t490 t491 t492 t494 t495 t496) else ((dec_Sub.f kj4 t494 t495 t496 t490 t491 t492).bind fun bt502 => ((dec_Dec_Norm.f kj4 t486 t487 t488).bind fun bt505 => (if (!(bt502.1 == bt505.1) || (!(bt502.2.1.toList == bt505.2.1.toList) || (!(bt502.2.2 == bt505.2.2)))) = true then (florinlaw02_DecAdds.j1 kj4 true t486 t487 t488 t490 t491 t492 t494 t495 t496) else ((dec_Sub.f kj4 t486 t487 t488 t490 t491 t492).bind fun bt508 => ((dec_Sub.f kj4 t490 t491 t492 t486 t487 t488).bind fun bt511 => ((dec_Dec_Minus.f kj4 bt511.1 bt511.2.1 bt511.2.2).bind fun bt514 => (if (!(bt508.1 == bt514.1) || (!(bt508.2.1.toList == bt514.2.1.toList) || (!(bt508.2.2 == bt514.2.2)))) = true then (florinlaw02_DecAdds.j1 kj4 true t486 t487 t488 t490 t491 t492 t494 t495 t496) else ((dec_Add.f kj4 t486 t487 t488 false (⟨#[]⟩ : ByteArray) 0).bind fun bt517 => ((dec_Dec_Norm.f kj4 t486 t487 t488).bind fun bt520 => (florinlaw02_DecAdds.j1 kj4 (!(bt517.1 == bt520.1) || (!(bt517.2.1.toList == bt520.2.1.toList) || (!(bt517.2.2 == bt520.2.2)))) t486 t487 t488 t490 t491 t492 t494 t495 t496))))))))))) = some r := H
       have A49 := Aside0.mk A490
       clear A490
       by_cases c50 : (!(t494 == t499) || (!(t495.toList == t500.toList) || (!(t496 == t501)))) = true
       ·rw [if_pos c50] at H
        have c50b0 : (!(t494 == t499) || (!(t495.toList == t500.toList) || (!(t496 == t501)))) = true := c50
        clear c50
        (first | rw [c50b0] | (simp only [i64_w, i32_w]; rw [c50b0]) | skip)
        have H' := Aside0.mk H
        clear H
        try go_wp2
        have n0_ : Aside0 ((((w41.setCell ⟨gb497, 0, none⟩ (.bool t494)).setCell ⟨gb497, 1, none⟩ (.string t495)).setCell ⟨gb497, 2, none⟩ (.int .i64 t496)).heap[gb481]? = _) := bf_ BK481
        have n1_ : Aside0 ((((w41.setCell ⟨gb497, 0, none⟩ (.bool t494)).setCell ⟨gb497, 1, none⟩ (.string t495)).setCell ⟨gb497, 2, none⟩ (.int .i64 t496)).heap[gb482]? = _) := bf_ BK482
        have n2_ : Aside0 ((((w41.setCell ⟨gb497, 0, none⟩ (.bool t494)).setCell ⟨gb497, 1, none⟩ (.string t495)).setCell ⟨gb497, 2, none⟩ (.int .i64 t496)).heap[gb489]? = _) := bf_ BK489
        have n3_ : Aside0 ((((w41.setCell ⟨gb497, 0, none⟩ (.bool t494)).setCell ⟨gb497, 1, none⟩ (.string t495)).setCell ⟨gb497, 2, none⟩ (.int .i64 t496)).heap[gb493]? = _) := bf_ BK493
        have n4_ : Aside0 ((((w41.setCell ⟨gb497, 0, none⟩ (.bool t494)).setCell ⟨gb497, 1, none⟩ (.string t495)).setCell ⟨gb497, 2, none⟩ (.int .i64 t496)).heap[gb497]? = some (.cells #[.bool t494, .string t495, .int .i64 t496] 24 (0, 0))) := ⟨by (with_reducible repeat (first | refine blk_drewN ?_ _ | refine blk_drew ?_ | refine blk_alloc ?_ _)); refine blk_put (cs := #[.bool t494, .string t495, .int .i64 0]) ?_ 2 _ rfl; (with_reducible repeat (first | refine blk_drewN ?_ _ | refine blk_drew ?_ | refine blk_alloc ?_ _)); refine blk_put (cs := #[.bool t494, .string (⟨#[]⟩ : ByteArray), .int .i64 0]) ?_ 1 _ rfl; (with_reducible repeat (first | refine blk_drewN ?_ _ | refine blk_drew ?_ | refine blk_alloc ?_ _)); refine blk_put (cs := #[.bool false, .string (⟨#[]⟩ : ByteArray), .int .i64 0]) ?_ 0 _ rfl; (with_reducible repeat (first | refine blk_drewN ?_ _ | refine blk_drew ?_ | refine blk_alloc ?_ _)); exact BK497.out⟩
        have n5_ : Aside0 (Below w.heap.size w (((w41.setCell ⟨gb497, 0, none⟩ (.bool t494)).setCell ⟨gb497, 1, none⟩ (.string t495)).setCell ⟨gb497, 2, none⟩ (.int .i64 t496))) := (bl_ HB)
        (try clear BK481)
        (try clear BK482)
        (try clear BK489)
        (try clear BK493)
        (try clear BK497)
        (try clear HB)
        generalize (((w41.setCell ⟨gb497, 0, none⟩ (.bool t494)).setCell ⟨gb497, 1, none⟩ (.string t495)).setCell ⟨gb497, 2, none⟩ (.int .i64 t496)) = w51 at n0_ n1_ n2_ n3_ n4_ n5_ ⊢
        have BK481 := n0_
        have BK482 := n1_
        have BK489 := n2_
        have BK493 := n3_
        have BK497 := n4_
        have HB := n5_
        clear n0_ n1_ n2_ n3_ n4_ n5_
        have n0_ := Aside0.mk (blk_drew BK481.out)
        have n1_ := Aside0.mk (blk_drew BK482.out)
        have n2_ := Aside0.mk (blk_drew BK489.out)
        have n3_ := Aside0.mk (blk_drew BK493.out)
        have n4_ := Aside0.mk (blk_drew BK497.out)
        have n5_ := Aside0.mk (below_drew1 HB.out)
        clear BK481
        clear BK482
        clear BK489
        clear BK493
        clear BK497
        clear HB
        have BK481 := n0_
        have BK482 := n1_
        have BK489 := n2_
        have BK493 := n3_
        have BK497 := n4_
        have HB := n5_
        clear n0_ n1_ n2_ n3_ n4_ n5_
        refine start_ (n := 36) (S := fun w' => w'.cell? ⟨gb497, 0, none⟩ = some (.bool t494) ∧ w'.cell? ⟨gb497, 1, none⟩ = some (.string t495) ∧ w'.cell? ⟨gb497, 2, none⟩ = some (.int .i64 t496) ∧ w'.cell? ⟨gb493, 0, none⟩ = some (.bool t490) ∧ w'.cell? ⟨gb493, 1, none⟩ = some (.string t491) ∧ w'.cell? ⟨gb493, 2, none⟩ = some (.int .i64 t492) ∧ w'.cell? ⟨gb489, 0, none⟩ = some (.bool t486) ∧ w'.cell? ⟨gb489, 1, none⟩ = some (.string t487) ∧ w'.cell? ⟨gb489, 2, none⟩ = some (.int .i64 t488)) (ds := []) #[false, false, false, false, false, false, false, false, false, false, false, false, false, false, false, false, false, false, false, false, false, false, false, false, false, false, false, false, false, false, false, false, false, false, false, false] (by kernel_rfl) rfl rfl ⟨(blk_cell BK497.out 0).trans rfl, (blk_cell BK497.out 1).trans rfl, (blk_cell BK497.out 2).trans rfl, (blk_cell BK493.out 0).trans rfl, (blk_cell BK493.out 1).trans rfl, (blk_cell BK493.out 2).trans rfl, (blk_cell BK489.out 0).trans rfl, (blk_cell BK489.out 1).trans rfl, (blk_cell BK489.out 2).trans rfl⟩ (fun hHeld => ?_); refine with_tabW florinlaw02_DecAdds.tab8 florinlaw02_DecAdds.bits8 (fun HT_ HW_ => ?_)
        generalize w51.drew = w52 at BK481 BK482 BK489 BK493 BK497 HB hHeld ⊢
        refine tk_ 0 30 (bm_ 36 1) HT_ HW_ hHeld rfl (by rintro w' ⟨s0, s1, s2, s3, s4, s5, s6, s7, s8⟩; go_simp; with_reducible rfl) ?_
        refine one_ (i := 1) (N := some 31) (bm_ 36 3) rfl rfl (one_of HT_.out (by kernel_rfl)) (by decide) (fun K hK => ?_)
        refine goes_ Tryd.func14 (by kernel_rfl) rfl #[.agg #[.bool t494, .string t495, .int .i64 t496]] (by rfl) rfl rfl (by (try simp only [List.map_toArray, List.map_cons, List.map_nil]); first | done | rfl | (simp only [List.length_drop, List.length_take]; rfl) | (have z_ : ∀ s_ : ByteArray, s_.size ≤ 9223372036854775807 → -(s_.size : Int) = wrap64 (-(s_.size : Int)) := (fun s_ h_ => by unfold wrap64; omega); rw [← z_ _ (by omega)]; rfl)) ?_
        with_reducible refine (florinlaw02_normal.calls kj4 t494 t495 t496 true _ A47.out).mono ?_
        rintro e w53 ⟨rfl, hb⟩
        refine ⟨_, rfl, ?_⟩
        have n0_ := bb_ BK481 hb
        have n1_ := bb_ BK482 hb
        have n2_ := bb_ BK489 hb
        have n3_ := bb_ BK493 hb
        have n4_ := bb_ BK497 hb
        have n5_ := Aside0.mk (below_step (bl_ HB).out hb)
        clear BK481
        clear BK482
        clear BK489
        clear BK493
        clear BK497
        clear HB
        have BK481 := n0_
        have BK482 := n1_
        have BK489 := n2_
        have BK493 := n3_
        have BK497 := n4_
        have HB := n5_
        clear n0_ n1_ n2_ n3_ n4_ n5_
        (try clear hb)
        (try clear hb2)
        (try clear hk)
        (try clear hi)
        refine hK.out _ _ ⟨(blk_cell BK497.out 0).trans rfl, (blk_cell BK497.out 1).trans rfl, (blk_cell BK497.out 2).trans rfl, (blk_cell BK493.out 0).trans rfl, (blk_cell BK493.out 1).trans rfl, (blk_cell BK493.out 2).trans rfl, (blk_cell BK489.out 0).trans rfl, (blk_cell BK489.out 1).trans rfl, (blk_cell BK489.out 2).trans rfl⟩ (fun hHeld => ?_)
        clear hK K
        refine norm_ (a' := ?_) ?_ ?_
        rotate_left
        ·show Act.put _ (some 31) _ = _
         simp only [Act.put, List.setIfInBounds_toArray, List.set_cons_zero, List.set_cons_succ, i64_w, i32_w]
         rfl
        refine pu_ 2 32 (bm_ 36 7) HT_ ?_
        refine pu_ 3 33 (bm_ 36 15) HT_ ?_
        refine tk_ 4 34 (bm_ 36 31) HT_ HW_ hHeld rfl (by rintro w' ⟨s0, s1, s2, s3, s4, s5, s6, s7, s8⟩; go_simp; with_reducible rfl) ?_
        refine tk_ 5 35 (bm_ 36 63) HT_ HW_ hHeld rfl (by rintro w' ⟨s0, s1, s2, s3, s4, s5, s6, s7, s8⟩; go_simp; with_reducible rfl) ?_
        refine tk_ 6 36 (bm_ 36 127) HT_ HW_ hHeld rfl (by rintro w' ⟨s0, s1, s2, s3, s4, s5, s6, s7, s8⟩; go_simp; with_reducible rfl) ?_
        refine one_ (i := 7) (N := some 37) (bm_ 36 255) rfl rfl (one_of HT_.out (by kernel_rfl)) (by decide) (fun K hK => ?_)
        refine goes_ Tryd.func32 (by kernel_rfl) rfl #[.agg #[.bool t490, .string t491, .int .i64 t492], .agg #[.bool t486, .string t487, .int .i64 t488]] (by rfl) rfl rfl (by (try simp only [List.map_toArray, List.map_cons, List.map_nil]); first | done | rfl | (simp only [List.length_drop, List.length_take]; rfl) | (have z_ : ∀ s_ : ByteArray, s_.size ≤ 9223372036854775807 → -(s_.size : Int) = wrap64 (-(s_.size : Int)) := (fun s_ h_ => by unfold wrap64; omega); rw [← z_ _ (by omega)]; rfl)) ?_
        with_reducible refine (dec_Add.calls kj4 t490 t491 t492 t486 t487 t488 t499 t500 t501 _ A49.out).mono ?_
        rintro e w54 ⟨rfl, hb⟩
        refine ⟨_, rfl, ?_⟩
        have n0_ := bb_ BK481 hb
        have n1_ := bb_ BK482 hb
        have n2_ := bb_ BK489 hb
        have n3_ := bb_ BK493 hb
        have n4_ := bb_ BK497 hb
        have n5_ := Aside0.mk (below_step (bl_ HB).out hb)
        clear BK481
        clear BK482
        clear BK489
        clear BK493
        clear BK497
        clear HB
        have BK481 := n0_
        have BK482 := n1_
        have BK489 := n2_
        have BK493 := n3_
        have BK497 := n4_
        have HB := n5_
        clear n0_ n1_ n2_ n3_ n4_ n5_
        (try clear hb)
        (try clear hb2)
        (try clear hk)
        (try clear hi)
        refine hK.out _ _ ⟨(blk_cell BK497.out 0).trans rfl, (blk_cell BK497.out 1).trans rfl, (blk_cell BK497.out 2).trans rfl, (blk_cell BK493.out 0).trans rfl, (blk_cell BK493.out 1).trans rfl, (blk_cell BK493.out 2).trans rfl, (blk_cell BK489.out 0).trans rfl, (blk_cell BK489.out 1).trans rfl, (blk_cell BK489.out 2).trans rfl⟩ (fun hHeld => ?_)
        clear hK K
        refine norm_ (a' := ?_) ?_ ?_
        rotate_left
        ·show Act.put _ (some 37) _ = _
         simp only [Act.put, List.setIfInBounds_toArray, List.set_cons_zero, List.set_cons_succ, i64_w, i32_w]
         rfl
        refine pu_ 8 38 (bm_ 36 511) HT_ ?_
        refine pu_ 9 39 (bm_ 36 1023) HT_ ?_
        refine pu_ 10 40 (bm_ 36 2047) HT_ ?_
        refine pn_ 11 41 (bm_ 36 4095) HT_ ?_
        refine pn_ 12 42 (bm_ 36 8191) HT_ ?_
        refine pn_ 13 43 (bm_ 36 16383) HT_ ?_
        refine pn_ 14 44 (bm_ 36 32767) HT_ ?_
        refine pn_ 15 45 (bm_ 36 65535) HT_ ?_
        refine pn_ 16 46 (bm_ 36 131071) HT_ ?_
        refine pu_ 17 47 (bm_ 36 262143) HT_ ?_
        refine pu_ 18 48 (bm_ 36 524287) HT_ ?_
        refine pn_ 19 49 (bm_ 36 1048575) HT_ ?_
        refine pn_ 20 50 (bm_ 36 2097151) HT_ ?_
        refine pn_ 21 51 (bm_ 36 4194303) HT_ ?_
        refine pn_ 22 52 (bm_ 36 8388607) HT_ ?_
        refine pn_ 23 53 (bm_ 36 16777215) HT_ ?_
        refine pn_ 24 54 (bm_ 36 33554431) HT_ ?_
        refine pn_ 25 55 (bm_ 36 67108863) HT_ ?_
        refine pn_ 26 56 (bm_ 36 134217727) HT_ ?_
        refine pu_ 27 57 (bm_ 36 268435455) HT_ ?_
        refine pu_ 28 58 (bm_ 36 536870911) HT_ ?_
        refine pn_ 29 59 (bm_ 36 1073741823) HT_ ?_
        refine pn_ 30 60 (bm_ 36 2147483647) HT_ ?_
        refine pn_ 31 61 (bm_ 36 4294967295) HT_ ?_
        refine pn_ 32 62 (bm_ 36 8589934591) HT_ ?_
        refine pn_ 33 63 (bm_ 36 17179869183) HT_ ?_
        refine pn_ 34 64 (bm_ 36 34359738367) HT_ ?_
        refine pu_ 35 65 (bm_ 36 68719476735) HT_ ?_
        refine done_ (done_of HT_.out (by kernel_rfl)) ?_
        try go_wp2
        go_meet
        case rel => exact ⟨_, (true), eq_, H', ⟨by have := HJ4.out; first | omega | exact Nat.le_refl _⟩, (bk_ BK481), (bk_ BK482), (bk_ BK489), (bk_ BK493), (bk_ BK497), (bl_ HB)⟩
       ·rw [if_neg c50] at H
        have c50b0 : (!(t494 == t499) || (!(t495.toList == t500.toList) || (!(t496 == t501)))) = false := by simpa using c50
        clear c50
        (first | rw [c50b0] | (simp only [i64_w, i32_w]; rw [c50b0]) | skip)
        replace H := Option.bind_eq_some_iff.mp H
        obtain ⟨⟨t502, t503, t504⟩, A550, H⟩ := H
        replace H : ((dec_Dec_Norm.f kj4 t486 t487 t488).bind fun bt505 => (if (!(t502 == bt505.1) || (!(t503.toList == bt505.2.1.toList) || (!(t504 == bt505.2.2)))) = true then (florinlaw02_DecAdds.j1 kj4 true t486 t487 t488 t490 t491 t492 t494 t495 t496) else ((dec_Sub.f kj4 t486 t487 t488 t490 t491 t492).bind fun bt508 => ((dec_Sub.f kj4 t490 t491 t492 t486 t487 t488).bind fun bt511 => ((dec_Dec_Minus.f kj4 bt511.1 bt511.2.1 bt511.2.2).bind fun bt514 => (if (!(bt508.1 == bt514.1) || (!(bt508.2.1.toList == bt514.2.1.toList) || (!(bt508.2.2 == bt514.2.2)))) = true then (florinlaw02_DecAdds.j1 kj4 true t486 t487 t488 t490 t491 t492 t494 t495 t496) else ((dec_Add.f kj4 t486 t487 t488 false (⟨#[]⟩ : ByteArray) 0).bind fun bt517 => ((dec_Dec_Norm.f kj4 t486 t487 t488).bind fun bt520 => (florinlaw02_DecAdds.j1 kj4 (!(bt517.1 == bt520.1) || (!(bt517.2.1.toList == bt520.2.1.toList) || (!(bt517.2.2 == bt520.2.2)))) t486 t487 t488 t490 t491 t492 t494 t495 t496))))))))) = some r := H
        have A55 := Aside0.mk A550
        clear A550
        replace H := Option.bind_eq_some_iff.mp H
        obtain ⟨⟨t505, t506, t507⟩, A560, H⟩ := H
        replace H : (if (!(t502 == t505) || (!(t503.toList == t506.toList) || (!(t504 == t507)))) = true then (florinlaw02_DecAdds.j1 kj4 true t486 t487 t488 t490 t491 t492 t494 t495 t496) else ((dec_Sub.f kj4 t486 t487 t488 t490 t491 t492).bind fun bt508 => ((dec_Sub.f kj4 t490 t491 t492 t486 t487 t488).bind fun bt511 => ((dec_Dec_Minus.f kj4 bt511.1 bt511.2.1 bt511.2.2).bind fun bt514 => (if (!(bt508.1 == bt514.1) || (!(bt508.2.1.toList == bt514.2.1.toList) || (!(bt508.2.2 == bt514.2.2)))) = true then (florinlaw02_DecAdds.j1 kj4 true t486 t487 t488 t490 t491 t492 t494 t495 t496) else ((dec_Add.f kj4 t486 t487 t488 false (⟨#[]⟩ : ByteArray) 0).bind fun bt517 => ((dec_Dec_Norm.f kj4 t486 t487 t488).bind fun bt520 => (florinlaw02_DecAdds.j1 kj4 (!(bt517.1 == bt520.1) || (!(bt517.2.1.toList == bt520.2.1.toList) || (!(bt517.2.2 == bt520.2.2)))) t486 t487 t488 t490 t491 t492 t494 t495 t496)))))))) = some r := H
        have A56 := Aside0.mk A560
        clear A560
        by_cases c57 : (!(t502 == t505) || (!(t503.toList == t506.toList) || (!(t504 == t507)))) = true
        ·rw [if_pos c57] at H
         have c57b0 : (!(t502 == t505) || (!(t503.toList == t506.toList) || (!(t504 == t507)))) = true := c57
         clear c57
         have H' := Aside0.mk H
         clear H
         try go_wp2
         have n0_ : Aside0 ((((w41.setCell ⟨gb497, 0, none⟩ (.bool t494)).setCell ⟨gb497, 1, none⟩ (.string t495)).setCell ⟨gb497, 2, none⟩ (.int .i64 t496)).heap[gb481]? = _) := bf_ BK481
         have n1_ : Aside0 ((((w41.setCell ⟨gb497, 0, none⟩ (.bool t494)).setCell ⟨gb497, 1, none⟩ (.string t495)).setCell ⟨gb497, 2, none⟩ (.int .i64 t496)).heap[gb482]? = _) := bf_ BK482
         have n2_ : Aside0 ((((w41.setCell ⟨gb497, 0, none⟩ (.bool t494)).setCell ⟨gb497, 1, none⟩ (.string t495)).setCell ⟨gb497, 2, none⟩ (.int .i64 t496)).heap[gb489]? = _) := bf_ BK489
         have n3_ : Aside0 ((((w41.setCell ⟨gb497, 0, none⟩ (.bool t494)).setCell ⟨gb497, 1, none⟩ (.string t495)).setCell ⟨gb497, 2, none⟩ (.int .i64 t496)).heap[gb493]? = _) := bf_ BK493
         have n4_ : Aside0 ((((w41.setCell ⟨gb497, 0, none⟩ (.bool t494)).setCell ⟨gb497, 1, none⟩ (.string t495)).setCell ⟨gb497, 2, none⟩ (.int .i64 t496)).heap[gb497]? = some (.cells #[.bool t494, .string t495, .int .i64 t496] 24 (0, 0))) := ⟨by (with_reducible repeat (first | refine blk_drewN ?_ _ | refine blk_drew ?_ | refine blk_alloc ?_ _)); refine blk_put (cs := #[.bool t494, .string t495, .int .i64 0]) ?_ 2 _ rfl; (with_reducible repeat (first | refine blk_drewN ?_ _ | refine blk_drew ?_ | refine blk_alloc ?_ _)); refine blk_put (cs := #[.bool t494, .string (⟨#[]⟩ : ByteArray), .int .i64 0]) ?_ 1 _ rfl; (with_reducible repeat (first | refine blk_drewN ?_ _ | refine blk_drew ?_ | refine blk_alloc ?_ _)); refine blk_put (cs := #[.bool false, .string (⟨#[]⟩ : ByteArray), .int .i64 0]) ?_ 0 _ rfl; (with_reducible repeat (first | refine blk_drewN ?_ _ | refine blk_drew ?_ | refine blk_alloc ?_ _)); exact BK497.out⟩
         have n5_ : Aside0 (Below w.heap.size w (((w41.setCell ⟨gb497, 0, none⟩ (.bool t494)).setCell ⟨gb497, 1, none⟩ (.string t495)).setCell ⟨gb497, 2, none⟩ (.int .i64 t496))) := (bl_ HB)
         (try clear BK481)
         (try clear BK482)
         (try clear BK489)
         (try clear BK493)
         (try clear BK497)
         (try clear HB)
         generalize (((w41.setCell ⟨gb497, 0, none⟩ (.bool t494)).setCell ⟨gb497, 1, none⟩ (.string t495)).setCell ⟨gb497, 2, none⟩ (.int .i64 t496)) = w58 at n0_ n1_ n2_ n3_ n4_ n5_ ⊢
         have BK481 := n0_
         have BK482 := n1_
         have BK489 := n2_
         have BK493 := n3_
         have BK497 := n4_
         have HB := n5_
         clear n0_ n1_ n2_ n3_ n4_ n5_
         have n0_ := Aside0.mk (blk_drew BK481.out)
         have n1_ := Aside0.mk (blk_drew BK482.out)
         have n2_ := Aside0.mk (blk_drew BK489.out)
         have n3_ := Aside0.mk (blk_drew BK493.out)
         have n4_ := Aside0.mk (blk_drew BK497.out)
         have n5_ := Aside0.mk (below_drew1 HB.out)
         clear BK481
         clear BK482
         clear BK489
         clear BK493
         clear BK497
         clear HB
         have BK481 := n0_
         have BK482 := n1_
         have BK489 := n2_
         have BK493 := n3_
         have BK497 := n4_
         have HB := n5_
         clear n0_ n1_ n2_ n3_ n4_ n5_
         refine start_ (n := 36) (S := fun w' => w'.cell? ⟨gb497, 0, none⟩ = some (.bool t494) ∧ w'.cell? ⟨gb497, 1, none⟩ = some (.string t495) ∧ w'.cell? ⟨gb497, 2, none⟩ = some (.int .i64 t496) ∧ w'.cell? ⟨gb493, 0, none⟩ = some (.bool t490) ∧ w'.cell? ⟨gb493, 1, none⟩ = some (.string t491) ∧ w'.cell? ⟨gb493, 2, none⟩ = some (.int .i64 t492) ∧ w'.cell? ⟨gb489, 0, none⟩ = some (.bool t486) ∧ w'.cell? ⟨gb489, 1, none⟩ = some (.string t487) ∧ w'.cell? ⟨gb489, 2, none⟩ = some (.int .i64 t488)) (ds := []) #[false, false, false, false, false, false, false, false, false, false, false, false, false, false, false, false, false, false, false, false, false, false, false, false, false, false, false, false, false, false, false, false, false, false, false, false] (by kernel_rfl) rfl rfl ⟨(blk_cell BK497.out 0).trans rfl, (blk_cell BK497.out 1).trans rfl, (blk_cell BK497.out 2).trans rfl, (blk_cell BK493.out 0).trans rfl, (blk_cell BK493.out 1).trans rfl, (blk_cell BK493.out 2).trans rfl, (blk_cell BK489.out 0).trans rfl, (blk_cell BK489.out 1).trans rfl, (blk_cell BK489.out 2).trans rfl⟩ (fun hHeld => ?_); refine with_tabW florinlaw02_DecAdds.tab8 florinlaw02_DecAdds.bits8 (fun HT_ HW_ => ?_)
         generalize w58.drew = w59 at BK481 BK482 BK489 BK493 BK497 HB hHeld ⊢
         refine tk_ 0 30 (bm_ 36 1) HT_ HW_ hHeld rfl (by rintro w' ⟨s0, s1, s2, s3, s4, s5, s6, s7, s8⟩; go_simp; with_reducible rfl) ?_
         refine one_ (i := 1) (N := some 31) (bm_ 36 3) rfl rfl (one_of HT_.out (by kernel_rfl)) (by decide) (fun K hK => ?_)
         refine goes_ Tryd.func14 (by kernel_rfl) rfl #[.agg #[.bool t494, .string t495, .int .i64 t496]] (by rfl) rfl rfl (by (try simp only [List.map_toArray, List.map_cons, List.map_nil]); first | done | rfl | (simp only [List.length_drop, List.length_take]; rfl) | (have z_ : ∀ s_ : ByteArray, s_.size ≤ 9223372036854775807 → -(s_.size : Int) = wrap64 (-(s_.size : Int)) := (fun s_ h_ => by unfold wrap64; omega); rw [← z_ _ (by omega)]; rfl)) ?_
         with_reducible refine (florinlaw02_normal.calls kj4 t494 t495 t496 true _ A47.out).mono ?_
         rintro e w60 ⟨rfl, hb⟩
         refine ⟨_, rfl, ?_⟩
         have n0_ := bb_ BK481 hb
         have n1_ := bb_ BK482 hb
         have n2_ := bb_ BK489 hb
         have n3_ := bb_ BK493 hb
         have n4_ := bb_ BK497 hb
         have n5_ := Aside0.mk (below_step (bl_ HB).out hb)
         clear BK481
         clear BK482
         clear BK489
         clear BK493
         clear BK497
         clear HB
         have BK481 := n0_
         have BK482 := n1_
         have BK489 := n2_
         have BK493 := n3_
         have BK497 := n4_
         have HB := n5_
         clear n0_ n1_ n2_ n3_ n4_ n5_
         (try clear hb)
         (try clear hb2)
         (try clear hk)
         (try clear hi)
         refine hK.out _ _ ⟨(blk_cell BK497.out 0).trans rfl, (blk_cell BK497.out 1).trans rfl, (blk_cell BK497.out 2).trans rfl, (blk_cell BK493.out 0).trans rfl, (blk_cell BK493.out 1).trans rfl, (blk_cell BK493.out 2).trans rfl, (blk_cell BK489.out 0).trans rfl, (blk_cell BK489.out 1).trans rfl, (blk_cell BK489.out 2).trans rfl⟩ (fun hHeld => ?_)
         clear hK K
         refine norm_ (a' := ?_) ?_ ?_
         rotate_left
         ·show Act.put _ (some 31) _ = _
          simp only [Act.put, List.setIfInBounds_toArray, List.set_cons_zero, List.set_cons_succ, i64_w, i32_w]
          rfl
         refine pu_ 2 32 (bm_ 36 7) HT_ ?_
         refine pu_ 3 33 (bm_ 36 15) HT_ ?_
         refine tk_ 4 34 (bm_ 36 31) HT_ HW_ hHeld rfl (by rintro w' ⟨s0, s1, s2, s3, s4, s5, s6, s7, s8⟩; go_simp; with_reducible rfl) ?_
         refine tk_ 5 35 (bm_ 36 63) HT_ HW_ hHeld rfl (by rintro w' ⟨s0, s1, s2, s3, s4, s5, s6, s7, s8⟩; go_simp; with_reducible rfl) ?_
         refine tk_ 6 36 (bm_ 36 127) HT_ HW_ hHeld rfl (by rintro w' ⟨s0, s1, s2, s3, s4, s5, s6, s7, s8⟩; go_simp; with_reducible rfl) ?_
         refine one_ (i := 7) (N := some 37) (bm_ 36 255) rfl rfl (one_of HT_.out (by kernel_rfl)) (by decide) (fun K hK => ?_)
         refine goes_ Tryd.func32 (by kernel_rfl) rfl #[.agg #[.bool t490, .string t491, .int .i64 t492], .agg #[.bool t486, .string t487, .int .i64 t488]] (by rfl) rfl rfl (by (try simp only [List.map_toArray, List.map_cons, List.map_nil]); first | done | rfl | (simp only [List.length_drop, List.length_take]; rfl) | (have z_ : ∀ s_ : ByteArray, s_.size ≤ 9223372036854775807 → -(s_.size : Int) = wrap64 (-(s_.size : Int)) := (fun s_ h_ => by unfold wrap64; omega); rw [← z_ _ (by omega)]; rfl)) ?_
         with_reducible refine (dec_Add.calls kj4 t490 t491 t492 t486 t487 t488 t499 t500 t501 _ A49.out).mono ?_
         rintro e w61 ⟨rfl, hb⟩
         refine ⟨_, rfl, ?_⟩
         have n0_ := bb_ BK481 hb
         have n1_ := bb_ BK482 hb
         have n2_ := bb_ BK489 hb
         have n3_ := bb_ BK493 hb
         have n4_ := bb_ BK497 hb
         have n5_ := Aside0.mk (below_step (bl_ HB).out hb)
         clear BK481
         clear BK482
         clear BK489
         clear BK493
         clear BK497
         clear HB
         have BK481 := n0_
         have BK482 := n1_
         have BK489 := n2_
         have BK493 := n3_
         have BK497 := n4_
         have HB := n5_
         clear n0_ n1_ n2_ n3_ n4_ n5_
         (try clear hb)
         (try clear hb2)
         (try clear hk)
         (try clear hi)
         refine hK.out _ _ ⟨(blk_cell BK497.out 0).trans rfl, (blk_cell BK497.out 1).trans rfl, (blk_cell BK497.out 2).trans rfl, (blk_cell BK493.out 0).trans rfl, (blk_cell BK493.out 1).trans rfl, (blk_cell BK493.out 2).trans rfl, (blk_cell BK489.out 0).trans rfl, (blk_cell BK489.out 1).trans rfl, (blk_cell BK489.out 2).trans rfl⟩ (fun hHeld => ?_)
         clear hK K
         refine norm_ (a' := ?_) ?_ ?_
         rotate_left
         ·show Act.put _ (some 37) _ = _
          simp only [Act.put, List.setIfInBounds_toArray, List.set_cons_zero, List.set_cons_succ, i64_w, i32_w]
          rfl
         refine pu_ 8 38 (bm_ 36 511) HT_ ?_
         refine pu_ 9 39 (bm_ 36 1023) HT_ ?_
         refine pu_ 10 40 (bm_ 36 2047) HT_ ?_
         refine tk_ 11 41 (bm_ 36 4095) HT_ HW_ hHeld rfl (by rintro w' ⟨s0, s1, s2, s3, s4, s5, s6, s7, s8⟩; go_simp; with_reducible rfl) ?_
         refine tk_ 12 42 (bm_ 36 8191) HT_ HW_ hHeld rfl (by rintro w' ⟨s0, s1, s2, s3, s4, s5, s6, s7, s8⟩; go_simp; with_reducible rfl) ?_
         refine tk_ 14 44 (bm_ 36 24575) HT_ HW_ hHeld rfl (by rintro w' ⟨s0, s1, s2, s3, s4, s5, s6, s7, s8⟩; go_simp; with_reducible rfl) ?_
         refine one_ (i := 13) (N := some 43) (bm_ 36 32767) rfl rfl (one_of HT_.out (by kernel_rfl)) (by decide) (fun K hK => ?_)
         refine goes_ Tryd.func33 (by kernel_rfl) rfl #[.agg #[.bool t494, .string t495, .int .i64 t496], .agg #[.bool t490, .string t491, .int .i64 t492]] (by rfl) rfl rfl (by (try simp only [List.map_toArray, List.map_cons, List.map_nil]); first | done | rfl | (simp only [List.length_drop, List.length_take]; rfl) | (have z_ : ∀ s_ : ByteArray, s_.size ≤ 9223372036854775807 → -(s_.size : Int) = wrap64 (-(s_.size : Int)) := (fun s_ h_ => by unfold wrap64; omega); rw [← z_ _ (by omega)]; rfl)) ?_
         with_reducible refine (dec_Sub.calls kj4 t494 t495 t496 t490 t491 t492 t502 t503 t504 _ A55.out).mono ?_
         rintro e w62 ⟨rfl, hb⟩
         refine ⟨_, rfl, ?_⟩
         have n0_ := bb_ BK481 hb
         have n1_ := bb_ BK482 hb
         have n2_ := bb_ BK489 hb
         have n3_ := bb_ BK493 hb
         have n4_ := bb_ BK497 hb
         have n5_ := Aside0.mk (below_step (bl_ HB).out hb)
         clear BK481
         clear BK482
         clear BK489
         clear BK493
         clear BK497
         clear HB
         have BK481 := n0_
         have BK482 := n1_
         have BK489 := n2_
         have BK493 := n3_
         have BK497 := n4_
         have HB := n5_
         clear n0_ n1_ n2_ n3_ n4_ n5_
         (try clear hb)
         (try clear hb2)
         (try clear hk)
         (try clear hi)
         refine hK.out _ _ ⟨(blk_cell BK497.out 0).trans rfl, (blk_cell BK497.out 1).trans rfl, (blk_cell BK497.out 2).trans rfl, (blk_cell BK493.out 0).trans rfl, (blk_cell BK493.out 1).trans rfl, (blk_cell BK493.out 2).trans rfl, (blk_cell BK489.out 0).trans rfl, (blk_cell BK489.out 1).trans rfl, (blk_cell BK489.out 2).trans rfl⟩ (fun hHeld => ?_)
         clear hK K
         refine norm_ (a' := ?_) ?_ ?_
         rotate_left
         ·show Act.put _ (some 43) _ = _
          simp only [Act.put, List.setIfInBounds_toArray, List.set_cons_zero, List.set_cons_succ, i64_w, i32_w]
          rfl
         refine one_ (i := 15) (N := some 45) (bm_ 36 65535) rfl rfl (one_of HT_.out (by kernel_rfl)) (by decide) (fun K hK => ?_)
         refine goes_ Tryd.func19 (by kernel_rfl) rfl #[.agg #[.bool t486, .string t487, .int .i64 t488]] (by rfl) rfl rfl (by (try simp only [List.map_toArray, List.map_cons, List.map_nil]); first | done | rfl | (simp only [List.length_drop, List.length_take]; rfl) | (have z_ : ∀ s_ : ByteArray, s_.size ≤ 9223372036854775807 → -(s_.size : Int) = wrap64 (-(s_.size : Int)) := (fun s_ h_ => by unfold wrap64; omega); rw [← z_ _ (by omega)]; rfl)) ?_
         with_reducible refine (dec_Dec_Norm.calls kj4 t486 t487 t488 t505 t506 t507 _ A56.out).mono ?_
         rintro e w63 ⟨rfl, hb⟩
         refine ⟨_, rfl, ?_⟩
         have n0_ := bb_ BK481 hb
         have n1_ := bb_ BK482 hb
         have n2_ := bb_ BK489 hb
         have n3_ := bb_ BK493 hb
         have n4_ := bb_ BK497 hb
         have n5_ := Aside0.mk (below_step (bl_ HB).out hb)
         clear BK481
         clear BK482
         clear BK489
         clear BK493
         clear BK497
         clear HB
         have BK481 := n0_
         have BK482 := n1_
         have BK489 := n2_
         have BK493 := n3_
         have BK497 := n4_
         have HB := n5_
         clear n0_ n1_ n2_ n3_ n4_ n5_
         (try clear hb)
         (try clear hb2)
         (try clear hk)
         (try clear hi)
         refine hK.out _ _ ⟨(blk_cell BK497.out 0).trans rfl, (blk_cell BK497.out 1).trans rfl, (blk_cell BK497.out 2).trans rfl, (blk_cell BK493.out 0).trans rfl, (blk_cell BK493.out 1).trans rfl, (blk_cell BK493.out 2).trans rfl, (blk_cell BK489.out 0).trans rfl, (blk_cell BK489.out 1).trans rfl, (blk_cell BK489.out 2).trans rfl⟩ (fun hHeld => ?_)
         clear hK K
         refine norm_ (a' := ?_) ?_ ?_
         rotate_left
         ·show Act.put _ (some 45) _ = _
          simp only [Act.put, List.setIfInBounds_toArray, List.set_cons_zero, List.set_cons_succ, i64_w, i32_w]
          rfl
         refine pu_ 16 46 (bm_ 36 131071) HT_ ?_
         refine pu_ 17 47 (bm_ 36 262143) HT_ ?_
         refine pu_ 18 48 (bm_ 36 524287) HT_ ?_
         refine pn_ 19 49 (bm_ 36 1048575) HT_ ?_
         refine pn_ 20 50 (bm_ 36 2097151) HT_ ?_
         refine pn_ 21 51 (bm_ 36 4194303) HT_ ?_
         refine pn_ 22 52 (bm_ 36 8388607) HT_ ?_
         refine pn_ 23 53 (bm_ 36 16777215) HT_ ?_
         refine pn_ 24 54 (bm_ 36 33554431) HT_ ?_
         refine pn_ 25 55 (bm_ 36 67108863) HT_ ?_
         refine pn_ 26 56 (bm_ 36 134217727) HT_ ?_
         refine pu_ 27 57 (bm_ 36 268435455) HT_ ?_
         refine pu_ 28 58 (bm_ 36 536870911) HT_ ?_
         refine pn_ 29 59 (bm_ 36 1073741823) HT_ ?_
         refine pn_ 30 60 (bm_ 36 2147483647) HT_ ?_
         refine pn_ 31 61 (bm_ 36 4294967295) HT_ ?_
         refine pn_ 32 62 (bm_ 36 8589934591) HT_ ?_
         refine pn_ 33 63 (bm_ 36 17179869183) HT_ ?_
         refine pn_ 34 64 (bm_ 36 34359738367) HT_ ?_
         refine pu_ 35 65 (bm_ 36 68719476735) HT_ ?_
         refine done_ (done_of HT_.out (by kernel_rfl)) ?_
         try go_wp2
         go_meet
         case rel => exact ⟨_, (true), eq_, H', ⟨by have := HJ4.out; first | omega | exact Nat.le_refl _⟩, (bk_ BK481), (bk_ BK482), (bk_ BK489), (bk_ BK493), (bk_ BK497), (bl_ HB)⟩
        ·rw [if_neg c57] at H
         have c57b0 : (!(t502 == t505) || (!(t503.toList == t506.toList) || (!(t504 == t507)))) = false := by simpa using c57
         clear c57
         replace H := Option.bind_eq_some_iff.mp H
         obtain ⟨⟨t508, t509, t510⟩, A640, H⟩ := H
         replace H : ((dec_Sub.f kj4 t490 t491 t492 t486 t487 t488).bind fun bt511 => ((dec_Dec_Minus.f kj4 bt511.1 bt511.2.1 bt511.2.2).bind fun bt514 => (if (!(t508 == bt514.1) || (!(t509.toList == bt514.2.1.toList) || (!(t510 == bt514.2.2)))) = true then (florinlaw02_DecAdds.j1 kj4 true t486 t487 t488 t490 t491 t492 t494 t495 t496) else ((dec_Add.f kj4 t486 t487 t488 false (⟨#[]⟩ : ByteArray) 0).bind fun bt517 => ((dec_Dec_Norm.f kj4 t486 t487 t488).bind fun bt520 => (florinlaw02_DecAdds.j1 kj4 (!(bt517.1 == bt520.1) || (!(bt517.2.1.toList == bt520.2.1.toList) || (!(bt517.2.2 == bt520.2.2)))) t486 t487 t488 t490 t491 t492 t494 t495 t496)))))) = some r := H
         have A64 := Aside0.mk A640
         clear A640
         replace H := Option.bind_eq_some_iff.mp H
         obtain ⟨⟨t511, t512, t513⟩, A650, H⟩ := H
         replace H : ((dec_Dec_Minus.f kj4 t511 t512 t513).bind fun bt514 => (if (!(t508 == bt514.1) || (!(t509.toList == bt514.2.1.toList) || (!(t510 == bt514.2.2)))) = true then (florinlaw02_DecAdds.j1 kj4 true t486 t487 t488 t490 t491 t492 t494 t495 t496) else ((dec_Add.f kj4 t486 t487 t488 false (⟨#[]⟩ : ByteArray) 0).bind fun bt517 => ((dec_Dec_Norm.f kj4 t486 t487 t488).bind fun bt520 => (florinlaw02_DecAdds.j1 kj4 (!(bt517.1 == bt520.1) || (!(bt517.2.1.toList == bt520.2.1.toList) || (!(bt517.2.2 == bt520.2.2)))) t486 t487 t488 t490 t491 t492 t494 t495 t496))))) = some r := H
         have A65 := Aside0.mk A650
         clear A650
         replace H := Option.bind_eq_some_iff.mp H
         obtain ⟨⟨t514, t515, t516⟩, A660, H⟩ := H
         replace H : (if (!(t508 == t514) || (!(t509.toList == t515.toList) || (!(t510 == t516)))) = true then (florinlaw02_DecAdds.j1 kj4 true t486 t487 t488 t490 t491 t492 t494 t495 t496) else ((dec_Add.f kj4 t486 t487 t488 false (⟨#[]⟩ : ByteArray) 0).bind fun bt517 => ((dec_Dec_Norm.f kj4 t486 t487 t488).bind fun bt520 => (florinlaw02_DecAdds.j1 kj4 (!(bt517.1 == bt520.1) || (!(bt517.2.1.toList == bt520.2.1.toList) || (!(bt517.2.2 == bt520.2.2)))) t486 t487 t488 t490 t491 t492 t494 t495 t496)))) = some r := H
         have A66 := Aside0.mk A660
         clear A660
         by_cases c67 : (!(t508 == t514) || (!(t509.toList == t515.toList) || (!(t510 == t516)))) = true
         ·rw [if_pos c67] at H
          have c67b0 : (!(t508 == t514) || (!(t509.toList == t515.toList) || (!(t510 == t516)))) = true := c67
          clear c67
          have H' := Aside0.mk H
          clear H
          try go_wp2
          have n0_ : Aside0 ((((w41.setCell ⟨gb497, 0, none⟩ (.bool t494)).setCell ⟨gb497, 1, none⟩ (.string t495)).setCell ⟨gb497, 2, none⟩ (.int .i64 t496)).heap[gb481]? = _) := bf_ BK481
          have n1_ : Aside0 ((((w41.setCell ⟨gb497, 0, none⟩ (.bool t494)).setCell ⟨gb497, 1, none⟩ (.string t495)).setCell ⟨gb497, 2, none⟩ (.int .i64 t496)).heap[gb482]? = _) := bf_ BK482
          have n2_ : Aside0 ((((w41.setCell ⟨gb497, 0, none⟩ (.bool t494)).setCell ⟨gb497, 1, none⟩ (.string t495)).setCell ⟨gb497, 2, none⟩ (.int .i64 t496)).heap[gb489]? = _) := bf_ BK489
          have n3_ : Aside0 ((((w41.setCell ⟨gb497, 0, none⟩ (.bool t494)).setCell ⟨gb497, 1, none⟩ (.string t495)).setCell ⟨gb497, 2, none⟩ (.int .i64 t496)).heap[gb493]? = _) := bf_ BK493
          have n4_ : Aside0 ((((w41.setCell ⟨gb497, 0, none⟩ (.bool t494)).setCell ⟨gb497, 1, none⟩ (.string t495)).setCell ⟨gb497, 2, none⟩ (.int .i64 t496)).heap[gb497]? = some (.cells #[.bool t494, .string t495, .int .i64 t496] 24 (0, 0))) := ⟨by (with_reducible repeat (first | refine blk_drewN ?_ _ | refine blk_drew ?_ | refine blk_alloc ?_ _)); refine blk_put (cs := #[.bool t494, .string t495, .int .i64 0]) ?_ 2 _ rfl; (with_reducible repeat (first | refine blk_drewN ?_ _ | refine blk_drew ?_ | refine blk_alloc ?_ _)); refine blk_put (cs := #[.bool t494, .string (⟨#[]⟩ : ByteArray), .int .i64 0]) ?_ 1 _ rfl; (with_reducible repeat (first | refine blk_drewN ?_ _ | refine blk_drew ?_ | refine blk_alloc ?_ _)); refine blk_put (cs := #[.bool false, .string (⟨#[]⟩ : ByteArray), .int .i64 0]) ?_ 0 _ rfl; (with_reducible repeat (first | refine blk_drewN ?_ _ | refine blk_drew ?_ | refine blk_alloc ?_ _)); exact BK497.out⟩
          have n5_ : Aside0 (Below w.heap.size w (((w41.setCell ⟨gb497, 0, none⟩ (.bool t494)).setCell ⟨gb497, 1, none⟩ (.string t495)).setCell ⟨gb497, 2, none⟩ (.int .i64 t496))) := (bl_ HB)
          (try clear BK481)
          (try clear BK482)
          (try clear BK489)
          (try clear BK493)
          (try clear BK497)
          (try clear HB)
          generalize (((w41.setCell ⟨gb497, 0, none⟩ (.bool t494)).setCell ⟨gb497, 1, none⟩ (.string t495)).setCell ⟨gb497, 2, none⟩ (.int .i64 t496)) = w68 at n0_ n1_ n2_ n3_ n4_ n5_ ⊢
          have BK481 := n0_
          have BK482 := n1_
          have BK489 := n2_
          have BK493 := n3_
          have BK497 := n4_
          have HB := n5_
          clear n0_ n1_ n2_ n3_ n4_ n5_
          have n0_ := Aside0.mk (blk_drew BK481.out)
          have n1_ := Aside0.mk (blk_drew BK482.out)
          have n2_ := Aside0.mk (blk_drew BK489.out)
          have n3_ := Aside0.mk (blk_drew BK493.out)
          have n4_ := Aside0.mk (blk_drew BK497.out)
          have n5_ := Aside0.mk (below_drew1 HB.out)
          clear BK481
          clear BK482
          clear BK489
          clear BK493
          clear BK497
          clear HB
          have BK481 := n0_
          have BK482 := n1_
          have BK489 := n2_
          have BK493 := n3_
          have BK497 := n4_
          have HB := n5_
          clear n0_ n1_ n2_ n3_ n4_ n5_
          refine start_ (n := 36) (S := fun w' => w'.cell? ⟨gb497, 0, none⟩ = some (.bool t494) ∧ w'.cell? ⟨gb497, 1, none⟩ = some (.string t495) ∧ w'.cell? ⟨gb497, 2, none⟩ = some (.int .i64 t496) ∧ w'.cell? ⟨gb493, 0, none⟩ = some (.bool t490) ∧ w'.cell? ⟨gb493, 1, none⟩ = some (.string t491) ∧ w'.cell? ⟨gb493, 2, none⟩ = some (.int .i64 t492) ∧ w'.cell? ⟨gb489, 0, none⟩ = some (.bool t486) ∧ w'.cell? ⟨gb489, 1, none⟩ = some (.string t487) ∧ w'.cell? ⟨gb489, 2, none⟩ = some (.int .i64 t488)) (ds := []) #[false, false, false, false, false, false, false, false, false, false, false, false, false, false, false, false, false, false, false, false, false, false, false, false, false, false, false, false, false, false, false, false, false, false, false, false] (by kernel_rfl) rfl rfl ⟨(blk_cell BK497.out 0).trans rfl, (blk_cell BK497.out 1).trans rfl, (blk_cell BK497.out 2).trans rfl, (blk_cell BK493.out 0).trans rfl, (blk_cell BK493.out 1).trans rfl, (blk_cell BK493.out 2).trans rfl, (blk_cell BK489.out 0).trans rfl, (blk_cell BK489.out 1).trans rfl, (blk_cell BK489.out 2).trans rfl⟩ (fun hHeld => ?_); refine with_tabW florinlaw02_DecAdds.tab8 florinlaw02_DecAdds.bits8 (fun HT_ HW_ => ?_)
          generalize w68.drew = w69 at BK481 BK482 BK489 BK493 BK497 HB hHeld ⊢
          refine tk_ 0 30 (bm_ 36 1) HT_ HW_ hHeld rfl (by rintro w' ⟨s0, s1, s2, s3, s4, s5, s6, s7, s8⟩; go_simp; with_reducible rfl) ?_
          refine one_ (i := 1) (N := some 31) (bm_ 36 3) rfl rfl (one_of HT_.out (by kernel_rfl)) (by decide) (fun K hK => ?_)
          refine goes_ Tryd.func14 (by kernel_rfl) rfl #[.agg #[.bool t494, .string t495, .int .i64 t496]] (by rfl) rfl rfl (by (try simp only [List.map_toArray, List.map_cons, List.map_nil]); first | done | rfl | (simp only [List.length_drop, List.length_take]; rfl) | (have z_ : ∀ s_ : ByteArray, s_.size ≤ 9223372036854775807 → -(s_.size : Int) = wrap64 (-(s_.size : Int)) := (fun s_ h_ => by unfold wrap64; omega); rw [← z_ _ (by omega)]; rfl)) ?_
          with_reducible refine (florinlaw02_normal.calls kj4 t494 t495 t496 true _ A47.out).mono ?_
          rintro e w70 ⟨rfl, hb⟩
          refine ⟨_, rfl, ?_⟩
          have n0_ := bb_ BK481 hb
          have n1_ := bb_ BK482 hb
          have n2_ := bb_ BK489 hb
          have n3_ := bb_ BK493 hb
          have n4_ := bb_ BK497 hb
          have n5_ := Aside0.mk (below_step (bl_ HB).out hb)
          clear BK481
          clear BK482
          clear BK489
          clear BK493
          clear BK497
          clear HB
          have BK481 := n0_
          have BK482 := n1_
          have BK489 := n2_
          have BK493 := n3_
          have BK497 := n4_
          have HB := n5_
          clear n0_ n1_ n2_ n3_ n4_ n5_
          (try clear hb)
          (try clear hb2)
          (try clear hk)
          (try clear hi)
          refine hK.out _ _ ⟨(blk_cell BK497.out 0).trans rfl, (blk_cell BK497.out 1).trans rfl, (blk_cell BK497.out 2).trans rfl, (blk_cell BK493.out 0).trans rfl, (blk_cell BK493.out 1).trans rfl, (blk_cell BK493.out 2).trans rfl, (blk_cell BK489.out 0).trans rfl, (blk_cell BK489.out 1).trans rfl, (blk_cell BK489.out 2).trans rfl⟩ (fun hHeld => ?_)
          clear hK K
          refine norm_ (a' := ?_) ?_ ?_
          rotate_left
          ·show Act.put _ (some 31) _ = _
           simp only [Act.put, List.setIfInBounds_toArray, List.set_cons_zero, List.set_cons_succ, i64_w, i32_w]
           rfl
          refine pu_ 2 32 (bm_ 36 7) HT_ ?_
          refine pu_ 3 33 (bm_ 36 15) HT_ ?_
          refine tk_ 4 34 (bm_ 36 31) HT_ HW_ hHeld rfl (by rintro w' ⟨s0, s1, s2, s3, s4, s5, s6, s7, s8⟩; go_simp; with_reducible rfl) ?_
          refine tk_ 5 35 (bm_ 36 63) HT_ HW_ hHeld rfl (by rintro w' ⟨s0, s1, s2, s3, s4, s5, s6, s7, s8⟩; go_simp; with_reducible rfl) ?_
          refine tk_ 6 36 (bm_ 36 127) HT_ HW_ hHeld rfl (by rintro w' ⟨s0, s1, s2, s3, s4, s5, s6, s7, s8⟩; go_simp; with_reducible rfl) ?_
          refine one_ (i := 7) (N := some 37) (bm_ 36 255) rfl rfl (one_of HT_.out (by kernel_rfl)) (by decide) (fun K hK => ?_)
          refine goes_ Tryd.func32 (by kernel_rfl) rfl #[.agg #[.bool t490, .string t491, .int .i64 t492], .agg #[.bool t486, .string t487, .int .i64 t488]] (by rfl) rfl rfl (by (try simp only [List.map_toArray, List.map_cons, List.map_nil]); first | done | rfl | (simp only [List.length_drop, List.length_take]; rfl) | (have z_ : ∀ s_ : ByteArray, s_.size ≤ 9223372036854775807 → -(s_.size : Int) = wrap64 (-(s_.size : Int)) := (fun s_ h_ => by unfold wrap64; omega); rw [← z_ _ (by omega)]; rfl)) ?_
          with_reducible refine (dec_Add.calls kj4 t490 t491 t492 t486 t487 t488 t499 t500 t501 _ A49.out).mono ?_
          rintro e w71 ⟨rfl, hb⟩
          refine ⟨_, rfl, ?_⟩
          have n0_ := bb_ BK481 hb
          have n1_ := bb_ BK482 hb
          have n2_ := bb_ BK489 hb
          have n3_ := bb_ BK493 hb
          have n4_ := bb_ BK497 hb
          have n5_ := Aside0.mk (below_step (bl_ HB).out hb)
          clear BK481
          clear BK482
          clear BK489
          clear BK493
          clear BK497
          clear HB
          have BK481 := n0_
          have BK482 := n1_
          have BK489 := n2_
          have BK493 := n3_
          have BK497 := n4_
          have HB := n5_
          clear n0_ n1_ n2_ n3_ n4_ n5_
          (try clear hb)
          (try clear hb2)
          (try clear hk)
          (try clear hi)
          refine hK.out _ _ ⟨(blk_cell BK497.out 0).trans rfl, (blk_cell BK497.out 1).trans rfl, (blk_cell BK497.out 2).trans rfl, (blk_cell BK493.out 0).trans rfl, (blk_cell BK493.out 1).trans rfl, (blk_cell BK493.out 2).trans rfl, (blk_cell BK489.out 0).trans rfl, (blk_cell BK489.out 1).trans rfl, (blk_cell BK489.out 2).trans rfl⟩ (fun hHeld => ?_)
          clear hK K
          refine norm_ (a' := ?_) ?_ ?_
          rotate_left
          ·show Act.put _ (some 37) _ = _
           simp only [Act.put, List.setIfInBounds_toArray, List.set_cons_zero, List.set_cons_succ, i64_w, i32_w]
           rfl
          refine pu_ 8 38 (bm_ 36 511) HT_ ?_
          refine pu_ 9 39 (bm_ 36 1023) HT_ ?_
          refine pu_ 10 40 (bm_ 36 2047) HT_ ?_
          refine tk_ 11 41 (bm_ 36 4095) HT_ HW_ hHeld rfl (by rintro w' ⟨s0, s1, s2, s3, s4, s5, s6, s7, s8⟩; go_simp; with_reducible rfl) ?_
          refine tk_ 12 42 (bm_ 36 8191) HT_ HW_ hHeld rfl (by rintro w' ⟨s0, s1, s2, s3, s4, s5, s6, s7, s8⟩; go_simp; with_reducible rfl) ?_
          refine tk_ 14 44 (bm_ 36 24575) HT_ HW_ hHeld rfl (by rintro w' ⟨s0, s1, s2, s3, s4, s5, s6, s7, s8⟩; go_simp; with_reducible rfl) ?_
          refine one_ (i := 13) (N := some 43) (bm_ 36 32767) rfl rfl (one_of HT_.out (by kernel_rfl)) (by decide) (fun K hK => ?_)
          refine goes_ Tryd.func33 (by kernel_rfl) rfl #[.agg #[.bool t494, .string t495, .int .i64 t496], .agg #[.bool t490, .string t491, .int .i64 t492]] (by rfl) rfl rfl (by (try simp only [List.map_toArray, List.map_cons, List.map_nil]); first | done | rfl | (simp only [List.length_drop, List.length_take]; rfl) | (have z_ : ∀ s_ : ByteArray, s_.size ≤ 9223372036854775807 → -(s_.size : Int) = wrap64 (-(s_.size : Int)) := (fun s_ h_ => by unfold wrap64; omega); rw [← z_ _ (by omega)]; rfl)) ?_
          with_reducible refine (dec_Sub.calls kj4 t494 t495 t496 t490 t491 t492 t502 t503 t504 _ A55.out).mono ?_
          rintro e w72 ⟨rfl, hb⟩
          refine ⟨_, rfl, ?_⟩
          have n0_ := bb_ BK481 hb
          have n1_ := bb_ BK482 hb
          have n2_ := bb_ BK489 hb
          have n3_ := bb_ BK493 hb
          have n4_ := bb_ BK497 hb
          have n5_ := Aside0.mk (below_step (bl_ HB).out hb)
          clear BK481
          clear BK482
          clear BK489
          clear BK493
          clear BK497
          clear HB
          have BK481 := n0_
          have BK482 := n1_
          have BK489 := n2_
          have BK493 := n3_
          have BK497 := n4_
          have HB := n5_
          clear n0_ n1_ n2_ n3_ n4_ n5_
          (try clear hb)
          (try clear hb2)
          (try clear hk)
          (try clear hi)
          refine hK.out _ _ ⟨(blk_cell BK497.out 0).trans rfl, (blk_cell BK497.out 1).trans rfl, (blk_cell BK497.out 2).trans rfl, (blk_cell BK493.out 0).trans rfl, (blk_cell BK493.out 1).trans rfl, (blk_cell BK493.out 2).trans rfl, (blk_cell BK489.out 0).trans rfl, (blk_cell BK489.out 1).trans rfl, (blk_cell BK489.out 2).trans rfl⟩ (fun hHeld => ?_)
          clear hK K
          refine norm_ (a' := ?_) ?_ ?_
          rotate_left
          ·show Act.put _ (some 43) _ = _
           simp only [Act.put, List.setIfInBounds_toArray, List.set_cons_zero, List.set_cons_succ, i64_w, i32_w]
           rfl
          refine one_ (i := 15) (N := some 45) (bm_ 36 65535) rfl rfl (one_of HT_.out (by kernel_rfl)) (by decide) (fun K hK => ?_)
          refine goes_ Tryd.func19 (by kernel_rfl) rfl #[.agg #[.bool t486, .string t487, .int .i64 t488]] (by rfl) rfl rfl (by (try simp only [List.map_toArray, List.map_cons, List.map_nil]); first | done | rfl | (simp only [List.length_drop, List.length_take]; rfl) | (have z_ : ∀ s_ : ByteArray, s_.size ≤ 9223372036854775807 → -(s_.size : Int) = wrap64 (-(s_.size : Int)) := (fun s_ h_ => by unfold wrap64; omega); rw [← z_ _ (by omega)]; rfl)) ?_
          with_reducible refine (dec_Dec_Norm.calls kj4 t486 t487 t488 t505 t506 t507 _ A56.out).mono ?_
          rintro e w73 ⟨rfl, hb⟩
          refine ⟨_, rfl, ?_⟩
          have n0_ := bb_ BK481 hb
          have n1_ := bb_ BK482 hb
          have n2_ := bb_ BK489 hb
          have n3_ := bb_ BK493 hb
          have n4_ := bb_ BK497 hb
          have n5_ := Aside0.mk (below_step (bl_ HB).out hb)
          clear BK481
          clear BK482
          clear BK489
          clear BK493
          clear BK497
          clear HB
          have BK481 := n0_
          have BK482 := n1_
          have BK489 := n2_
          have BK493 := n3_
          have BK497 := n4_
          have HB := n5_
          clear n0_ n1_ n2_ n3_ n4_ n5_
          (try clear hb)
          (try clear hb2)
          (try clear hk)
          (try clear hi)
          refine hK.out _ _ ⟨(blk_cell BK497.out 0).trans rfl, (blk_cell BK497.out 1).trans rfl, (blk_cell BK497.out 2).trans rfl, (blk_cell BK493.out 0).trans rfl, (blk_cell BK493.out 1).trans rfl, (blk_cell BK493.out 2).trans rfl, (blk_cell BK489.out 0).trans rfl, (blk_cell BK489.out 1).trans rfl, (blk_cell BK489.out 2).trans rfl⟩ (fun hHeld => ?_)
          clear hK K
          refine norm_ (a' := ?_) ?_ ?_
          rotate_left
          ·show Act.put _ (some 45) _ = _
           simp only [Act.put, List.setIfInBounds_toArray, List.set_cons_zero, List.set_cons_succ, i64_w, i32_w]
           rfl
          refine pu_ 16 46 (bm_ 36 131071) HT_ ?_
          refine pu_ 17 47 (bm_ 36 262143) HT_ ?_
          refine pu_ 18 48 (bm_ 36 524287) HT_ ?_
          refine tk_ 19 49 (bm_ 36 1048575) HT_ HW_ hHeld rfl (by rintro w' ⟨s0, s1, s2, s3, s4, s5, s6, s7, s8⟩; go_simp; with_reducible rfl) ?_
          refine tk_ 20 50 (bm_ 36 2097151) HT_ HW_ hHeld rfl (by rintro w' ⟨s0, s1, s2, s3, s4, s5, s6, s7, s8⟩; go_simp; with_reducible rfl) ?_
          refine tk_ 22 52 (bm_ 36 6291455) HT_ HW_ hHeld rfl (by rintro w' ⟨s0, s1, s2, s3, s4, s5, s6, s7, s8⟩; go_simp; with_reducible rfl) ?_
          refine tk_ 23 53 (bm_ 36 14680063) HT_ HW_ hHeld rfl (by rintro w' ⟨s0, s1, s2, s3, s4, s5, s6, s7, s8⟩; go_simp; with_reducible rfl) ?_
          refine one_ (i := 21) (N := some 51) (bm_ 36 16777215) rfl rfl (one_of HT_.out (by kernel_rfl)) (by decide) (fun K hK => ?_)
          refine goes_ Tryd.func33 (by kernel_rfl) rfl #[.agg #[.bool t486, .string t487, .int .i64 t488], .agg #[.bool t490, .string t491, .int .i64 t492]] (by rfl) rfl rfl (by (try simp only [List.map_toArray, List.map_cons, List.map_nil]); first | done | rfl | (simp only [List.length_drop, List.length_take]; rfl) | (have z_ : ∀ s_ : ByteArray, s_.size ≤ 9223372036854775807 → -(s_.size : Int) = wrap64 (-(s_.size : Int)) := (fun s_ h_ => by unfold wrap64; omega); rw [← z_ _ (by omega)]; rfl)) ?_
          with_reducible refine (dec_Sub.calls kj4 t486 t487 t488 t490 t491 t492 t508 t509 t510 _ A64.out).mono ?_
          rintro e w74 ⟨rfl, hb⟩
          refine ⟨_, rfl, ?_⟩
          have n0_ := bb_ BK481 hb
          have n1_ := bb_ BK482 hb
          have n2_ := bb_ BK489 hb
          have n3_ := bb_ BK493 hb
          have n4_ := bb_ BK497 hb
          have n5_ := Aside0.mk (below_step (bl_ HB).out hb)
          clear BK481
          clear BK482
          clear BK489
          clear BK493
          clear BK497
          clear HB
          have BK481 := n0_
          have BK482 := n1_
          have BK489 := n2_
          have BK493 := n3_
          have BK497 := n4_
          have HB := n5_
          clear n0_ n1_ n2_ n3_ n4_ n5_
          (try clear hb)
          (try clear hb2)
          (try clear hk)
          (try clear hi)
          refine hK.out _ _ ⟨(blk_cell BK497.out 0).trans rfl, (blk_cell BK497.out 1).trans rfl, (blk_cell BK497.out 2).trans rfl, (blk_cell BK493.out 0).trans rfl, (blk_cell BK493.out 1).trans rfl, (blk_cell BK493.out 2).trans rfl, (blk_cell BK489.out 0).trans rfl, (blk_cell BK489.out 1).trans rfl, (blk_cell BK489.out 2).trans rfl⟩ (fun hHeld => ?_)
          clear hK K
          refine norm_ (a' := ?_) ?_ ?_
          rotate_left
          ·show Act.put _ (some 51) _ = _
           simp only [Act.put, List.setIfInBounds_toArray, List.set_cons_zero, List.set_cons_succ, i64_w, i32_w]
           rfl
          refine one_ (i := 24) (N := some 54) (bm_ 36 33554431) rfl rfl (one_of HT_.out (by kernel_rfl)) (by decide) (fun K hK => ?_)
          refine goes_ Tryd.func33 (by kernel_rfl) rfl #[.agg #[.bool t490, .string t491, .int .i64 t492], .agg #[.bool t486, .string t487, .int .i64 t488]] (by rfl) rfl rfl (by (try simp only [List.map_toArray, List.map_cons, List.map_nil]); first | done | rfl | (simp only [List.length_drop, List.length_take]; rfl) | (have z_ : ∀ s_ : ByteArray, s_.size ≤ 9223372036854775807 → -(s_.size : Int) = wrap64 (-(s_.size : Int)) := (fun s_ h_ => by unfold wrap64; omega); rw [← z_ _ (by omega)]; rfl)) ?_
          with_reducible refine (dec_Sub.calls kj4 t490 t491 t492 t486 t487 t488 t511 t512 t513 _ A65.out).mono ?_
          rintro e w75 ⟨rfl, hb⟩
          refine ⟨_, rfl, ?_⟩
          have n0_ := bb_ BK481 hb
          have n1_ := bb_ BK482 hb
          have n2_ := bb_ BK489 hb
          have n3_ := bb_ BK493 hb
          have n4_ := bb_ BK497 hb
          have n5_ := Aside0.mk (below_step (bl_ HB).out hb)
          clear BK481
          clear BK482
          clear BK489
          clear BK493
          clear BK497
          clear HB
          have BK481 := n0_
          have BK482 := n1_
          have BK489 := n2_
          have BK493 := n3_
          have BK497 := n4_
          have HB := n5_
          clear n0_ n1_ n2_ n3_ n4_ n5_
          (try clear hb)
          (try clear hb2)
          (try clear hk)
          (try clear hi)
          refine hK.out _ _ ⟨(blk_cell BK497.out 0).trans rfl, (blk_cell BK497.out 1).trans rfl, (blk_cell BK497.out 2).trans rfl, (blk_cell BK493.out 0).trans rfl, (blk_cell BK493.out 1).trans rfl, (blk_cell BK493.out 2).trans rfl, (blk_cell BK489.out 0).trans rfl, (blk_cell BK489.out 1).trans rfl, (blk_cell BK489.out 2).trans rfl⟩ (fun hHeld => ?_)
          clear hK K
          refine norm_ (a' := ?_) ?_ ?_
          rotate_left
          ·show Act.put _ (some 54) _ = _
           simp only [Act.put, List.setIfInBounds_toArray, List.set_cons_zero, List.set_cons_succ, i64_w, i32_w]
           rfl
          refine one_ (i := 25) (N := some 55) (bm_ 36 67108863) rfl rfl (one_of HT_.out (by kernel_rfl)) (by decide) (fun K hK => ?_)
          refine goes_ Tryd.func34 (by kernel_rfl) rfl #[.agg #[.bool t511, .string t512, .int .i64 t513]] (by rfl) rfl rfl (by (try simp only [List.map_toArray, List.map_cons, List.map_nil]); first | done | rfl | (simp only [List.length_drop, List.length_take]; rfl) | (have z_ : ∀ s_ : ByteArray, s_.size ≤ 9223372036854775807 → -(s_.size : Int) = wrap64 (-(s_.size : Int)) := (fun s_ h_ => by unfold wrap64; omega); rw [← z_ _ (by omega)]; rfl)) ?_
          with_reducible refine (dec_Dec_Minus.calls kj4 t511 t512 t513 t514 t515 t516 _ A66.out).mono ?_
          rintro e w76 ⟨rfl, hb⟩
          refine ⟨_, rfl, ?_⟩
          have n0_ := bb_ BK481 hb
          have n1_ := bb_ BK482 hb
          have n2_ := bb_ BK489 hb
          have n3_ := bb_ BK493 hb
          have n4_ := bb_ BK497 hb
          have n5_ := Aside0.mk (below_step (bl_ HB).out hb)
          clear BK481
          clear BK482
          clear BK489
          clear BK493
          clear BK497
          clear HB
          have BK481 := n0_
          have BK482 := n1_
          have BK489 := n2_
          have BK493 := n3_
          have BK497 := n4_
          have HB := n5_
          clear n0_ n1_ n2_ n3_ n4_ n5_
          (try clear hb)
          (try clear hb2)
          (try clear hk)
          (try clear hi)
          refine hK.out _ _ ⟨(blk_cell BK497.out 0).trans rfl, (blk_cell BK497.out 1).trans rfl, (blk_cell BK497.out 2).trans rfl, (blk_cell BK493.out 0).trans rfl, (blk_cell BK493.out 1).trans rfl, (blk_cell BK493.out 2).trans rfl, (blk_cell BK489.out 0).trans rfl, (blk_cell BK489.out 1).trans rfl, (blk_cell BK489.out 2).trans rfl⟩ (fun hHeld => ?_)
          clear hK K
          refine norm_ (a' := ?_) ?_ ?_
          rotate_left
          ·show Act.put _ (some 55) _ = _
           simp only [Act.put, List.setIfInBounds_toArray, List.set_cons_zero, List.set_cons_succ, i64_w, i32_w]
           rfl
          refine pu_ 26 56 (bm_ 36 134217727) HT_ ?_
          refine pu_ 27 57 (bm_ 36 268435455) HT_ ?_
          refine pu_ 28 58 (bm_ 36 536870911) HT_ ?_
          refine pn_ 29 59 (bm_ 36 1073741823) HT_ ?_
          refine pn_ 30 60 (bm_ 36 2147483647) HT_ ?_
          refine pn_ 31 61 (bm_ 36 4294967295) HT_ ?_
          refine pn_ 32 62 (bm_ 36 8589934591) HT_ ?_
          refine pn_ 33 63 (bm_ 36 17179869183) HT_ ?_
          refine pn_ 34 64 (bm_ 36 34359738367) HT_ ?_
          refine pu_ 35 65 (bm_ 36 68719476735) HT_ ?_
          refine done_ (done_of HT_.out (by kernel_rfl)) ?_
          try go_wp2
          go_meet
          case rel => exact ⟨_, (true), eq_, H', ⟨by have := HJ4.out; first | omega | exact Nat.le_refl _⟩, (bk_ BK481), (bk_ BK482), (bk_ BK489), (bk_ BK493), (bk_ BK497), (bl_ HB)⟩
         ·rw [if_neg c67] at H
          have c67b0 : (!(t508 == t514) || (!(t509.toList == t515.toList) || (!(t510 == t516)))) = false := by simpa using c67
          clear c67
          replace H := Option.bind_eq_some_iff.mp H
          obtain ⟨⟨t517, t518, t519⟩, A770, H⟩ := H
          replace H : ((dec_Dec_Norm.f kj4 t486 t487 t488).bind fun bt520 => (florinlaw02_DecAdds.j1 kj4 (!(t517 == bt520.1) || (!(t518.toList == bt520.2.1.toList) || (!(t519 == bt520.2.2)))) t486 t487 t488 t490 t491 t492 t494 t495 t496)) = some r := H
          have A77 := Aside0.mk A770
          clear A770
          replace H := Option.bind_eq_some_iff.mp H
          obtain ⟨⟨t520, t521, t522⟩, A780, H⟩ := H
          replace H : (florinlaw02_DecAdds.j1 kj4 (!(t517 == t520) || (!(t518.toList == t521.toList) || (!(t519 == t522)))) t486 t487 t488 t490 t491 t492 t494 t495 t496) = some r := H
          have A78 := Aside0.mk A780
          clear A780
          have H' := Aside0.mk H
          clear H
          try go_wp2
          have n0_ : Aside0 ((((w41.setCell ⟨gb497, 0, none⟩ (.bool t494)).setCell ⟨gb497, 1, none⟩ (.string t495)).setCell ⟨gb497, 2, none⟩ (.int .i64 t496)).heap[gb481]? = _) := bf_ BK481
          have n1_ : Aside0 ((((w41.setCell ⟨gb497, 0, none⟩ (.bool t494)).setCell ⟨gb497, 1, none⟩ (.string t495)).setCell ⟨gb497, 2, none⟩ (.int .i64 t496)).heap[gb482]? = _) := bf_ BK482
          have n2_ : Aside0 ((((w41.setCell ⟨gb497, 0, none⟩ (.bool t494)).setCell ⟨gb497, 1, none⟩ (.string t495)).setCell ⟨gb497, 2, none⟩ (.int .i64 t496)).heap[gb489]? = _) := bf_ BK489
          have n3_ : Aside0 ((((w41.setCell ⟨gb497, 0, none⟩ (.bool t494)).setCell ⟨gb497, 1, none⟩ (.string t495)).setCell ⟨gb497, 2, none⟩ (.int .i64 t496)).heap[gb493]? = _) := bf_ BK493
          have n4_ : Aside0 ((((w41.setCell ⟨gb497, 0, none⟩ (.bool t494)).setCell ⟨gb497, 1, none⟩ (.string t495)).setCell ⟨gb497, 2, none⟩ (.int .i64 t496)).heap[gb497]? = some (.cells #[.bool t494, .string t495, .int .i64 t496] 24 (0, 0))) := ⟨by (with_reducible repeat (first | refine blk_drewN ?_ _ | refine blk_drew ?_ | refine blk_alloc ?_ _)); refine blk_put (cs := #[.bool t494, .string t495, .int .i64 0]) ?_ 2 _ rfl; (with_reducible repeat (first | refine blk_drewN ?_ _ | refine blk_drew ?_ | refine blk_alloc ?_ _)); refine blk_put (cs := #[.bool t494, .string (⟨#[]⟩ : ByteArray), .int .i64 0]) ?_ 1 _ rfl; (with_reducible repeat (first | refine blk_drewN ?_ _ | refine blk_drew ?_ | refine blk_alloc ?_ _)); refine blk_put (cs := #[.bool false, .string (⟨#[]⟩ : ByteArray), .int .i64 0]) ?_ 0 _ rfl; (with_reducible repeat (first | refine blk_drewN ?_ _ | refine blk_drew ?_ | refine blk_alloc ?_ _)); exact BK497.out⟩
          have n5_ : Aside0 (Below w.heap.size w (((w41.setCell ⟨gb497, 0, none⟩ (.bool t494)).setCell ⟨gb497, 1, none⟩ (.string t495)).setCell ⟨gb497, 2, none⟩ (.int .i64 t496))) := (bl_ HB)
          (try clear BK481)
          (try clear BK482)
          (try clear BK489)
          (try clear BK493)
          (try clear BK497)
          (try clear HB)
          generalize (((w41.setCell ⟨gb497, 0, none⟩ (.bool t494)).setCell ⟨gb497, 1, none⟩ (.string t495)).setCell ⟨gb497, 2, none⟩ (.int .i64 t496)) = w79 at n0_ n1_ n2_ n3_ n4_ n5_ ⊢
          have BK481 := n0_
          have BK482 := n1_
          have BK489 := n2_
          have BK493 := n3_
          have BK497 := n4_
          have HB := n5_
          clear n0_ n1_ n2_ n3_ n4_ n5_
          have n0_ := Aside0.mk (blk_drew BK481.out)
          have n1_ := Aside0.mk (blk_drew BK482.out)
          have n2_ := Aside0.mk (blk_drew BK489.out)
          have n3_ := Aside0.mk (blk_drew BK493.out)
          have n4_ := Aside0.mk (blk_drew BK497.out)
          have n5_ := Aside0.mk (below_drew1 HB.out)
          clear BK481
          clear BK482
          clear BK489
          clear BK493
          clear BK497
          clear HB
          have BK481 := n0_
          have BK482 := n1_
          have BK489 := n2_
          have BK493 := n3_
          have BK497 := n4_
          have HB := n5_
          clear n0_ n1_ n2_ n3_ n4_ n5_
          refine start_ (n := 36) (S := fun w' => w'.cell? ⟨gb497, 0, none⟩ = some (.bool t494) ∧ w'.cell? ⟨gb497, 1, none⟩ = some (.string t495) ∧ w'.cell? ⟨gb497, 2, none⟩ = some (.int .i64 t496) ∧ w'.cell? ⟨gb493, 0, none⟩ = some (.bool t490) ∧ w'.cell? ⟨gb493, 1, none⟩ = some (.string t491) ∧ w'.cell? ⟨gb493, 2, none⟩ = some (.int .i64 t492) ∧ w'.cell? ⟨gb489, 0, none⟩ = some (.bool t486) ∧ w'.cell? ⟨gb489, 1, none⟩ = some (.string t487) ∧ w'.cell? ⟨gb489, 2, none⟩ = some (.int .i64 t488)) (ds := []) #[false, false, false, false, false, false, false, false, false, false, false, false, false, false, false, false, false, false, false, false, false, false, false, false, false, false, false, false, false, false, false, false, false, false, false, false] (by kernel_rfl) rfl rfl ⟨(blk_cell BK497.out 0).trans rfl, (blk_cell BK497.out 1).trans rfl, (blk_cell BK497.out 2).trans rfl, (blk_cell BK493.out 0).trans rfl, (blk_cell BK493.out 1).trans rfl, (blk_cell BK493.out 2).trans rfl, (blk_cell BK489.out 0).trans rfl, (blk_cell BK489.out 1).trans rfl, (blk_cell BK489.out 2).trans rfl⟩ (fun hHeld => ?_); refine with_tabW florinlaw02_DecAdds.tab8 florinlaw02_DecAdds.bits8 (fun HT_ HW_ => ?_)
          generalize w79.drew = w80 at BK481 BK482 BK489 BK493 BK497 HB hHeld ⊢
          refine tk_ 0 30 (bm_ 36 1) HT_ HW_ hHeld rfl (by rintro w' ⟨s0, s1, s2, s3, s4, s5, s6, s7, s8⟩; go_simp; with_reducible rfl) ?_
          refine one_ (i := 1) (N := some 31) (bm_ 36 3) rfl rfl (one_of HT_.out (by kernel_rfl)) (by decide) (fun K hK => ?_)
          refine goes_ Tryd.func14 (by kernel_rfl) rfl #[.agg #[.bool t494, .string t495, .int .i64 t496]] (by rfl) rfl rfl (by (try simp only [List.map_toArray, List.map_cons, List.map_nil]); first | done | rfl | (simp only [List.length_drop, List.length_take]; rfl) | (have z_ : ∀ s_ : ByteArray, s_.size ≤ 9223372036854775807 → -(s_.size : Int) = wrap64 (-(s_.size : Int)) := (fun s_ h_ => by unfold wrap64; omega); rw [← z_ _ (by omega)]; rfl)) ?_
          with_reducible refine (florinlaw02_normal.calls kj4 t494 t495 t496 true _ A47.out).mono ?_
          rintro e w81 ⟨rfl, hb⟩
          refine ⟨_, rfl, ?_⟩
          have n0_ := bb_ BK481 hb
          have n1_ := bb_ BK482 hb
          have n2_ := bb_ BK489 hb
          have n3_ := bb_ BK493 hb
          have n4_ := bb_ BK497 hb
          have n5_ := Aside0.mk (below_step (bl_ HB).out hb)
          clear BK481
          clear BK482
          clear BK489
          clear BK493
          clear BK497
          clear HB
          have BK481 := n0_
          have BK482 := n1_
          have BK489 := n2_
          have BK493 := n3_
          have BK497 := n4_
          have HB := n5_
          clear n0_ n1_ n2_ n3_ n4_ n5_
          (try clear hb)
          (try clear hb2)
          (try clear hk)
          (try clear hi)
          refine hK.out _ _ ⟨(blk_cell BK497.out 0).trans rfl, (blk_cell BK497.out 1).trans rfl, (blk_cell BK497.out 2).trans rfl, (blk_cell BK493.out 0).trans rfl, (blk_cell BK493.out 1).trans rfl, (blk_cell BK493.out 2).trans rfl, (blk_cell BK489.out 0).trans rfl, (blk_cell BK489.out 1).trans rfl, (blk_cell BK489.out 2).trans rfl⟩ (fun hHeld => ?_)
          clear hK K
          refine norm_ (a' := ?_) ?_ ?_
          rotate_left
          ·show Act.put _ (some 31) _ = _
           simp only [Act.put, List.setIfInBounds_toArray, List.set_cons_zero, List.set_cons_succ, i64_w, i32_w]
           rfl
          refine pu_ 2 32 (bm_ 36 7) HT_ ?_
          refine pu_ 3 33 (bm_ 36 15) HT_ ?_
          refine tk_ 4 34 (bm_ 36 31) HT_ HW_ hHeld rfl (by rintro w' ⟨s0, s1, s2, s3, s4, s5, s6, s7, s8⟩; go_simp; with_reducible rfl) ?_
          refine tk_ 5 35 (bm_ 36 63) HT_ HW_ hHeld rfl (by rintro w' ⟨s0, s1, s2, s3, s4, s5, s6, s7, s8⟩; go_simp; with_reducible rfl) ?_
          refine tk_ 6 36 (bm_ 36 127) HT_ HW_ hHeld rfl (by rintro w' ⟨s0, s1, s2, s3, s4, s5, s6, s7, s8⟩; go_simp; with_reducible rfl) ?_
          refine one_ (i := 7) (N := some 37) (bm_ 36 255) rfl rfl (one_of HT_.out (by kernel_rfl)) (by decide) (fun K hK => ?_)
          refine goes_ Tryd.func32 (by kernel_rfl) rfl #[.agg #[.bool t490, .string t491, .int .i64 t492], .agg #[.bool t486, .string t487, .int .i64 t488]] (by rfl) rfl rfl (by (try simp only [List.map_toArray, List.map_cons, List.map_nil]); first | done | rfl | (simp only [List.length_drop, List.length_take]; rfl) | (have z_ : ∀ s_ : ByteArray, s_.size ≤ 9223372036854775807 → -(s_.size : Int) = wrap64 (-(s_.size : Int)) := (fun s_ h_ => by unfold wrap64; omega); rw [← z_ _ (by omega)]; rfl)) ?_
          with_reducible refine (dec_Add.calls kj4 t490 t491 t492 t486 t487 t488 t499 t500 t501 _ A49.out).mono ?_
          rintro e w82 ⟨rfl, hb⟩
          refine ⟨_, rfl, ?_⟩
          have n0_ := bb_ BK481 hb
          have n1_ := bb_ BK482 hb
          have n2_ := bb_ BK489 hb
          have n3_ := bb_ BK493 hb
          have n4_ := bb_ BK497 hb
          have n5_ := Aside0.mk (below_step (bl_ HB).out hb)
          clear BK481
          clear BK482
          clear BK489
          clear BK493
          clear BK497
          clear HB
          have BK481 := n0_
          have BK482 := n1_
          have BK489 := n2_
          have BK493 := n3_
          have BK497 := n4_
          have HB := n5_
          clear n0_ n1_ n2_ n3_ n4_ n5_
          (try clear hb)
          (try clear hb2)
          (try clear hk)
          (try clear hi)
          refine hK.out _ _ ⟨(blk_cell BK497.out 0).trans rfl, (blk_cell BK497.out 1).trans rfl, (blk_cell BK497.out 2).trans rfl, (blk_cell BK493.out 0).trans rfl, (blk_cell BK493.out 1).trans rfl, (blk_cell BK493.out 2).trans rfl, (blk_cell BK489.out 0).trans rfl, (blk_cell BK489.out 1).trans rfl, (blk_cell BK489.out 2).trans rfl⟩ (fun hHeld => ?_)
          clear hK K
          refine norm_ (a' := ?_) ?_ ?_
          rotate_left
          ·show Act.put _ (some 37) _ = _
           simp only [Act.put, List.setIfInBounds_toArray, List.set_cons_zero, List.set_cons_succ, i64_w, i32_w]
           rfl
          refine pu_ 8 38 (bm_ 36 511) HT_ ?_
          refine pu_ 9 39 (bm_ 36 1023) HT_ ?_
          refine pu_ 10 40 (bm_ 36 2047) HT_ ?_
          refine tk_ 11 41 (bm_ 36 4095) HT_ HW_ hHeld rfl (by rintro w' ⟨s0, s1, s2, s3, s4, s5, s6, s7, s8⟩; go_simp; with_reducible rfl) ?_
          refine tk_ 12 42 (bm_ 36 8191) HT_ HW_ hHeld rfl (by rintro w' ⟨s0, s1, s2, s3, s4, s5, s6, s7, s8⟩; go_simp; with_reducible rfl) ?_
          refine tk_ 14 44 (bm_ 36 24575) HT_ HW_ hHeld rfl (by rintro w' ⟨s0, s1, s2, s3, s4, s5, s6, s7, s8⟩; go_simp; with_reducible rfl) ?_
          refine one_ (i := 13) (N := some 43) (bm_ 36 32767) rfl rfl (one_of HT_.out (by kernel_rfl)) (by decide) (fun K hK => ?_)
          refine goes_ Tryd.func33 (by kernel_rfl) rfl #[.agg #[.bool t494, .string t495, .int .i64 t496], .agg #[.bool t490, .string t491, .int .i64 t492]] (by rfl) rfl rfl (by (try simp only [List.map_toArray, List.map_cons, List.map_nil]); first | done | rfl | (simp only [List.length_drop, List.length_take]; rfl) | (have z_ : ∀ s_ : ByteArray, s_.size ≤ 9223372036854775807 → -(s_.size : Int) = wrap64 (-(s_.size : Int)) := (fun s_ h_ => by unfold wrap64; omega); rw [← z_ _ (by omega)]; rfl)) ?_
          with_reducible refine (dec_Sub.calls kj4 t494 t495 t496 t490 t491 t492 t502 t503 t504 _ A55.out).mono ?_
          rintro e w83 ⟨rfl, hb⟩
          refine ⟨_, rfl, ?_⟩
          have n0_ := bb_ BK481 hb
          have n1_ := bb_ BK482 hb
          have n2_ := bb_ BK489 hb
          have n3_ := bb_ BK493 hb
          have n4_ := bb_ BK497 hb
          have n5_ := Aside0.mk (below_step (bl_ HB).out hb)
          clear BK481
          clear BK482
          clear BK489
          clear BK493
          clear BK497
          clear HB
          have BK481 := n0_
          have BK482 := n1_
          have BK489 := n2_
          have BK493 := n3_
          have BK497 := n4_
          have HB := n5_
          clear n0_ n1_ n2_ n3_ n4_ n5_
          (try clear hb)
          (try clear hb2)
          (try clear hk)
          (try clear hi)
          refine hK.out _ _ ⟨(blk_cell BK497.out 0).trans rfl, (blk_cell BK497.out 1).trans rfl, (blk_cell BK497.out 2).trans rfl, (blk_cell BK493.out 0).trans rfl, (blk_cell BK493.out 1).trans rfl, (blk_cell BK493.out 2).trans rfl, (blk_cell BK489.out 0).trans rfl, (blk_cell BK489.out 1).trans rfl, (blk_cell BK489.out 2).trans rfl⟩ (fun hHeld => ?_)
          clear hK K
          refine norm_ (a' := ?_) ?_ ?_
          rotate_left
          ·show Act.put _ (some 43) _ = _
           simp only [Act.put, List.setIfInBounds_toArray, List.set_cons_zero, List.set_cons_succ, i64_w, i32_w]
           rfl
          refine one_ (i := 15) (N := some 45) (bm_ 36 65535) rfl rfl (one_of HT_.out (by kernel_rfl)) (by decide) (fun K hK => ?_)
          refine goes_ Tryd.func19 (by kernel_rfl) rfl #[.agg #[.bool t486, .string t487, .int .i64 t488]] (by rfl) rfl rfl (by (try simp only [List.map_toArray, List.map_cons, List.map_nil]); first | done | rfl | (simp only [List.length_drop, List.length_take]; rfl) | (have z_ : ∀ s_ : ByteArray, s_.size ≤ 9223372036854775807 → -(s_.size : Int) = wrap64 (-(s_.size : Int)) := (fun s_ h_ => by unfold wrap64; omega); rw [← z_ _ (by omega)]; rfl)) ?_
          with_reducible refine (dec_Dec_Norm.calls kj4 t486 t487 t488 t505 t506 t507 _ A56.out).mono ?_
          rintro e w84 ⟨rfl, hb⟩
          refine ⟨_, rfl, ?_⟩
          have n0_ := bb_ BK481 hb
          have n1_ := bb_ BK482 hb
          have n2_ := bb_ BK489 hb
          have n3_ := bb_ BK493 hb
          have n4_ := bb_ BK497 hb
          have n5_ := Aside0.mk (below_step (bl_ HB).out hb)
          clear BK481
          clear BK482
          clear BK489
          clear BK493
          clear BK497
          clear HB
          have BK481 := n0_
          have BK482 := n1_
          have BK489 := n2_
          have BK493 := n3_
          have BK497 := n4_
          have HB := n5_
          clear n0_ n1_ n2_ n3_ n4_ n5_
          (try clear hb)
          (try clear hb2)
          (try clear hk)
          (try clear hi)
          refine hK.out _ _ ⟨(blk_cell BK497.out 0).trans rfl, (blk_cell BK497.out 1).trans rfl, (blk_cell BK497.out 2).trans rfl, (blk_cell BK493.out 0).trans rfl, (blk_cell BK493.out 1).trans rfl, (blk_cell BK493.out 2).trans rfl, (blk_cell BK489.out 0).trans rfl, (blk_cell BK489.out 1).trans rfl, (blk_cell BK489.out 2).trans rfl⟩ (fun hHeld => ?_)
          clear hK K
          refine norm_ (a' := ?_) ?_ ?_
          rotate_left
          ·show Act.put _ (some 45) _ = _
           simp only [Act.put, List.setIfInBounds_toArray, List.set_cons_zero, List.set_cons_succ, i64_w, i32_w]
           rfl
          refine pu_ 16 46 (bm_ 36 131071) HT_ ?_
          refine pu_ 17 47 (bm_ 36 262143) HT_ ?_
          refine pu_ 18 48 (bm_ 36 524287) HT_ ?_
          refine tk_ 19 49 (bm_ 36 1048575) HT_ HW_ hHeld rfl (by rintro w' ⟨s0, s1, s2, s3, s4, s5, s6, s7, s8⟩; go_simp; with_reducible rfl) ?_
          refine tk_ 20 50 (bm_ 36 2097151) HT_ HW_ hHeld rfl (by rintro w' ⟨s0, s1, s2, s3, s4, s5, s6, s7, s8⟩; go_simp; with_reducible rfl) ?_
          refine tk_ 22 52 (bm_ 36 6291455) HT_ HW_ hHeld rfl (by rintro w' ⟨s0, s1, s2, s3, s4, s5, s6, s7, s8⟩; go_simp; with_reducible rfl) ?_
          refine tk_ 23 53 (bm_ 36 14680063) HT_ HW_ hHeld rfl (by rintro w' ⟨s0, s1, s2, s3, s4, s5, s6, s7, s8⟩; go_simp; with_reducible rfl) ?_
          refine one_ (i := 21) (N := some 51) (bm_ 36 16777215) rfl rfl (one_of HT_.out (by kernel_rfl)) (by decide) (fun K hK => ?_)
          refine goes_ Tryd.func33 (by kernel_rfl) rfl #[.agg #[.bool t486, .string t487, .int .i64 t488], .agg #[.bool t490, .string t491, .int .i64 t492]] (by rfl) rfl rfl (by (try simp only [List.map_toArray, List.map_cons, List.map_nil]); first | done | rfl | (simp only [List.length_drop, List.length_take]; rfl) | (have z_ : ∀ s_ : ByteArray, s_.size ≤ 9223372036854775807 → -(s_.size : Int) = wrap64 (-(s_.size : Int)) := (fun s_ h_ => by unfold wrap64; omega); rw [← z_ _ (by omega)]; rfl)) ?_
          with_reducible refine (dec_Sub.calls kj4 t486 t487 t488 t490 t491 t492 t508 t509 t510 _ A64.out).mono ?_
          rintro e w85 ⟨rfl, hb⟩
          refine ⟨_, rfl, ?_⟩
          have n0_ := bb_ BK481 hb
          have n1_ := bb_ BK482 hb
          have n2_ := bb_ BK489 hb
          have n3_ := bb_ BK493 hb
          have n4_ := bb_ BK497 hb
          have n5_ := Aside0.mk (below_step (bl_ HB).out hb)
          clear BK481
          clear BK482
          clear BK489
          clear BK493
          clear BK497
          clear HB
          have BK481 := n0_
          have BK482 := n1_
          have BK489 := n2_
          have BK493 := n3_
          have BK497 := n4_
          have HB := n5_
          clear n0_ n1_ n2_ n3_ n4_ n5_
          (try clear hb)
          (try clear hb2)
          (try clear hk)
          (try clear hi)
          refine hK.out _ _ ⟨(blk_cell BK497.out 0).trans rfl, (blk_cell BK497.out 1).trans rfl, (blk_cell BK497.out 2).trans rfl, (blk_cell BK493.out 0).trans rfl, (blk_cell BK493.out 1).trans rfl, (blk_cell BK493.out 2).trans rfl, (blk_cell BK489.out 0).trans rfl, (blk_cell BK489.out 1).trans rfl, (blk_cell BK489.out 2).trans rfl⟩ (fun hHeld => ?_)
          clear hK K
          refine norm_ (a' := ?_) ?_ ?_
          rotate_left
          ·show Act.put _ (some 51) _ = _
           simp only [Act.put, List.setIfInBounds_toArray, List.set_cons_zero, List.set_cons_succ, i64_w, i32_w]
           rfl
          refine one_ (i := 24) (N := some 54) (bm_ 36 33554431) rfl rfl (one_of HT_.out (by kernel_rfl)) (by decide) (fun K hK => ?_)
          refine goes_ Tryd.func33 (by kernel_rfl) rfl #[.agg #[.bool t490, .string t491, .int .i64 t492], .agg #[.bool t486, .string t487, .int .i64 t488]] (by rfl) rfl rfl (by (try simp only [List.map_toArray, List.map_cons, List.map_nil]); first | done | rfl | (simp only [List.length_drop, List.length_take]; rfl) | (have z_ : ∀ s_ : ByteArray, s_.size ≤ 9223372036854775807 → -(s_.size : Int) = wrap64 (-(s_.size : Int)) := (fun s_ h_ => by unfold wrap64; omega); rw [← z_ _ (by omega)]; rfl)) ?_
          with_reducible refine (dec_Sub.calls kj4 t490 t491 t492 t486 t487 t488 t511 t512 t513 _ A65.out).mono ?_
          rintro e w86 ⟨rfl, hb⟩
          refine ⟨_, rfl, ?_⟩
          have n0_ := bb_ BK481 hb
          have n1_ := bb_ BK482 hb
          have n2_ := bb_ BK489 hb
          have n3_ := bb_ BK493 hb
          have n4_ := bb_ BK497 hb
          have n5_ := Aside0.mk (below_step (bl_ HB).out hb)
          clear BK481
          clear BK482
          clear BK489
          clear BK493
          clear BK497
          clear HB
          have BK481 := n0_
          have BK482 := n1_
          have BK489 := n2_
          have BK493 := n3_
          have BK497 := n4_
          have HB := n5_
          clear n0_ n1_ n2_ n3_ n4_ n5_
          (try clear hb)
          (try clear hb2)
          (try clear hk)
          (try clear hi)
          refine hK.out _ _ ⟨(blk_cell BK497.out 0).trans rfl, (blk_cell BK497.out 1).trans rfl, (blk_cell BK497.out 2).trans rfl, (blk_cell BK493.out 0).trans rfl, (blk_cell BK493.out 1).trans rfl, (blk_cell BK493.out 2).trans rfl, (blk_cell BK489.out 0).trans rfl, (blk_cell BK489.out 1).trans rfl, (blk_cell BK489.out 2).trans rfl⟩ (fun hHeld => ?_)
          clear hK K
          refine norm_ (a' := ?_) ?_ ?_
          rotate_left
          ·show Act.put _ (some 54) _ = _
           simp only [Act.put, List.setIfInBounds_toArray, List.set_cons_zero, List.set_cons_succ, i64_w, i32_w]
           rfl
          refine one_ (i := 25) (N := some 55) (bm_ 36 67108863) rfl rfl (one_of HT_.out (by kernel_rfl)) (by decide) (fun K hK => ?_)
          refine goes_ Tryd.func34 (by kernel_rfl) rfl #[.agg #[.bool t511, .string t512, .int .i64 t513]] (by rfl) rfl rfl (by (try simp only [List.map_toArray, List.map_cons, List.map_nil]); first | done | rfl | (simp only [List.length_drop, List.length_take]; rfl) | (have z_ : ∀ s_ : ByteArray, s_.size ≤ 9223372036854775807 → -(s_.size : Int) = wrap64 (-(s_.size : Int)) := (fun s_ h_ => by unfold wrap64; omega); rw [← z_ _ (by omega)]; rfl)) ?_
          with_reducible refine (dec_Dec_Minus.calls kj4 t511 t512 t513 t514 t515 t516 _ A66.out).mono ?_
          rintro e w87 ⟨rfl, hb⟩
          refine ⟨_, rfl, ?_⟩
          have n0_ := bb_ BK481 hb
          have n1_ := bb_ BK482 hb
          have n2_ := bb_ BK489 hb
          have n3_ := bb_ BK493 hb
          have n4_ := bb_ BK497 hb
          have n5_ := Aside0.mk (below_step (bl_ HB).out hb)
          clear BK481
          clear BK482
          clear BK489
          clear BK493
          clear BK497
          clear HB
          have BK481 := n0_
          have BK482 := n1_
          have BK489 := n2_
          have BK493 := n3_
          have BK497 := n4_
          have HB := n5_
          clear n0_ n1_ n2_ n3_ n4_ n5_
          (try clear hb)
          (try clear hb2)
          (try clear hk)
          (try clear hi)
          refine hK.out _ _ ⟨(blk_cell BK497.out 0).trans rfl, (blk_cell BK497.out 1).trans rfl, (blk_cell BK497.out 2).trans rfl, (blk_cell BK493.out 0).trans rfl, (blk_cell BK493.out 1).trans rfl, (blk_cell BK493.out 2).trans rfl, (blk_cell BK489.out 0).trans rfl, (blk_cell BK489.out 1).trans rfl, (blk_cell BK489.out 2).trans rfl⟩ (fun hHeld => ?_)
          clear hK K
          refine norm_ (a' := ?_) ?_ ?_
          rotate_left
          ·show Act.put _ (some 55) _ = _
           simp only [Act.put, List.setIfInBounds_toArray, List.set_cons_zero, List.set_cons_succ, i64_w, i32_w]
           rfl
          refine pu_ 26 56 (bm_ 36 134217727) HT_ ?_
          refine pu_ 27 57 (bm_ 36 268435455) HT_ ?_
          refine pu_ 28 58 (bm_ 36 536870911) HT_ ?_
          refine pu_ 30 60 (bm_ 36 1610612735) HT_ ?_
          refine tk_ 29 59 (bm_ 36 2147483647) HT_ HW_ hHeld rfl (by rintro w' ⟨s0, s1, s2, s3, s4, s5, s6, s7, s8⟩; go_simp; with_reducible rfl) ?_
          refine tk_ 32 62 (bm_ 36 6442450943) HT_ HW_ hHeld rfl (by rintro w' ⟨s0, s1, s2, s3, s4, s5, s6, s7, s8⟩; go_simp; with_reducible rfl) ?_
          refine one_ (i := 31) (N := some 61) (bm_ 36 8589934591) rfl rfl (one_of HT_.out (by kernel_rfl)) (by decide) (fun K hK => ?_)
          refine goes_ Tryd.func32 (by kernel_rfl) rfl #[.agg #[.bool t486, .string t487, .int .i64 t488], .agg #[.bool false, .string (⟨#[]⟩ : ByteArray), .int .i64 0]] (by rfl) rfl rfl (by (try simp only [List.map_toArray, List.map_cons, List.map_nil]); first | done | rfl | (simp only [List.length_drop, List.length_take]; rfl) | (have z_ : ∀ s_ : ByteArray, s_.size ≤ 9223372036854775807 → -(s_.size : Int) = wrap64 (-(s_.size : Int)) := (fun s_ h_ => by unfold wrap64; omega); rw [← z_ _ (by omega)]; rfl)) ?_
          with_reducible refine (dec_Add.calls kj4 t486 t487 t488 false (⟨#[]⟩ : ByteArray) 0 t517 t518 t519 _ A77.out).mono ?_
          rintro e w88 ⟨rfl, hb⟩
          refine ⟨_, rfl, ?_⟩
          have n0_ := bb_ BK481 hb
          have n1_ := bb_ BK482 hb
          have n2_ := bb_ BK489 hb
          have n3_ := bb_ BK493 hb
          have n4_ := bb_ BK497 hb
          have n5_ := Aside0.mk (below_step (bl_ HB).out hb)
          clear BK481
          clear BK482
          clear BK489
          clear BK493
          clear BK497
          clear HB
          have BK481 := n0_
          have BK482 := n1_
          have BK489 := n2_
          have BK493 := n3_
          have BK497 := n4_
          have HB := n5_
          clear n0_ n1_ n2_ n3_ n4_ n5_
          (try clear hb)
          (try clear hb2)
          (try clear hk)
          (try clear hi)
          refine hK.out _ _ ⟨(blk_cell BK497.out 0).trans rfl, (blk_cell BK497.out 1).trans rfl, (blk_cell BK497.out 2).trans rfl, (blk_cell BK493.out 0).trans rfl, (blk_cell BK493.out 1).trans rfl, (blk_cell BK493.out 2).trans rfl, (blk_cell BK489.out 0).trans rfl, (blk_cell BK489.out 1).trans rfl, (blk_cell BK489.out 2).trans rfl⟩ (fun hHeld => ?_)
          clear hK K
          refine norm_ (a' := ?_) ?_ ?_
          rotate_left
          ·show Act.put _ (some 61) _ = _
           simp only [Act.put, List.setIfInBounds_toArray, List.set_cons_zero, List.set_cons_succ, i64_w, i32_w]
           rfl
          refine one_ (i := 33) (N := some 63) (bm_ 36 17179869183) rfl rfl (one_of HT_.out (by kernel_rfl)) (by decide) (fun K hK => ?_)
          refine goes_ Tryd.func19 (by kernel_rfl) rfl #[.agg #[.bool t486, .string t487, .int .i64 t488]] (by rfl) rfl rfl (by (try simp only [List.map_toArray, List.map_cons, List.map_nil]); first | done | rfl | (simp only [List.length_drop, List.length_take]; rfl) | (have z_ : ∀ s_ : ByteArray, s_.size ≤ 9223372036854775807 → -(s_.size : Int) = wrap64 (-(s_.size : Int)) := (fun s_ h_ => by unfold wrap64; omega); rw [← z_ _ (by omega)]; rfl)) ?_
          with_reducible refine (dec_Dec_Norm.calls kj4 t486 t487 t488 t520 t521 t522 _ A78.out).mono ?_
          rintro e w89 ⟨rfl, hb⟩
          refine ⟨_, rfl, ?_⟩
          have n0_ := bb_ BK481 hb
          have n1_ := bb_ BK482 hb
          have n2_ := bb_ BK489 hb
          have n3_ := bb_ BK493 hb
          have n4_ := bb_ BK497 hb
          have n5_ := Aside0.mk (below_step (bl_ HB).out hb)
          clear BK481
          clear BK482
          clear BK489
          clear BK493
          clear BK497
          clear HB
          have BK481 := n0_
          have BK482 := n1_
          have BK489 := n2_
          have BK493 := n3_
          have BK497 := n4_
          have HB := n5_
          clear n0_ n1_ n2_ n3_ n4_ n5_
          (try clear hb)
          (try clear hb2)
          (try clear hk)
          (try clear hi)
          refine hK.out _ _ ⟨(blk_cell BK497.out 0).trans rfl, (blk_cell BK497.out 1).trans rfl, (blk_cell BK497.out 2).trans rfl, (blk_cell BK493.out 0).trans rfl, (blk_cell BK493.out 1).trans rfl, (blk_cell BK493.out 2).trans rfl, (blk_cell BK489.out 0).trans rfl, (blk_cell BK489.out 1).trans rfl, (blk_cell BK489.out 2).trans rfl⟩ (fun hHeld => ?_)
          clear hK K
          refine norm_ (a' := ?_) ?_ ?_
          rotate_left
          ·show Act.put _ (some 63) _ = _
           simp only [Act.put, List.setIfInBounds_toArray, List.set_cons_zero, List.set_cons_succ, i64_w, i32_w]
           rfl
          refine pu_ 34 64 (bm_ 36 34359738367) HT_ ?_
          refine pu_ 35 65 (bm_ 36 68719476735) HT_ ?_
          refine done_ (done_of HT_.out (by kernel_rfl)) ?_
          try go_wp2
          go_meet
          case rel => exact ⟨_, ((!(t517 == t520) || (!(t518.toList == t521.toList) || (!(t519 == t522))))), eq_, H', ⟨by have := HJ4.out; first | omega | exact Nat.le_refl _⟩, (bk_ BK481), (bk_ BK482), (bk_ BK489), (bk_ BK493), (bk_ BK497), (bl_ HB)⟩
      ·replace c48 := Bool.eq_false_iff.mpr c48
       subst c48
       have H1 : (florinlaw02_DecAdds.j1 kj4 true t486 t487 t488 t490 t491 t492 t494 t495 t496) = some r := by rw [if_neg (show ¬ (false = true) by decide)] at H; exact H
       clear H
       have H := H1
       clear H1
       have H' := Aside0.mk H
       clear H
       try go_wp2
       have n0_ : Aside0 ((((w41.setCell ⟨gb497, 0, none⟩ (.bool t494)).setCell ⟨gb497, 1, none⟩ (.string t495)).setCell ⟨gb497, 2, none⟩ (.int .i64 t496)).heap[gb481]? = _) := bf_ BK481
       have n1_ : Aside0 ((((w41.setCell ⟨gb497, 0, none⟩ (.bool t494)).setCell ⟨gb497, 1, none⟩ (.string t495)).setCell ⟨gb497, 2, none⟩ (.int .i64 t496)).heap[gb482]? = _) := bf_ BK482
       have n2_ : Aside0 ((((w41.setCell ⟨gb497, 0, none⟩ (.bool t494)).setCell ⟨gb497, 1, none⟩ (.string t495)).setCell ⟨gb497, 2, none⟩ (.int .i64 t496)).heap[gb489]? = _) := bf_ BK489
       have n3_ : Aside0 ((((w41.setCell ⟨gb497, 0, none⟩ (.bool t494)).setCell ⟨gb497, 1, none⟩ (.string t495)).setCell ⟨gb497, 2, none⟩ (.int .i64 t496)).heap[gb493]? = _) := bf_ BK493
       have n4_ : Aside0 ((((w41.setCell ⟨gb497, 0, none⟩ (.bool t494)).setCell ⟨gb497, 1, none⟩ (.string t495)).setCell ⟨gb497, 2, none⟩ (.int .i64 t496)).heap[gb497]? = some (.cells #[.bool t494, .string t495, .int .i64 t496] 24 (0, 0))) := ⟨by (with_reducible repeat (first | refine blk_drewN ?_ _ | refine blk_drew ?_ | refine blk_alloc ?_ _)); refine blk_put (cs := #[.bool t494, .string t495, .int .i64 0]) ?_ 2 _ rfl; (with_reducible repeat (first | refine blk_drewN ?_ _ | refine blk_drew ?_ | refine blk_alloc ?_ _)); refine blk_put (cs := #[.bool t494, .string (⟨#[]⟩ : ByteArray), .int .i64 0]) ?_ 1 _ rfl; (with_reducible repeat (first | refine blk_drewN ?_ _ | refine blk_drew ?_ | refine blk_alloc ?_ _)); refine blk_put (cs := #[.bool false, .string (⟨#[]⟩ : ByteArray), .int .i64 0]) ?_ 0 _ rfl; (with_reducible repeat (first | refine blk_drewN ?_ _ | refine blk_drew ?_ | refine blk_alloc ?_ _)); exact BK497.out⟩
       have n5_ : Aside0 (Below w.heap.size w (((w41.setCell ⟨gb497, 0, none⟩ (.bool t494)).setCell ⟨gb497, 1, none⟩ (.string t495)).setCell ⟨gb497, 2, none⟩ (.int .i64 t496))) := (bl_ HB)
       (try clear BK481)
       (try clear BK482)
       (try clear BK489)
       (try clear BK493)
       (try clear BK497)
       (try clear HB)
       generalize (((w41.setCell ⟨gb497, 0, none⟩ (.bool t494)).setCell ⟨gb497, 1, none⟩ (.string t495)).setCell ⟨gb497, 2, none⟩ (.int .i64 t496)) = w90 at n0_ n1_ n2_ n3_ n4_ n5_ ⊢
       have BK481 := n0_
       have BK482 := n1_
       have BK489 := n2_
       have BK493 := n3_
       have BK497 := n4_
       have HB := n5_
       clear n0_ n1_ n2_ n3_ n4_ n5_
       have n0_ := Aside0.mk (blk_drew BK481.out)
       have n1_ := Aside0.mk (blk_drew BK482.out)
       have n2_ := Aside0.mk (blk_drew BK489.out)
       have n3_ := Aside0.mk (blk_drew BK493.out)
       have n4_ := Aside0.mk (blk_drew BK497.out)
       have n5_ := Aside0.mk (below_drew1 HB.out)
       clear BK481
       clear BK482
       clear BK489
       clear BK493
       clear BK497
       clear HB
       have BK481 := n0_
       have BK482 := n1_
       have BK489 := n2_
       have BK493 := n3_
       have BK497 := n4_
       have HB := n5_
       clear n0_ n1_ n2_ n3_ n4_ n5_
       refine start_ (n := 36) (S := fun w' => w'.cell? ⟨gb497, 0, none⟩ = some (.bool t494) ∧ w'.cell? ⟨gb497, 1, none⟩ = some (.string t495) ∧ w'.cell? ⟨gb497, 2, none⟩ = some (.int .i64 t496)) (ds := []) #[false, false, false, false, false, false, false, false, false, false, false, false, false, false, false, false, false, false, false, false, false, false, false, false, false, false, false, false, false, false, false, false, false, false, false, false] (by kernel_rfl) rfl rfl ⟨(blk_cell BK497.out 0).trans rfl, (blk_cell BK497.out 1).trans rfl, (blk_cell BK497.out 2).trans rfl⟩ (fun hHeld => ?_); refine with_tabW florinlaw02_DecAdds.tab8 florinlaw02_DecAdds.bits8 (fun HT_ HW_ => ?_)
       generalize w90.drew = w91 at BK481 BK482 BK489 BK493 BK497 HB hHeld ⊢
       refine tk_ 0 30 (bm_ 36 1) HT_ HW_ hHeld rfl (by rintro w' ⟨s0, s1, s2⟩; go_simp; with_reducible rfl) ?_
       refine one_ (i := 1) (N := some 31) (bm_ 36 3) rfl rfl (one_of HT_.out (by kernel_rfl)) (by decide) (fun K hK => ?_)
       refine goes_ Tryd.func14 (by kernel_rfl) rfl #[.agg #[.bool t494, .string t495, .int .i64 t496]] (by rfl) rfl rfl (by (try simp only [List.map_toArray, List.map_cons, List.map_nil]); first | done | rfl | (simp only [List.length_drop, List.length_take]; rfl) | (have z_ : ∀ s_ : ByteArray, s_.size ≤ 9223372036854775807 → -(s_.size : Int) = wrap64 (-(s_.size : Int)) := (fun s_ h_ => by unfold wrap64; omega); rw [← z_ _ (by omega)]; rfl)) ?_
       with_reducible refine (florinlaw02_normal.calls kj4 t494 t495 t496 false _ A47.out).mono ?_
       rintro e w92 ⟨rfl, hb⟩
       refine ⟨_, rfl, ?_⟩
       have n0_ := bb_ BK481 hb
       have n1_ := bb_ BK482 hb
       have n2_ := bb_ BK489 hb
       have n3_ := bb_ BK493 hb
       have n4_ := bb_ BK497 hb
       have n5_ := Aside0.mk (below_step (bl_ HB).out hb)
       clear BK481
       clear BK482
       clear BK489
       clear BK493
       clear BK497
       clear HB
       have BK481 := n0_
       have BK482 := n1_
       have BK489 := n2_
       have BK493 := n3_
       have BK497 := n4_
       have HB := n5_
       clear n0_ n1_ n2_ n3_ n4_ n5_
       (try clear hb)
       (try clear hb2)
       (try clear hk)
       (try clear hi)
       refine hK.out _ _ ⟨(blk_cell BK497.out 0).trans rfl, (blk_cell BK497.out 1).trans rfl, (blk_cell BK497.out 2).trans rfl⟩ (fun hHeld => ?_)
       clear hK K
       refine norm_ (a' := ?_) ?_ ?_
       rotate_left
       ·show Act.put _ (some 31) _ = _
        simp only [Act.put, List.setIfInBounds_toArray, List.set_cons_zero, List.set_cons_succ, i64_w, i32_w]
        rfl
       refine pu_ 2 32 (bm_ 36 7) HT_ ?_
       refine pu_ 3 33 (bm_ 36 15) HT_ ?_
       refine pn_ 4 34 (bm_ 36 31) HT_ ?_
       refine pn_ 5 35 (bm_ 36 63) HT_ ?_
       refine pn_ 6 36 (bm_ 36 127) HT_ ?_
       refine pn_ 7 37 (bm_ 36 255) HT_ ?_
       refine pn_ 8 38 (bm_ 36 511) HT_ ?_
       refine pu_ 9 39 (bm_ 36 1023) HT_ ?_
       refine pu_ 10 40 (bm_ 36 2047) HT_ ?_
       refine pn_ 11 41 (bm_ 36 4095) HT_ ?_
       refine pn_ 12 42 (bm_ 36 8191) HT_ ?_
       refine pn_ 13 43 (bm_ 36 16383) HT_ ?_
       refine pn_ 14 44 (bm_ 36 32767) HT_ ?_
       refine pn_ 15 45 (bm_ 36 65535) HT_ ?_
       refine pn_ 16 46 (bm_ 36 131071) HT_ ?_
       refine pu_ 17 47 (bm_ 36 262143) HT_ ?_
       refine pu_ 18 48 (bm_ 36 524287) HT_ ?_
       refine pn_ 19 49 (bm_ 36 1048575) HT_ ?_
       refine pn_ 20 50 (bm_ 36 2097151) HT_ ?_
       refine pn_ 21 51 (bm_ 36 4194303) HT_ ?_
       refine pn_ 22 52 (bm_ 36 8388607) HT_ ?_
       refine pn_ 23 53 (bm_ 36 16777215) HT_ ?_
       refine pn_ 24 54 (bm_ 36 33554431) HT_ ?_
       refine pn_ 25 55 (bm_ 36 67108863) HT_ ?_
       refine pn_ 26 56 (bm_ 36 134217727) HT_ ?_
       refine pu_ 27 57 (bm_ 36 268435455) HT_ ?_
       refine pu_ 28 58 (bm_ 36 536870911) HT_ ?_
       refine pn_ 29 59 (bm_ 36 1073741823) HT_ ?_
       refine pn_ 30 60 (bm_ 36 2147483647) HT_ ?_
       refine pn_ 31 61 (bm_ 36 4294967295) HT_ ?_
       refine pn_ 32 62 (bm_ 36 8589934591) HT_ ?_
       refine pn_ 33 63 (bm_ 36 17179869183) HT_ ?_
       refine pn_ 34 64 (bm_ 36 34359738367) HT_ ?_
       refine pu_ 35 65 (bm_ 36 68719476735) HT_ ?_
       refine done_ (done_of HT_.out (by kernel_rfl)) ?_
       try go_wp2
       go_meet
       case rel => exact ⟨_, (true), eq_, H', ⟨by have := HJ4.out; first | omega | exact Nat.le_refl _⟩, (bk_ BK481), (bk_ BK482), (bk_ BK489), (bk_ BK493), (bk_ BK497), (bl_ HB)⟩
     case rest =>
      clear HC24
      try clear c1
      try clear p2
      try clear c3
      try clear c4
      try clear p6
      try clear c14
      try clear c19
      try clear c32
      try clear c33
      try clear c34
      try clear c48
      try clear p64
      obtain ⟨kq, x65_23, rfl, HA, HJ23, BK481, BK482, BK489, BK493, BK497, HB⟩ := hcut
      cases kq with
      | zero => exact absurd HA.out (by simp [florinlaw02_DecAdds.j1])
      | succ kj23 =>
       have H := HA.out
       clear HA
       simp only [florinlaw02_DecAdds.j1] at H
       by_cases c93 : x65_23 = true
       ·subst c93
        have H1 : (some false) = some r := by rw [if_pos rfl] at H; exact H
        clear H
        have H := H1
        clear H1
        obtain rfl := Option.some.inj H
        go_wp2
        go_ret
        exact ⟨by first | rfl | (simp [errW_none, errW_some] <;> rfl) | (simp [*, errW_none, errW_some] <;> first | rfl | exact given_isEmpty _ | exact (given_isEmpty _).symm), by repeat (first | (with_reducible first | exact HB.out | apply below_alloc | apply pw_below_drewN | apply below_drew1 | refine below_set ?_ GE481.out | refine below_set ?_ GE482.out | refine below_set ?_ GE489.out | refine below_set ?_ GE493.out | refine below_set ?_ GE497.out) | exact HB.out)⟩
       ·replace c93 := Bool.eq_false_iff.mpr c93
        subst c93
        have H1 : ((florinlaw02_Places.f kj23 t486 t487 t488 60).bind fun t523 => ((florinlaw02_Places.f kj23 t490 t491 t492 60).bind fun t524 => ((num_Trim.f kj23 t523).bind fun t525 => (if t525.toList = ([] : List UInt8) then (florinlaw02_DecAdds.j2 kj23 t523 t524 true t486 t487 t488 t490 t491 t492 t494 t495 t496) else ((num_Trim.f kj23 t524).bind fun t526 => (florinlaw02_DecAdds.j2 kj23 t523 t524 (t526.toList == ([] : List UInt8)) t486 t487 t488 t490 t491 t492 t494 t495 t496)))))) = some r := by rw [if_neg (show ¬ (false = true) by decide)] at H; exact H
        clear H
        have H := H1
        clear H1
        replace H := Option.bind_eq_some_iff.mp H
        obtain ⟨t523, A940, H⟩ := H
        replace H : ((florinlaw02_Places.f kj23 t490 t491 t492 60).bind fun t524 => ((num_Trim.f kj23 t523).bind fun t525 => (if t525.toList = ([] : List UInt8) then (florinlaw02_DecAdds.j2 kj23 t523 t524 true t486 t487 t488 t490 t491 t492 t494 t495 t496) else ((num_Trim.f kj23 t524).bind fun t526 => (florinlaw02_DecAdds.j2 kj23 t523 t524 (t526.toList == ([] : List UInt8)) t486 t487 t488 t490 t491 t492 t494 t495 t496))))) = some r := H
        have A94 := Aside0.mk A940
        clear A940
        replace H := Option.bind_eq_some_iff.mp H
        obtain ⟨t524, A950, H⟩ := H
        replace H : ((num_Trim.f kj23 t523).bind fun t525 => (if t525.toList = ([] : List UInt8) then (florinlaw02_DecAdds.j2 kj23 t523 t524 true t486 t487 t488 t490 t491 t492 t494 t495 t496) else ((num_Trim.f kj23 t524).bind fun t526 => (florinlaw02_DecAdds.j2 kj23 t523 t524 (t526.toList == ([] : List UInt8)) t486 t487 t488 t490 t491 t492 t494 t495 t496)))) = some r := H
        have A95 := Aside0.mk A950
        clear A950
        have HC96 := Aside0.mk H
        clear H
        have hnb97 := NB489_481.out
        have hnc97 := NB481_489.out
        have hnb98 := NB489_482.out
        have hnc98 := NB482_489.out
        have hnb99 := NB489_493.out
        have hnc99 := NB493_489.out
        have hnb100 := NB489_497.out
        have hnc100 := NB497_489.out
        have hcz101_0 : wc.cell? ⟨gb489, 0, none⟩ = some (.bool t486) := (blk_cell BK489.out 0).trans rfl
        have hcz101_1 : wc.cell? ⟨gb489, 1, none⟩ = some (.string t487) := (blk_cell BK489.out 1).trans rfl
        have hcz101_2 : wc.cell? ⟨gb489, 2, none⟩ = some (.int .i64 t488) := (blk_cell BK489.out 2).trans rfl
        have hfz101_0 := blk_frozen BK489.out 0
        have hfz101_1 := blk_frozen BK489.out 1
        have hfz101_2 := blk_frozen BK489.out 2
        go_upto_region 12 with (first | ((with_reducible refine gate_callee (f := 31) rfl ?_); refine goesL_ (some 67) rfl rfl Tryd.func31 (by kernel_rfl) rfl #[.agg #[.bool t486, .string t487, .int .i64 t488], .int .i64 60] rfl (by (try simp only [List.map_toArray, List.map_cons, List.map_nil]); first | done | rfl | (simp only [List.length_drop, List.length_take]; rfl) | (have z_ : ∀ s_ : ByteArray, s_.size ≤ 9223372036854775807 → -(s_.size : Int) = wrap64 (-(s_.size : Int)) := (fun s_ h_ => by unfold wrap64; omega); rw [← z_ _ (by omega)]; rfl)) ?_; (with_reducible refine (florinlaw02_Places.calls kj23 t486 t487 t488 60 t523 _ A94.out).mono ?_); rintro e w102 ⟨rfl, hb⟩; refine ⟨_, rfl, ?_⟩; have n0_ := bb_ BK481 hb; have n1_ := bb_ BK482 hb; have n2_ := bb_ BK489 hb; have n3_ := bb_ BK493 hb; have n4_ := bb_ BK497 hb; have n5_ := Aside0.mk (below_step (bl_ HB).out hb); clear BK481; clear BK482; clear BK489; clear BK493; clear BK497; clear HB; have BK481 := n0_; have BK482 := n1_; have BK489 := n2_; have BK493 := n3_; have BK497 := n4_; have HB := n5_; clear n0_ n1_ n2_ n3_ n4_ n5_; (try clear hb); (try clear hb2); (try clear hk); (try clear hi); have hnb103 := NB493_481.out; have hnc103 := NB481_493.out; have hnb104 := NB493_482.out; have hnc104 := NB482_493.out; have hnb105 := NB493_497.out; have hnc105 := NB497_493.out; have hcz106_0 : w102.cell? ⟨gb493, 0, none⟩ = some (.bool t490) := (blk_cell BK493.out 0).trans rfl; have hcz106_1 : w102.cell? ⟨gb493, 1, none⟩ = some (.string t491) := (blk_cell BK493.out 1).trans rfl; have hcz106_2 : w102.cell? ⟨gb493, 2, none⟩ = some (.int .i64 t492) := (blk_cell BK493.out 2).trans rfl; have hfz106_0 := blk_frozen BK493.out 0; have hfz106_1 := blk_frozen BK493.out 1; have hfz106_2 := blk_frozen BK493.out 2) | ((with_reducible refine gate_callee (f := 31) rfl ?_); refine goesL_ (some 69) rfl rfl Tryd.func31 (by kernel_rfl) rfl #[.agg #[.bool t490, .string t491, .int .i64 t492], .int .i64 60] rfl (by (try simp only [List.map_toArray, List.map_cons, List.map_nil]); first | done | rfl | (simp only [List.length_drop, List.length_take]; rfl) | (have z_ : ∀ s_ : ByteArray, s_.size ≤ 9223372036854775807 → -(s_.size : Int) = wrap64 (-(s_.size : Int)) := (fun s_ h_ => by unfold wrap64; omega); rw [← z_ _ (by omega)]; rfl)) ?_; (with_reducible refine (florinlaw02_Places.calls kj23 t490 t491 t492 60 t524 _ A95.out).mono ?_); rintro e w107 ⟨rfl, hb⟩; refine ⟨_, rfl, ?_⟩; have n0_ := bb_ BK481 hb; have n1_ := bb_ BK482 hb; have n2_ := bb_ BK489 hb; have n3_ := bb_ BK493 hb; have n4_ := bb_ BK497 hb; have n5_ := Aside0.mk (below_step (bl_ HB).out hb); clear BK481; clear BK482; clear BK489; clear BK493; clear BK497; clear HB; have BK481 := n0_; have BK482 := n1_; have BK489 := n2_; have BK493 := n3_; have BK497 := n4_; have HB := n5_; clear n0_ n1_ n2_ n3_ n4_ n5_; (try clear hb); (try clear hb2); (try clear hk); (try clear hi)))
        (try simp only [Act.put, List.setIfInBounds_toArray, List.set_cons_zero, List.set_cons_succ])
        go_cut [77] (fun v77 wc => ∃ (kq : Nat) (x77_95 : Bool), v77 = .bool x77_95 ∧ Aside0 (florinlaw02_DecAdds.j2 kq t523 t524 x77_95 t486 t487 t488 t490 t491 t492 t494 t495 t496 = some r) ∧ Aside0 (kq ≤ kj23) ∧ Aside0 (wc.heap[gb481]? = some (.cells #[.bool a0_0, (.slice A0_1 l0_1.length c0_1), .int .i64 a0_2] 33 (0, 0))) ∧ Aside0 (wc.heap[gb482]? = some (.cells #[.bool a1_0, (.slice A1_1 l1_1.length c1_1), .int .i64 a1_2] 33 (0, 0))) ∧ Aside0 (wc.heap[gb489]? = some (.cells #[.bool t486, .string t487, .int .i64 t488] 24 (0, 0))) ∧ Aside0 (wc.heap[gb493]? = some (.cells #[.bool t490, .string t491, .int .i64 t492] 24 (0, 0))) ∧ Aside0 (wc.heap[gb497]? = some (.cells #[.bool t494, .string t495, .int .i64 t496] 24 (0, 0))) ∧ Aside0 (Below w.heap.size w wc))
        case first =>
         have H := HC96.out
         clear HC96
         replace H := Option.bind_eq_some_iff.mp H
         obtain ⟨t525, A1080, H⟩ := H
         replace H : (if t525.toList = ([] : List UInt8) then (florinlaw02_DecAdds.j2 kj23 t523 t524 true t486 t487 t488 t490 t491 t492 t494 t495 t496) else ((num_Trim.f kj23 t524).bind fun t526 => (florinlaw02_DecAdds.j2 kj23 t523 t524 (t526.toList == ([] : List UInt8)) t486 t487 t488 t490 t491 t492 t494 t495 t496))) = some r := H
         have A108 := Aside0.mk A1080
         clear A1080
         by_cases c109 : t525.toList = ([] : List UInt8)
         ·rw [if_pos c109] at H
          have c109b0 : (t525.toList == ([] : List UInt8)) = true := beq_iff_eq.mpr c109
          have c109b1 : (t525.toList != ([] : List UInt8)) = false := bne_eq_false_iff_eq.mpr c109
          have c109b2 : (t525.toList.isEmpty) = true := by rw [c109]; rfl
          clear c109
          (first | rw [c109b0] | (simp only [i64_w, i32_w]; rw [c109b0]) | rw [c109b2] | skip)
          have H' := Aside0.mk H
          clear H
          go_wp2_with (first | ((with_reducible refine gate_callee (f := 21) rfl ?_); refine goesL_ (some 71) rfl rfl Tryd.func21 (by kernel_rfl) rfl #[.string t523] rfl (by (try simp only [List.map_toArray, List.map_cons, List.map_nil]); first | done | rfl | (simp only [List.length_drop, List.length_take]; rfl) | (have z_ : ∀ s_ : ByteArray, s_.size ≤ 9223372036854775807 → -(s_.size : Int) = wrap64 (-(s_.size : Int)) := (fun s_ h_ => by unfold wrap64; omega); rw [← z_ _ (by omega)]; rfl)) ?_; (with_reducible refine (num_Trim.calls kj23 t523 t525 _ A108.out).mono ?_); rintro e w' ⟨rfl, ⟨nd, rfl⟩⟩; refine ⟨_, rfl, ?_⟩))
          go_meet
          case rel => exact ⟨_, (true), eq_, H', ⟨by have := HJ4.out; have := HJ23.out; first | omega | exact Nat.le_refl _⟩, (bk_ BK481), (bk_ BK482), (bk_ BK489), (bk_ BK493), (bk_ BK497), (bl_ HB)⟩
         ·rw [if_neg c109] at H
          have c109b0 : (t525.toList == ([] : List UInt8)) = false := beq_eq_false_iff_ne.mpr c109
          have c109b1 : (t525.toList != ([] : List UInt8)) = true := bne_iff_ne.mpr c109
          have c109b2 : (t525.toList.isEmpty) = false := by rw [given_isEmpty, bne_iff_ne.mpr c109]; rfl
          (first | rw [c109b0] | (simp only [i64_w, i32_w]; rw [c109b0]) | rw [c109b2] | skip)
          replace H := Option.bind_eq_some_iff.mp H
          obtain ⟨t526, A1100, H⟩ := H
          replace H : (florinlaw02_DecAdds.j2 kj23 t523 t524 (t526.toList == ([] : List UInt8)) t486 t487 t488 t490 t491 t492 t494 t495 t496) = some r := H
          have A110 := Aside0.mk A1100
          clear A1100
          have H' := Aside0.mk H
          clear H
          go_wp2_with (first | ((with_reducible refine gate_callee (f := 21) rfl ?_); refine goesL_ (some 71) rfl rfl Tryd.func21 (by kernel_rfl) rfl #[.string t523] rfl (by (try simp only [List.map_toArray, List.map_cons, List.map_nil]); first | done | rfl | (simp only [List.length_drop, List.length_take]; rfl) | (have z_ : ∀ s_ : ByteArray, s_.size ≤ 9223372036854775807 → -(s_.size : Int) = wrap64 (-(s_.size : Int)) := (fun s_ h_ => by unfold wrap64; omega); rw [← z_ _ (by omega)]; rfl)) ?_; (with_reducible refine (num_Trim.calls kj23 t523 t525 _ A108.out).mono ?_); rintro e w' ⟨rfl, ⟨nd, rfl⟩⟩; refine ⟨_, rfl, ?_⟩) | (go_at_call 21; (with_reducible refine (num_Trim.calls kj23 t524 t526 _ A110.out).mono ?_); rintro e w' ⟨rfl, ⟨nd, rfl⟩⟩))
          go_meet
          case rel => exact ⟨_, ((t526.toList == ([] : List UInt8))), eq_, H', ⟨by have := HJ4.out; have := HJ23.out; first | omega | exact Nat.le_refl _⟩, (bk_ BK481), (bk_ BK482), (bk_ BK489), (bk_ BK493), (bk_ BK497), (bl_ HB)⟩
        case rest =>
         clear HC96
         try clear c1
         try clear c2
         try clear p2
         try clear c3
         try clear c4
         try clear p6
         try clear c9
         try clear c10
         try clear c14
         try clear c19
         try clear c21
         try clear c31
         try clear c32
         try clear c33
         try clear c34
         try clear c48
         try clear p64
         try clear c93
         try clear c97
         try clear c98
         try clear c99
         try clear c100
         try clear c103
         try clear c104
         try clear c105
         try clear c109
         try clear c109b0
         try clear c109b1
         try clear c109b2
         try clear hcz101_0
         try clear hcz101_1
         try clear hcz101_2
         try clear hcz106_0
         try clear hcz106_1
         try clear hcz106_2
         try clear hfz101_0
         try clear hfz101_1
         try clear hfz101_2
         try clear hfz106_0
         try clear hfz106_1
         try clear hfz106_2
         try clear p2
         try clear p6
         try clear p64
         obtain ⟨kq, x77_95, rfl, HA, HJ95, BK481, BK482, BK489, BK493, BK497, HB⟩ := hcut
         cases kq with
         | zero => exact absurd HA.out (by simp [florinlaw02_DecAdds.j2])
         | succ kj95 =>
          have H := HA.out
          clear HA
          simp only [florinlaw02_DecAdds.j2] at H
          by_cases c111 : x77_95 = true
          ·subst c111
           have H1 : (some true) = some r := by rw [if_pos rfl] at H; exact H
           clear H
           have H := H1
           clear H1
           obtain rfl := Option.some.inj H
           go_wp2
           go_ret
           exact ⟨by first | rfl | (simp [errW_none, errW_some] <;> rfl) | (simp [*, errW_none, errW_some] <;> first | rfl | exact given_isEmpty _ | exact (given_isEmpty _).symm), by repeat (first | (with_reducible first | exact HB.out | apply below_alloc | apply pw_below_drewN | apply below_drew1 | refine below_set ?_ GE481.out | refine below_set ?_ GE482.out | refine below_set ?_ GE489.out | refine below_set ?_ GE493.out | refine below_set ?_ GE497.out) | exact HB.out)⟩
          ·replace c111 := Bool.eq_false_iff.mpr c111
           subst c111
           have H1 : (if (t486 == t490) = true then ((florinlaw02_Places.f kj95 t494 t495 t496 60).bind fun t527 => ((num_Add.f kj95 t523 t524).bind fun t528 => ((num_Cmp.f kj95 t527 t528).bind fun t529 => (if t529 = 0 then (some (t494 == t486)) else (some false))))) else ((num_Cmp.f kj95 t523 t524).bind fun t530 => (if t530 = 0 then (some (!t494 && (t495.toList == ([] : List UInt8) && (t496 == 0)))) else ((num_Sub.f kj95 t523 t524).bind fun bt531 => (if bt531.2 = true then (if (t494 == t486) = true then ((florinlaw02_Places.f kj95 t494 t495 t496 60).bind fun t533 => ((num_Cmp.f kj95 t533 bt531.1).bind fun t534 => (some (t534 == 0)))) else (some false)) else ((num_Sub.f kj95 t524 t523).bind fun bt535 => (if (t494 == t490) = true then ((florinlaw02_Places.f kj95 t494 t495 t496 60).bind fun t537 => ((num_Cmp.f kj95 t537 bt535.1).bind fun t538 => (some (t538 == 0)))) else (some false)))))))) = some r := by rw [if_neg (show ¬ (false = true) by decide)] at H; exact H
           clear H
           have H := H1
           clear H1
           by_cases c112 : (t486 == t490) = true
           ·rw [if_pos c112] at H
            have c112b0 : (t486 == t490) = true := c112
            (try (have c112b1 : decide (t486 = t490) = true := by simpa using c112))
            (try (have c112b2 : (t486 == t490) = true := by simpa using c112))
            clear c112
            replace H := Option.bind_eq_some_iff.mp H
            obtain ⟨t527, A1130, H⟩ := H
            replace H : ((num_Add.f kj95 t523 t524).bind fun t528 => ((num_Cmp.f kj95 t527 t528).bind fun t529 => (if t529 = 0 then (some (t494 == t486)) else (some false)))) = some r := H
            have A113 := Aside0.mk A1130
            clear A1130
            replace H := Option.bind_eq_some_iff.mp H
            obtain ⟨t528, A1140, H⟩ := H
            replace H : ((num_Cmp.f kj95 t527 t528).bind fun t529 => (if t529 = 0 then (some (t494 == t486)) else (some false))) = some r := H
            have A114 := Aside0.mk A1140
            clear A1140
            replace H := Option.bind_eq_some_iff.mp H
            obtain ⟨t529, A1150, H⟩ := H
            replace H : (if t529 = 0 then (some (t494 == t486)) else (some false)) = some r := H
            have A115 := Aside0.mk A1150
            clear A1150
            by_cases c116 : t529 = 0
            ·rw [if_pos c116] at H
             have c116b0 : (t529 == 0) = true := beq_iff_eq.mpr c116
             have c116b1 : (t529 != 0) = false := bne_eq_false_iff_eq.mpr c116
             clear c116
             obtain rfl := Option.some.inj H
             have hnb117 := NB489_481.out
             have hnc117 := NB481_489.out
             have hnb118 := NB489_482.out
             have hnc118 := NB482_489.out
             have hnb119 := NB489_493.out
             have hnc119 := NB493_489.out
             have hnb120 := NB489_497.out
             have hnc120 := NB497_489.out
             have hcz121_0 : wc.cell? ⟨gb489, 0, none⟩ = some (.bool t486) := (blk_cell BK489.out 0).trans rfl
             have hcz121_1 : wc.cell? ⟨gb489, 1, none⟩ = some (.string t487) := (blk_cell BK489.out 1).trans rfl
             have hcz121_2 : wc.cell? ⟨gb489, 2, none⟩ = some (.int .i64 t488) := (blk_cell BK489.out 2).trans rfl
             have hfz121_0 := blk_frozen BK489.out 0
             have hfz121_1 := blk_frozen BK489.out 1
             have hfz121_2 := blk_frozen BK489.out 2
             have hnb122 := NB493_481.out
             have hnc122 := NB481_493.out
             have hnb123 := NB493_482.out
             have hnc123 := NB482_493.out
             have hnb124 := NB493_497.out
             have hnc124 := NB497_493.out
             have hcz125_0 : wc.cell? ⟨gb493, 0, none⟩ = some (.bool t490) := (blk_cell BK493.out 0).trans rfl
             have hcz125_1 : wc.cell? ⟨gb493, 1, none⟩ = some (.string t491) := (blk_cell BK493.out 1).trans rfl
             have hcz125_2 : wc.cell? ⟨gb493, 2, none⟩ = some (.int .i64 t492) := (blk_cell BK493.out 2).trans rfl
             have hfz125_0 := blk_frozen BK493.out 0
             have hfz125_1 := blk_frozen BK493.out 1
             have hfz125_2 := blk_frozen BK493.out 2
             have hnb126 := NB497_481.out
             have hnc126 := NB481_497.out
             have hnb127 := NB497_482.out
             have hnc127 := NB482_497.out
             have hcz128_0 : wc.cell? ⟨gb497, 0, none⟩ = some (.bool t494) := (blk_cell BK497.out 0).trans rfl
             have hcz128_1 : wc.cell? ⟨gb497, 1, none⟩ = some (.string t495) := (blk_cell BK497.out 1).trans rfl
             have hcz128_2 : wc.cell? ⟨gb497, 2, none⟩ = some (.int .i64 t496) := (blk_cell BK497.out 2).trans rfl
             have hfz128_0 := blk_frozen BK497.out 0
             have hfz128_1 := blk_frozen BK497.out 1
             have hfz128_2 := blk_frozen BK497.out 2
             go_wp2_with (first | ((with_reducible refine gate_callee (f := 31) rfl ?_); refine goesL_ (some 84) rfl rfl Tryd.func31 (by kernel_rfl) rfl #[.agg #[.bool t494, .string t495, .int .i64 t496], .int .i64 60] rfl (by (try simp only [List.map_toArray, List.map_cons, List.map_nil]); first | done | rfl | (simp only [List.length_drop, List.length_take]; rfl) | (have z_ : ∀ s_ : ByteArray, s_.size ≤ 9223372036854775807 → -(s_.size : Int) = wrap64 (-(s_.size : Int)) := (fun s_ h_ => by unfold wrap64; omega); rw [← z_ _ (by omega)]; rfl)) ?_; (with_reducible refine (florinlaw02_Places.calls kj95 t494 t495 t496 60 t527 _ A113.out).mono ?_); rintro e w129 ⟨rfl, hb⟩; refine ⟨_, rfl, ?_⟩; have n0_ := bb_ BK481 hb; have n1_ := bb_ BK482 hb; have n2_ := bb_ BK489 hb; have n3_ := bb_ BK493 hb; have n4_ := bb_ BK497 hb; have n5_ := Aside0.mk (below_step (bl_ HB).out hb); clear BK481; clear BK482; clear BK489; clear BK493; clear BK497; clear HB; have BK481 := n0_; have BK482 := n1_; have BK489 := n2_; have BK493 := n3_; have BK497 := n4_; have HB := n5_; clear n0_ n1_ n2_ n3_ n4_ n5_; (try clear hb); (try clear hb2); (try clear hk); (try clear hi)) | ((with_reducible refine gate_callee (f := 35) rfl ?_); refine goesL_ (some 87) rfl rfl Tryd.func35 (by kernel_rfl) rfl #[.string t523, .string t524] rfl (by (try simp only [List.map_toArray, List.map_cons, List.map_nil]); first | done | rfl | (simp only [List.length_drop, List.length_take]; rfl) | (have z_ : ∀ s_ : ByteArray, s_.size ≤ 9223372036854775807 → -(s_.size : Int) = wrap64 (-(s_.size : Int)) := (fun s_ h_ => by unfold wrap64; omega); rw [← z_ _ (by omega)]; rfl)) ?_; (with_reducible refine (num_Add.calls kj95 t523 t524 t528 _ A114.out).mono ?_); rintro e w130 ⟨rfl, hb⟩; refine ⟨_, rfl, ?_⟩; have n0_ := bb_ BK481 hb; have n1_ := bb_ BK482 hb; have n2_ := bb_ BK489 hb; have n3_ := bb_ BK493 hb; have n4_ := bb_ BK497 hb; have n5_ := Aside0.mk (below_step (bl_ HB).out hb); clear BK481; clear BK482; clear BK489; clear BK493; clear BK497; clear HB; have BK481 := n0_; have BK482 := n1_; have BK489 := n2_; have BK493 := n3_; have BK497 := n4_; have HB := n5_; clear n0_ n1_ n2_ n3_ n4_ n5_; (try clear hb); (try clear hb2); (try clear hk); (try clear hi)) | ((with_reducible refine gate_callee (f := 30) rfl ?_); refine goesL_ (some 88) rfl rfl Tryd.func30 (by kernel_rfl) rfl #[.string t527, .string t528] rfl (by (try simp only [List.map_toArray, List.map_cons, List.map_nil]); first | done | rfl | (simp only [List.length_drop, List.length_take]; rfl) | (have z_ : ∀ s_ : ByteArray, s_.size ≤ 9223372036854775807 → -(s_.size : Int) = wrap64 (-(s_.size : Int)) := (fun s_ h_ => by unfold wrap64; omega); rw [← z_ _ (by omega)]; rfl)) ?_; (with_reducible refine (num_Cmp.calls kj95 t527 t528 t529 _ A115.out).mono ?_); rintro e w131 ⟨rfl, hb⟩; refine ⟨_, rfl, ?_⟩; have n0_ := bb_ BK481 hb; have n1_ := bb_ BK482 hb; have n2_ := bb_ BK489 hb; have n3_ := bb_ BK493 hb; have n4_ := bb_ BK497 hb; have n5_ := Aside0.mk (below_step (bl_ HB).out hb); clear BK481; clear BK482; clear BK489; clear BK493; clear BK497; clear HB; have BK481 := n0_; have BK482 := n1_; have BK489 := n2_; have BK493 := n3_; have BK497 := n4_; have HB := n5_; clear n0_ n1_ n2_ n3_ n4_ n5_; (try clear hb); (try clear hb2); (try clear hk); (try clear hi); have hcz132_0 : w131.cell? ⟨gb497, 0, none⟩ = some (.bool t494) := (blk_cell BK497.out 0).trans rfl; have hcz132_1 : w131.cell? ⟨gb497, 1, none⟩ = some (.string t495) := (blk_cell BK497.out 1).trans rfl; have hcz132_2 : w131.cell? ⟨gb497, 2, none⟩ = some (.int .i64 t496) := (blk_cell BK497.out 2).trans rfl; have hfz132_0 := blk_frozen BK497.out 0; have hfz132_1 := blk_frozen BK497.out 1; have hfz132_2 := blk_frozen BK497.out 2; have hcz133_0 : w131.cell? ⟨gb489, 0, none⟩ = some (.bool t486) := (blk_cell BK489.out 0).trans rfl; have hcz133_1 : w131.cell? ⟨gb489, 1, none⟩ = some (.string t487) := (blk_cell BK489.out 1).trans rfl; have hcz133_2 : w131.cell? ⟨gb489, 2, none⟩ = some (.int .i64 t488) := (blk_cell BK489.out 2).trans rfl; have hfz133_0 := blk_frozen BK489.out 0; have hfz133_1 := blk_frozen BK489.out 1; have hfz133_2 := blk_frozen BK489.out 2))
             go_ret
             exact ⟨by first | rfl | (simp [errW_none, errW_some] <;> rfl) | (simp [*, errW_none, errW_some] <;> first | rfl | exact given_isEmpty _ | exact (given_isEmpty _).symm), by repeat (first | (with_reducible first | exact HB.out | apply below_alloc | apply pw_below_drewN | apply below_drew1 | refine below_set ?_ GE481.out | refine below_set ?_ GE482.out | refine below_set ?_ GE489.out | refine below_set ?_ GE493.out | refine below_set ?_ GE497.out) | exact HB.out)⟩
            ·rw [if_neg c116] at H
             have c116b0 : (t529 == 0) = false := beq_eq_false_iff_ne.mpr c116
             have c116b1 : (t529 != 0) = true := bne_iff_ne.mpr c116
             obtain rfl := Option.some.inj H
             have hnb134 := NB489_481.out
             have hnc134 := NB481_489.out
             have hnb135 := NB489_482.out
             have hnc135 := NB482_489.out
             have hnb136 := NB489_493.out
             have hnc136 := NB493_489.out
             have hnb137 := NB489_497.out
             have hnc137 := NB497_489.out
             have hcz138_0 : wc.cell? ⟨gb489, 0, none⟩ = some (.bool t486) := (blk_cell BK489.out 0).trans rfl
             have hcz138_1 : wc.cell? ⟨gb489, 1, none⟩ = some (.string t487) := (blk_cell BK489.out 1).trans rfl
             have hcz138_2 : wc.cell? ⟨gb489, 2, none⟩ = some (.int .i64 t488) := (blk_cell BK489.out 2).trans rfl
             have hfz138_0 := blk_frozen BK489.out 0
             have hfz138_1 := blk_frozen BK489.out 1
             have hfz138_2 := blk_frozen BK489.out 2
             have hnb139 := NB493_481.out
             have hnc139 := NB481_493.out
             have hnb140 := NB493_482.out
             have hnc140 := NB482_493.out
             have hnb141 := NB493_497.out
             have hnc141 := NB497_493.out
             have hcz142_0 : wc.cell? ⟨gb493, 0, none⟩ = some (.bool t490) := (blk_cell BK493.out 0).trans rfl
             have hcz142_1 : wc.cell? ⟨gb493, 1, none⟩ = some (.string t491) := (blk_cell BK493.out 1).trans rfl
             have hcz142_2 : wc.cell? ⟨gb493, 2, none⟩ = some (.int .i64 t492) := (blk_cell BK493.out 2).trans rfl
             have hfz142_0 := blk_frozen BK493.out 0
             have hfz142_1 := blk_frozen BK493.out 1
             have hfz142_2 := blk_frozen BK493.out 2
             have hnb143 := NB497_481.out
             have hnc143 := NB481_497.out
             have hnb144 := NB497_482.out
             have hnc144 := NB482_497.out
             have hcz145_0 : wc.cell? ⟨gb497, 0, none⟩ = some (.bool t494) := (blk_cell BK497.out 0).trans rfl
             have hcz145_1 : wc.cell? ⟨gb497, 1, none⟩ = some (.string t495) := (blk_cell BK497.out 1).trans rfl
             have hcz145_2 : wc.cell? ⟨gb497, 2, none⟩ = some (.int .i64 t496) := (blk_cell BK497.out 2).trans rfl
             have hfz145_0 := blk_frozen BK497.out 0
             have hfz145_1 := blk_frozen BK497.out 1
             have hfz145_2 := blk_frozen BK497.out 2
             go_wp2_with (first | ((with_reducible refine gate_callee (f := 31) rfl ?_); refine goesL_ (some 84) rfl rfl Tryd.func31 (by kernel_rfl) rfl #[.agg #[.bool t494, .string t495, .int .i64 t496], .int .i64 60] rfl (by (try simp only [List.map_toArray, List.map_cons, List.map_nil]); first | done | rfl | (simp only [List.length_drop, List.length_take]; rfl) | (have z_ : ∀ s_ : ByteArray, s_.size ≤ 9223372036854775807 → -(s_.size : Int) = wrap64 (-(s_.size : Int)) := (fun s_ h_ => by unfold wrap64; omega); rw [← z_ _ (by omega)]; rfl)) ?_; (with_reducible refine (florinlaw02_Places.calls kj95 t494 t495 t496 60 t527 _ A113.out).mono ?_); rintro e w146 ⟨rfl, hb⟩; refine ⟨_, rfl, ?_⟩; have n0_ := bb_ BK481 hb; have n1_ := bb_ BK482 hb; have n2_ := bb_ BK489 hb; have n3_ := bb_ BK493 hb; have n4_ := bb_ BK497 hb; have n5_ := Aside0.mk (below_step (bl_ HB).out hb); clear BK481; clear BK482; clear BK489; clear BK493; clear BK497; clear HB; have BK481 := n0_; have BK482 := n1_; have BK489 := n2_; have BK493 := n3_; have BK497 := n4_; have HB := n5_; clear n0_ n1_ n2_ n3_ n4_ n5_; (try clear hb); (try clear hb2); (try clear hk); (try clear hi)) | ((with_reducible refine gate_callee (f := 35) rfl ?_); refine goesL_ (some 87) rfl rfl Tryd.func35 (by kernel_rfl) rfl #[.string t523, .string t524] rfl (by (try simp only [List.map_toArray, List.map_cons, List.map_nil]); first | done | rfl | (simp only [List.length_drop, List.length_take]; rfl) | (have z_ : ∀ s_ : ByteArray, s_.size ≤ 9223372036854775807 → -(s_.size : Int) = wrap64 (-(s_.size : Int)) := (fun s_ h_ => by unfold wrap64; omega); rw [← z_ _ (by omega)]; rfl)) ?_; (with_reducible refine (num_Add.calls kj95 t523 t524 t528 _ A114.out).mono ?_); rintro e w147 ⟨rfl, hb⟩; refine ⟨_, rfl, ?_⟩; have n0_ := bb_ BK481 hb; have n1_ := bb_ BK482 hb; have n2_ := bb_ BK489 hb; have n3_ := bb_ BK493 hb; have n4_ := bb_ BK497 hb; have n5_ := Aside0.mk (below_step (bl_ HB).out hb); clear BK481; clear BK482; clear BK489; clear BK493; clear BK497; clear HB; have BK481 := n0_; have BK482 := n1_; have BK489 := n2_; have BK493 := n3_; have BK497 := n4_; have HB := n5_; clear n0_ n1_ n2_ n3_ n4_ n5_; (try clear hb); (try clear hb2); (try clear hk); (try clear hi)) | ((with_reducible refine gate_callee (f := 30) rfl ?_); refine goesL_ (some 88) rfl rfl Tryd.func30 (by kernel_rfl) rfl #[.string t527, .string t528] rfl (by (try simp only [List.map_toArray, List.map_cons, List.map_nil]); first | done | rfl | (simp only [List.length_drop, List.length_take]; rfl) | (have z_ : ∀ s_ : ByteArray, s_.size ≤ 9223372036854775807 → -(s_.size : Int) = wrap64 (-(s_.size : Int)) := (fun s_ h_ => by unfold wrap64; omega); rw [← z_ _ (by omega)]; rfl)) ?_; (with_reducible refine (num_Cmp.calls kj95 t527 t528 t529 _ A115.out).mono ?_); rintro e w148 ⟨rfl, hb⟩; refine ⟨_, rfl, ?_⟩; have n0_ := bb_ BK481 hb; have n1_ := bb_ BK482 hb; have n2_ := bb_ BK489 hb; have n3_ := bb_ BK493 hb; have n4_ := bb_ BK497 hb; have n5_ := Aside0.mk (below_step (bl_ HB).out hb); clear BK481; clear BK482; clear BK489; clear BK493; clear BK497; clear HB; have BK481 := n0_; have BK482 := n1_; have BK489 := n2_; have BK493 := n3_; have BK497 := n4_; have HB := n5_; clear n0_ n1_ n2_ n3_ n4_ n5_; (try clear hb); (try clear hb2); (try clear hk); (try clear hi)))
             go_ret
             exact ⟨by first | rfl | (simp [errW_none, errW_some] <;> rfl) | (simp [*, errW_none, errW_some] <;> first | rfl | exact given_isEmpty _ | exact (given_isEmpty _).symm), by repeat (first | (with_reducible first | exact HB.out | apply below_alloc | apply pw_below_drewN | apply below_drew1 | refine below_set ?_ GE481.out | refine below_set ?_ GE482.out | refine below_set ?_ GE489.out | refine below_set ?_ GE493.out | refine below_set ?_ GE497.out) | exact HB.out)⟩
           ·rw [if_neg c112] at H
            have c112b0 : (t486 == t490) = false := by simpa using c112
            (try (have c112b1 : decide (t486 = t490) = false := by simpa using c112))
            (try (have c112b2 : (t486 == t490) = false := by simpa using c112))
            (try (have c112b3 : ¬ (t486 = t490) := by simpa using c112))
            clear c112
            replace H := Option.bind_eq_some_iff.mp H
            obtain ⟨t530, A1490, H⟩ := H
            replace H : (if t530 = 0 then (some (!t494 && (t495.toList == ([] : List UInt8) && (t496 == 0)))) else ((num_Sub.f kj95 t523 t524).bind fun bt531 => (if bt531.2 = true then (if (t494 == t486) = true then ((florinlaw02_Places.f kj95 t494 t495 t496 60).bind fun t533 => ((num_Cmp.f kj95 t533 bt531.1).bind fun t534 => (some (t534 == 0)))) else (some false)) else ((num_Sub.f kj95 t524 t523).bind fun bt535 => (if (t494 == t490) = true then ((florinlaw02_Places.f kj95 t494 t495 t496 60).bind fun t537 => ((num_Cmp.f kj95 t537 bt535.1).bind fun t538 => (some (t538 == 0)))) else (some false)))))) = some r := H
            have A149 := Aside0.mk A1490
            clear A1490
            by_cases c150 : t530 = 0
            ·rw [if_pos c150] at H
             have c150b0 : (t530 == 0) = true := beq_iff_eq.mpr c150
             have c150b1 : (t530 != 0) = false := bne_eq_false_iff_eq.mpr c150
             clear c150
             obtain rfl := Option.some.inj H
             have hnb151 := NB489_481.out
             have hnc151 := NB481_489.out
             have hnb152 := NB489_482.out
             have hnc152 := NB482_489.out
             have hnb153 := NB489_493.out
             have hnc153 := NB493_489.out
             have hnb154 := NB489_497.out
             have hnc154 := NB497_489.out
             have hcz155_0 : wc.cell? ⟨gb489, 0, none⟩ = some (.bool t486) := (blk_cell BK489.out 0).trans rfl
             have hcz155_1 : wc.cell? ⟨gb489, 1, none⟩ = some (.string t487) := (blk_cell BK489.out 1).trans rfl
             have hcz155_2 : wc.cell? ⟨gb489, 2, none⟩ = some (.int .i64 t488) := (blk_cell BK489.out 2).trans rfl
             have hfz155_0 := blk_frozen BK489.out 0
             have hfz155_1 := blk_frozen BK489.out 1
             have hfz155_2 := blk_frozen BK489.out 2
             have hnb156 := NB493_481.out
             have hnc156 := NB481_493.out
             have hnb157 := NB493_482.out
             have hnc157 := NB482_493.out
             have hnb158 := NB493_497.out
             have hnc158 := NB497_493.out
             have hcz159_0 : wc.cell? ⟨gb493, 0, none⟩ = some (.bool t490) := (blk_cell BK493.out 0).trans rfl
             have hcz159_1 : wc.cell? ⟨gb493, 1, none⟩ = some (.string t491) := (blk_cell BK493.out 1).trans rfl
             have hcz159_2 : wc.cell? ⟨gb493, 2, none⟩ = some (.int .i64 t492) := (blk_cell BK493.out 2).trans rfl
             have hfz159_0 := blk_frozen BK493.out 0
             have hfz159_1 := blk_frozen BK493.out 1
             have hfz159_2 := blk_frozen BK493.out 2
             go_wp2_with (first | ((with_reducible refine gate_callee (f := 30) rfl ?_); refine goesL_ (some 99) rfl rfl Tryd.func30 (by kernel_rfl) rfl #[.string t523, .string t524] rfl (by (try simp only [List.map_toArray, List.map_cons, List.map_nil]); first | done | rfl | (simp only [List.length_drop, List.length_take]; rfl) | (have z_ : ∀ s_ : ByteArray, s_.size ≤ 9223372036854775807 → -(s_.size : Int) = wrap64 (-(s_.size : Int)) := (fun s_ h_ => by unfold wrap64; omega); rw [← z_ _ (by omega)]; rfl)) ?_; (with_reducible refine (num_Cmp.calls kj95 t523 t524 t530 _ A149.out).mono ?_); rintro e w160 ⟨rfl, hb⟩; refine ⟨_, rfl, ?_⟩; have n0_ := bb_ BK481 hb; have n1_ := bb_ BK482 hb; have n2_ := bb_ BK489 hb; have n3_ := bb_ BK493 hb; have n4_ := bb_ BK497 hb; have n5_ := Aside0.mk (below_step (bl_ HB).out hb); clear BK481; clear BK482; clear BK489; clear BK493; clear BK497; clear HB; have BK481 := n0_; have BK482 := n1_; have BK489 := n2_; have BK493 := n3_; have BK497 := n4_; have HB := n5_; clear n0_ n1_ n2_ n3_ n4_ n5_; (try clear hb); (try clear hb2); (try clear hk); (try clear hi); have hnb161 := NB497_481.out; have hnc161 := NB481_497.out; have hnb162 := NB497_482.out; have hnc162 := NB482_497.out; have hcz163_0 : w160.cell? ⟨gb497, 0, none⟩ = some (.bool t494) := (blk_cell BK497.out 0).trans rfl; have hcz163_1 : w160.cell? ⟨gb497, 1, none⟩ = some (.string t495) := (blk_cell BK497.out 1).trans rfl; have hcz163_2 : w160.cell? ⟨gb497, 2, none⟩ = some (.int .i64 t496) := (blk_cell BK497.out 2).trans rfl; have hfz163_0 := blk_frozen BK497.out 0; have hfz163_1 := blk_frozen BK497.out 1; have hfz163_2 := blk_frozen BK497.out 2))
             go_ret
             exact ⟨by first | rfl | (simp [errW_none, errW_some] <;> rfl) | (simp [*, errW_none, errW_some] <;> first | rfl | exact given_isEmpty _ | exact (given_isEmpty _).symm), by repeat (first | (with_reducible first | exact HB.out | apply below_alloc | apply pw_below_drewN | apply below_drew1 | refine below_set ?_ GE481.out | refine below_set ?_ GE482.out | refine below_set ?_ GE489.out | refine below_set ?_ GE493.out | refine below_set ?_ GE497.out) | exact HB.out)⟩
            ·rw [if_neg c150] at H
             have c150b0 : (t530 == 0) = false := beq_eq_false_iff_ne.mpr c150
             have c150b1 : (t530 != 0) = true := bne_iff_ne.mpr c150
             replace H := Option.bind_eq_some_iff.mp H
             obtain ⟨⟨t531, t532⟩, A1640, H⟩ := H
             replace H : (if t532 = true then (if (t494 == t486) = true then ((florinlaw02_Places.f kj95 t494 t495 t496 60).bind fun t533 => ((num_Cmp.f kj95 t533 t531).bind fun t534 => (some (t534 == 0)))) else (some false)) else ((num_Sub.f kj95 t524 t523).bind fun bt535 => (if (t494 == t490) = true then ((florinlaw02_Places.f kj95 t494 t495 t496 60).bind fun t537 => ((num_Cmp.f kj95 t537 bt535.1).bind fun t538 => (some (t538 == 0)))) else (some false)))) = some r := H
             have A164 := Aside0.mk A1640
             clear A1640
             by_cases c165 : t532 = true
             ·subst c165
              have H1 : (if (t494 == t486) = true then ((florinlaw02_Places.f kj95 t494 t495 t496 60).bind fun t533 => ((num_Cmp.f kj95 t533 t531).bind fun t534 => (some (t534 == 0)))) else (some false)) = some r := by rw [if_pos rfl] at H; exact H
              clear H
              have H := H1
              clear H1
              by_cases c166 : (t494 == t486) = true
              ·rw [if_pos c166] at H
               have c166b0 : (t494 == t486) = true := c166
               (try (have c166b1 : decide (t494 = t486) = true := by simpa using c166))
               (try (have c166b2 : (t494 == t486) = true := by simpa using c166))
               clear c166
               replace H := Option.bind_eq_some_iff.mp H
               obtain ⟨t533, A1670, H⟩ := H
               replace H : ((num_Cmp.f kj95 t533 t531).bind fun t534 => (some (t534 == 0))) = some r := H
               have A167 := Aside0.mk A1670
               clear A1670
               replace H := Option.bind_eq_some_iff.mp H
               obtain ⟨t534, A1680, H⟩ := H
               replace H : (some (t534 == 0)) = some r := H
               have A168 := Aside0.mk A1680
               clear A1680
               obtain rfl := Option.some.inj H
               have hnb169 := NB489_481.out
               have hnc169 := NB481_489.out
               have hnb170 := NB489_482.out
               have hnc170 := NB482_489.out
               have hnb171 := NB489_493.out
               have hnc171 := NB493_489.out
               have hnb172 := NB489_497.out
               have hnc172 := NB497_489.out
               have hcz173_0 : wc.cell? ⟨gb489, 0, none⟩ = some (.bool t486) := (blk_cell BK489.out 0).trans rfl
               have hcz173_1 : wc.cell? ⟨gb489, 1, none⟩ = some (.string t487) := (blk_cell BK489.out 1).trans rfl
               have hcz173_2 : wc.cell? ⟨gb489, 2, none⟩ = some (.int .i64 t488) := (blk_cell BK489.out 2).trans rfl
               have hfz173_0 := blk_frozen BK489.out 0
               have hfz173_1 := blk_frozen BK489.out 1
               have hfz173_2 := blk_frozen BK489.out 2
               have hnb174 := NB493_481.out
               have hnc174 := NB481_493.out
               have hnb175 := NB493_482.out
               have hnc175 := NB482_493.out
               have hnb176 := NB493_497.out
               have hnc176 := NB497_493.out
               have hcz177_0 : wc.cell? ⟨gb493, 0, none⟩ = some (.bool t490) := (blk_cell BK493.out 0).trans rfl
               have hcz177_1 : wc.cell? ⟨gb493, 1, none⟩ = some (.string t491) := (blk_cell BK493.out 1).trans rfl
               have hcz177_2 : wc.cell? ⟨gb493, 2, none⟩ = some (.int .i64 t492) := (blk_cell BK493.out 2).trans rfl
               have hfz177_0 := blk_frozen BK493.out 0
               have hfz177_1 := blk_frozen BK493.out 1
               have hfz177_2 := blk_frozen BK493.out 2
               go_wp2_with (first | ((with_reducible refine gate_callee (f := 30) rfl ?_); refine goesL_ (some 99) rfl rfl Tryd.func30 (by kernel_rfl) rfl #[.string t523, .string t524] rfl (by (try simp only [List.map_toArray, List.map_cons, List.map_nil]); first | done | rfl | (simp only [List.length_drop, List.length_take]; rfl) | (have z_ : ∀ s_ : ByteArray, s_.size ≤ 9223372036854775807 → -(s_.size : Int) = wrap64 (-(s_.size : Int)) := (fun s_ h_ => by unfold wrap64; omega); rw [← z_ _ (by omega)]; rfl)) ?_; (with_reducible refine (num_Cmp.calls kj95 t523 t524 t530 _ A149.out).mono ?_); rintro e w178 ⟨rfl, hb⟩; refine ⟨_, rfl, ?_⟩; have n0_ := bb_ BK481 hb; have n1_ := bb_ BK482 hb; have n2_ := bb_ BK489 hb; have n3_ := bb_ BK493 hb; have n4_ := bb_ BK497 hb; have n5_ := Aside0.mk (below_step (bl_ HB).out hb); clear BK481; clear BK482; clear BK489; clear BK493; clear BK497; clear HB; have BK481 := n0_; have BK482 := n1_; have BK489 := n2_; have BK493 := n3_; have BK497 := n4_; have HB := n5_; clear n0_ n1_ n2_ n3_ n4_ n5_; (try clear hb); (try clear hb2); (try clear hk); (try clear hi); have hcz179_0 : w178.cell? ⟨gb489, 0, none⟩ = some (.bool t486) := (blk_cell BK489.out 0).trans rfl; have hcz179_1 : w178.cell? ⟨gb489, 1, none⟩ = some (.string t487) := (blk_cell BK489.out 1).trans rfl; have hcz179_2 : w178.cell? ⟨gb489, 2, none⟩ = some (.int .i64 t488) := (blk_cell BK489.out 2).trans rfl; have hfz179_0 := blk_frozen BK489.out 0; have hfz179_1 := blk_frozen BK489.out 1; have hfz179_2 := blk_frozen BK489.out 2) | ((with_reducible refine gate_callee (f := 36) rfl ?_); refine goesL_ (some 109) rfl rfl Tryd.func36 (by kernel_rfl) rfl #[.string t523, .string t524] rfl (by (try simp only [List.map_toArray, List.map_cons, List.map_nil]); first | done | rfl | (simp only [List.length_drop, List.length_take]; rfl) | (have z_ : ∀ s_ : ByteArray, s_.size ≤ 9223372036854775807 → -(s_.size : Int) = wrap64 (-(s_.size : Int)) := (fun s_ h_ => by unfold wrap64; omega); rw [← z_ _ (by omega)]; rfl)) ?_; (with_reducible refine (num_Sub.calls kj95 t523 t524 t531 true _ A164.out).mono ?_); rintro e w180 ⟨rfl, hb⟩; refine ⟨_, rfl, ?_⟩; have n0_ := bb_ BK481 hb; have n1_ := bb_ BK482 hb; have n2_ := bb_ BK489 hb; have n3_ := bb_ BK493 hb; have n4_ := bb_ BK497 hb; have n5_ := Aside0.mk (below_step (bl_ HB).out hb); clear BK481; clear BK482; clear BK489; clear BK493; clear BK497; clear HB; have BK481 := n0_; have BK482 := n1_; have BK489 := n2_; have BK493 := n3_; have BK497 := n4_; have HB := n5_; clear n0_ n1_ n2_ n3_ n4_ n5_; (try clear hb); (try clear hb2); (try clear hk); (try clear hi); have hnb181 := NB497_481.out; have hnc181 := NB481_497.out; have hnb182 := NB497_482.out; have hnc182 := NB482_497.out; have hcz183_0 : w180.cell? ⟨gb497, 0, none⟩ = some (.bool t494) := (blk_cell BK497.out 0).trans rfl; have hcz183_1 : w180.cell? ⟨gb497, 1, none⟩ = some (.string t495) := (blk_cell BK497.out 1).trans rfl; have hcz183_2 : w180.cell? ⟨gb497, 2, none⟩ = some (.int .i64 t496) := (blk_cell BK497.out 2).trans rfl; have hfz183_0 := blk_frozen BK497.out 0; have hfz183_1 := blk_frozen BK497.out 1; have hfz183_2 := blk_frozen BK497.out 2) | (go_at_call 31; (with_reducible refine (florinlaw02_Places.calls kj95 t494 t495 t496 60 t533 _ A167.out).mono ?_); rintro e w184 ⟨rfl, hb⟩; have n0_ := bb_ BK481 hb; have n1_ := bb_ BK482 hb; have n2_ := bb_ BK489 hb; have n3_ := bb_ BK493 hb; have n4_ := bb_ BK497 hb; have n5_ := Aside0.mk (below_step (bl_ HB).out hb); clear BK481; clear BK482; clear BK489; clear BK493; clear BK497; clear HB; have BK481 := n0_; have BK482 := n1_; have BK489 := n2_; have BK493 := n3_; have BK497 := n4_; have HB := n5_; clear n0_ n1_ n2_ n3_ n4_ n5_; (try clear hb); (try clear hb2); (try clear hk); (try clear hi)) | (go_at_call 30; (with_reducible refine (num_Cmp.calls kj95 t533 t531 t534 _ A168.out).mono ?_); rintro e w185 ⟨rfl, hb⟩; have n0_ := bb_ BK481 hb; have n1_ := bb_ BK482 hb; have n2_ := bb_ BK489 hb; have n3_ := bb_ BK493 hb; have n4_ := bb_ BK497 hb; have n5_ := Aside0.mk (below_step (bl_ HB).out hb); clear BK481; clear BK482; clear BK489; clear BK493; clear BK497; clear HB; have BK481 := n0_; have BK482 := n1_; have BK489 := n2_; have BK493 := n3_; have BK497 := n4_; have HB := n5_; clear n0_ n1_ n2_ n3_ n4_ n5_; (try clear hb); (try clear hb2); (try clear hk); (try clear hi)))
               go_ret
               exact ⟨by first | rfl | (simp [errW_none, errW_some] <;> rfl) | (simp [*, errW_none, errW_some] <;> first | rfl | exact given_isEmpty _ | exact (given_isEmpty _).symm), by repeat (first | (with_reducible first | exact HB.out | apply below_alloc | apply pw_below_drewN | apply below_drew1 | refine below_set ?_ GE481.out | refine below_set ?_ GE482.out | refine below_set ?_ GE489.out | refine below_set ?_ GE493.out | refine below_set ?_ GE497.out) | exact HB.out)⟩
              ·rw [if_neg c166] at H
               have c166b0 : (t494 == t486) = false := by simpa using c166
               (try (have c166b1 : decide (t494 = t486) = false := by simpa using c166))
               (try (have c166b2 : (t494 == t486) = false := by simpa using c166))
               (try (have c166b3 : ¬ (t494 = t486) := by simpa using c166))
               clear c166
               obtain rfl := Option.some.inj H
               have hnb186 := NB489_481.out
               have hnc186 := NB481_489.out
               have hnb187 := NB489_482.out
               have hnc187 := NB482_489.out
               have hnb188 := NB489_493.out
               have hnc188 := NB493_489.out
               have hnb189 := NB489_497.out
               have hnc189 := NB497_489.out
               have hcz190_0 : wc.cell? ⟨gb489, 0, none⟩ = some (.bool t486) := (blk_cell BK489.out 0).trans rfl
               have hcz190_1 : wc.cell? ⟨gb489, 1, none⟩ = some (.string t487) := (blk_cell BK489.out 1).trans rfl
               have hcz190_2 : wc.cell? ⟨gb489, 2, none⟩ = some (.int .i64 t488) := (blk_cell BK489.out 2).trans rfl
               have hfz190_0 := blk_frozen BK489.out 0
               have hfz190_1 := blk_frozen BK489.out 1
               have hfz190_2 := blk_frozen BK489.out 2
               have hnb191 := NB493_481.out
               have hnc191 := NB481_493.out
               have hnb192 := NB493_482.out
               have hnc192 := NB482_493.out
               have hnb193 := NB493_497.out
               have hnc193 := NB497_493.out
               have hcz194_0 : wc.cell? ⟨gb493, 0, none⟩ = some (.bool t490) := (blk_cell BK493.out 0).trans rfl
               have hcz194_1 : wc.cell? ⟨gb493, 1, none⟩ = some (.string t491) := (blk_cell BK493.out 1).trans rfl
               have hcz194_2 : wc.cell? ⟨gb493, 2, none⟩ = some (.int .i64 t492) := (blk_cell BK493.out 2).trans rfl
               have hfz194_0 := blk_frozen BK493.out 0
               have hfz194_1 := blk_frozen BK493.out 1
               have hfz194_2 := blk_frozen BK493.out 2
               go_wp2_with (first | ((with_reducible refine gate_callee (f := 30) rfl ?_); refine goesL_ (some 99) rfl rfl Tryd.func30 (by kernel_rfl) rfl #[.string t523, .string t524] rfl (by (try simp only [List.map_toArray, List.map_cons, List.map_nil]); first | done | rfl | (simp only [List.length_drop, List.length_take]; rfl) | (have z_ : ∀ s_ : ByteArray, s_.size ≤ 9223372036854775807 → -(s_.size : Int) = wrap64 (-(s_.size : Int)) := (fun s_ h_ => by unfold wrap64; omega); rw [← z_ _ (by omega)]; rfl)) ?_; (with_reducible refine (num_Cmp.calls kj95 t523 t524 t530 _ A149.out).mono ?_); rintro e w195 ⟨rfl, hb⟩; refine ⟨_, rfl, ?_⟩; have n0_ := bb_ BK481 hb; have n1_ := bb_ BK482 hb; have n2_ := bb_ BK489 hb; have n3_ := bb_ BK493 hb; have n4_ := bb_ BK497 hb; have n5_ := Aside0.mk (below_step (bl_ HB).out hb); clear BK481; clear BK482; clear BK489; clear BK493; clear BK497; clear HB; have BK481 := n0_; have BK482 := n1_; have BK489 := n2_; have BK493 := n3_; have BK497 := n4_; have HB := n5_; clear n0_ n1_ n2_ n3_ n4_ n5_; (try clear hb); (try clear hb2); (try clear hk); (try clear hi); have hcz196_0 : w195.cell? ⟨gb489, 0, none⟩ = some (.bool t486) := (blk_cell BK489.out 0).trans rfl; have hcz196_1 : w195.cell? ⟨gb489, 1, none⟩ = some (.string t487) := (blk_cell BK489.out 1).trans rfl; have hcz196_2 : w195.cell? ⟨gb489, 2, none⟩ = some (.int .i64 t488) := (blk_cell BK489.out 2).trans rfl; have hfz196_0 := blk_frozen BK489.out 0; have hfz196_1 := blk_frozen BK489.out 1; have hfz196_2 := blk_frozen BK489.out 2) | ((with_reducible refine gate_callee (f := 36) rfl ?_); refine goesL_ (some 109) rfl rfl Tryd.func36 (by kernel_rfl) rfl #[.string t523, .string t524] rfl (by (try simp only [List.map_toArray, List.map_cons, List.map_nil]); first | done | rfl | (simp only [List.length_drop, List.length_take]; rfl) | (have z_ : ∀ s_ : ByteArray, s_.size ≤ 9223372036854775807 → -(s_.size : Int) = wrap64 (-(s_.size : Int)) := (fun s_ h_ => by unfold wrap64; omega); rw [← z_ _ (by omega)]; rfl)) ?_; (with_reducible refine (num_Sub.calls kj95 t523 t524 t531 true _ A164.out).mono ?_); rintro e w197 ⟨rfl, hb⟩; refine ⟨_, rfl, ?_⟩; have n0_ := bb_ BK481 hb; have n1_ := bb_ BK482 hb; have n2_ := bb_ BK489 hb; have n3_ := bb_ BK493 hb; have n4_ := bb_ BK497 hb; have n5_ := Aside0.mk (below_step (bl_ HB).out hb); clear BK481; clear BK482; clear BK489; clear BK493; clear BK497; clear HB; have BK481 := n0_; have BK482 := n1_; have BK489 := n2_; have BK493 := n3_; have BK497 := n4_; have HB := n5_; clear n0_ n1_ n2_ n3_ n4_ n5_; (try clear hb); (try clear hb2); (try clear hk); (try clear hi); have hnb198 := NB497_481.out; have hnc198 := NB481_497.out; have hnb199 := NB497_482.out; have hnc199 := NB482_497.out; have hcz200_0 : w197.cell? ⟨gb497, 0, none⟩ = some (.bool t494) := (blk_cell BK497.out 0).trans rfl; have hcz200_1 : w197.cell? ⟨gb497, 1, none⟩ = some (.string t495) := (blk_cell BK497.out 1).trans rfl; have hcz200_2 : w197.cell? ⟨gb497, 2, none⟩ = some (.int .i64 t496) := (blk_cell BK497.out 2).trans rfl; have hfz200_0 := blk_frozen BK497.out 0; have hfz200_1 := blk_frozen BK497.out 1; have hfz200_2 := blk_frozen BK497.out 2))
               go_ret
               exact ⟨by first | rfl | (simp [errW_none, errW_some] <;> rfl) | (simp [*, errW_none, errW_some] <;> first | rfl | exact given_isEmpty _ | exact (given_isEmpty _).symm), by repeat (first | (with_reducible first | exact HB.out | apply below_alloc | apply pw_below_drewN | apply below_drew1 | refine below_set ?_ GE481.out | refine below_set ?_ GE482.out | refine below_set ?_ GE489.out | refine below_set ?_ GE493.out | refine below_set ?_ GE497.out) | exact HB.out)⟩
             ·replace c165 := Bool.eq_false_iff.mpr c165
              subst c165
              have H1 : ((num_Sub.f kj95 t524 t523).bind fun bt535 => (if (t494 == t490) = true then ((florinlaw02_Places.f kj95 t494 t495 t496 60).bind fun t537 => ((num_Cmp.f kj95 t537 bt535.1).bind fun t538 => (some (t538 == 0)))) else (some false))) = some r := by rw [if_neg (show ¬ (false = true) by decide)] at H; exact H
              clear H
              have H := H1
              clear H1
              replace H := Option.bind_eq_some_iff.mp H
              obtain ⟨⟨t535, t536⟩, A2010, H⟩ := H
              replace H : (if (t494 == t490) = true then ((florinlaw02_Places.f kj95 t494 t495 t496 60).bind fun t537 => ((num_Cmp.f kj95 t537 t535).bind fun t538 => (some (t538 == 0)))) else (some false)) = some r := H
              have A201 := Aside0.mk A2010
              clear A2010
              by_cases c202 : (t494 == t490) = true
              ·rw [if_pos c202] at H
               have c202b0 : (t494 == t490) = true := c202
               (try (have c202b1 : decide (t494 = t490) = true := by simpa using c202))
               (try (have c202b2 : (t494 == t490) = true := by simpa using c202))
               clear c202
               replace H := Option.bind_eq_some_iff.mp H
               obtain ⟨t537, A2030, H⟩ := H
               replace H : ((num_Cmp.f kj95 t537 t535).bind fun t538 => (some (t538 == 0))) = some r := H
               have A203 := Aside0.mk A2030
               clear A2030
               replace H := Option.bind_eq_some_iff.mp H
               obtain ⟨t538, A2040, H⟩ := H
               replace H : (some (t538 == 0)) = some r := H
               have A204 := Aside0.mk A2040
               clear A2040
               obtain rfl := Option.some.inj H
               have hnb205 := NB489_481.out
               have hnc205 := NB481_489.out
               have hnb206 := NB489_482.out
               have hnc206 := NB482_489.out
               have hnb207 := NB489_493.out
               have hnc207 := NB493_489.out
               have hnb208 := NB489_497.out
               have hnc208 := NB497_489.out
               have hcz209_0 : wc.cell? ⟨gb489, 0, none⟩ = some (.bool t486) := (blk_cell BK489.out 0).trans rfl
               have hcz209_1 : wc.cell? ⟨gb489, 1, none⟩ = some (.string t487) := (blk_cell BK489.out 1).trans rfl
               have hcz209_2 : wc.cell? ⟨gb489, 2, none⟩ = some (.int .i64 t488) := (blk_cell BK489.out 2).trans rfl
               have hfz209_0 := blk_frozen BK489.out 0
               have hfz209_1 := blk_frozen BK489.out 1
               have hfz209_2 := blk_frozen BK489.out 2
               have hnb210 := NB493_481.out
               have hnc210 := NB481_493.out
               have hnb211 := NB493_482.out
               have hnc211 := NB482_493.out
               have hnb212 := NB493_497.out
               have hnc212 := NB497_493.out
               have hcz213_0 : wc.cell? ⟨gb493, 0, none⟩ = some (.bool t490) := (blk_cell BK493.out 0).trans rfl
               have hcz213_1 : wc.cell? ⟨gb493, 1, none⟩ = some (.string t491) := (blk_cell BK493.out 1).trans rfl
               have hcz213_2 : wc.cell? ⟨gb493, 2, none⟩ = some (.int .i64 t492) := (blk_cell BK493.out 2).trans rfl
               have hfz213_0 := blk_frozen BK493.out 0
               have hfz213_1 := blk_frozen BK493.out 1
               have hfz213_2 := blk_frozen BK493.out 2
               go_wp2_with (first | ((with_reducible refine gate_callee (f := 30) rfl ?_); refine goesL_ (some 99) rfl rfl Tryd.func30 (by kernel_rfl) rfl #[.string t523, .string t524] rfl (by (try simp only [List.map_toArray, List.map_cons, List.map_nil]); first | done | rfl | (simp only [List.length_drop, List.length_take]; rfl) | (have z_ : ∀ s_ : ByteArray, s_.size ≤ 9223372036854775807 → -(s_.size : Int) = wrap64 (-(s_.size : Int)) := (fun s_ h_ => by unfold wrap64; omega); rw [← z_ _ (by omega)]; rfl)) ?_; (with_reducible refine (num_Cmp.calls kj95 t523 t524 t530 _ A149.out).mono ?_); rintro e w214 ⟨rfl, hb⟩; refine ⟨_, rfl, ?_⟩; have n0_ := bb_ BK481 hb; have n1_ := bb_ BK482 hb; have n2_ := bb_ BK489 hb; have n3_ := bb_ BK493 hb; have n4_ := bb_ BK497 hb; have n5_ := Aside0.mk (below_step (bl_ HB).out hb); clear BK481; clear BK482; clear BK489; clear BK493; clear BK497; clear HB; have BK481 := n0_; have BK482 := n1_; have BK489 := n2_; have BK493 := n3_; have BK497 := n4_; have HB := n5_; clear n0_ n1_ n2_ n3_ n4_ n5_; (try clear hb); (try clear hb2); (try clear hk); (try clear hi); have hcz215_0 : w214.cell? ⟨gb489, 0, none⟩ = some (.bool t486) := (blk_cell BK489.out 0).trans rfl; have hcz215_1 : w214.cell? ⟨gb489, 1, none⟩ = some (.string t487) := (blk_cell BK489.out 1).trans rfl; have hcz215_2 : w214.cell? ⟨gb489, 2, none⟩ = some (.int .i64 t488) := (blk_cell BK489.out 2).trans rfl; have hfz215_0 := blk_frozen BK489.out 0; have hfz215_1 := blk_frozen BK489.out 1; have hfz215_2 := blk_frozen BK489.out 2) | ((with_reducible refine gate_callee (f := 36) rfl ?_); refine goesL_ (some 109) rfl rfl Tryd.func36 (by kernel_rfl) rfl #[.string t523, .string t524] rfl (by (try simp only [List.map_toArray, List.map_cons, List.map_nil]); first | done | rfl | (simp only [List.length_drop, List.length_take]; rfl) | (have z_ : ∀ s_ : ByteArray, s_.size ≤ 9223372036854775807 → -(s_.size : Int) = wrap64 (-(s_.size : Int)) := (fun s_ h_ => by unfold wrap64; omega); rw [← z_ _ (by omega)]; rfl)) ?_; (with_reducible refine (num_Sub.calls kj95 t523 t524 t531 false _ A164.out).mono ?_); rintro e w216 ⟨rfl, hb⟩; refine ⟨_, rfl, ?_⟩; have n0_ := bb_ BK481 hb; have n1_ := bb_ BK482 hb; have n2_ := bb_ BK489 hb; have n3_ := bb_ BK493 hb; have n4_ := bb_ BK497 hb; have n5_ := Aside0.mk (below_step (bl_ HB).out hb); clear BK481; clear BK482; clear BK489; clear BK493; clear BK497; clear HB; have BK481 := n0_; have BK482 := n1_; have BK489 := n2_; have BK493 := n3_; have BK497 := n4_; have HB := n5_; clear n0_ n1_ n2_ n3_ n4_ n5_; (try clear hb); (try clear hb2); (try clear hk); (try clear hi); have hcz217_0 : w216.cell? ⟨gb493, 0, none⟩ = some (.bool t490) := (blk_cell BK493.out 0).trans rfl; have hcz217_1 : w216.cell? ⟨gb493, 1, none⟩ = some (.string t491) := (blk_cell BK493.out 1).trans rfl; have hcz217_2 : w216.cell? ⟨gb493, 2, none⟩ = some (.int .i64 t492) := (blk_cell BK493.out 2).trans rfl; have hfz217_0 := blk_frozen BK493.out 0; have hfz217_1 := blk_frozen BK493.out 1; have hfz217_2 := blk_frozen BK493.out 2) | ((with_reducible refine gate_callee (f := 36) rfl ?_); refine goesL_ (some 119) rfl rfl Tryd.func36 (by kernel_rfl) rfl #[.string t524, .string t523] rfl (by (try simp only [List.map_toArray, List.map_cons, List.map_nil]); first | done | rfl | (simp only [List.length_drop, List.length_take]; rfl) | (have z_ : ∀ s_ : ByteArray, s_.size ≤ 9223372036854775807 → -(s_.size : Int) = wrap64 (-(s_.size : Int)) := (fun s_ h_ => by unfold wrap64; omega); rw [← z_ _ (by omega)]; rfl)) ?_; (with_reducible refine (num_Sub.calls kj95 t524 t523 t535 t536 _ A201.out).mono ?_); rintro e w218 ⟨rfl, hb⟩; refine ⟨_, rfl, ?_⟩; have n0_ := bb_ BK481 hb; have n1_ := bb_ BK482 hb; have n2_ := bb_ BK489 hb; have n3_ := bb_ BK493 hb; have n4_ := bb_ BK497 hb; have n5_ := Aside0.mk (below_step (bl_ HB).out hb); clear BK481; clear BK482; clear BK489; clear BK493; clear BK497; clear HB; have BK481 := n0_; have BK482 := n1_; have BK489 := n2_; have BK493 := n3_; have BK497 := n4_; have HB := n5_; clear n0_ n1_ n2_ n3_ n4_ n5_; (try clear hb); (try clear hb2); (try clear hk); (try clear hi); have hnb219 := NB497_481.out; have hnc219 := NB481_497.out; have hnb220 := NB497_482.out; have hnc220 := NB482_497.out; have hcz221_0 : w218.cell? ⟨gb497, 0, none⟩ = some (.bool t494) := (blk_cell BK497.out 0).trans rfl; have hcz221_1 : w218.cell? ⟨gb497, 1, none⟩ = some (.string t495) := (blk_cell BK497.out 1).trans rfl; have hcz221_2 : w218.cell? ⟨gb497, 2, none⟩ = some (.int .i64 t496) := (blk_cell BK497.out 2).trans rfl; have hfz221_0 := blk_frozen BK497.out 0; have hfz221_1 := blk_frozen BK497.out 1; have hfz221_2 := blk_frozen BK497.out 2) | (go_at_call 31; (with_reducible refine (florinlaw02_Places.calls kj95 t494 t495 t496 60 t537 _ A203.out).mono ?_); rintro e w222 ⟨rfl, hb⟩; have n0_ := bb_ BK481 hb; have n1_ := bb_ BK482 hb; have n2_ := bb_ BK489 hb; have n3_ := bb_ BK493 hb; have n4_ := bb_ BK497 hb; have n5_ := Aside0.mk (below_step (bl_ HB).out hb); clear BK481; clear BK482; clear BK489; clear BK493; clear BK497; clear HB; have BK481 := n0_; have BK482 := n1_; have BK489 := n2_; have BK493 := n3_; have BK497 := n4_; have HB := n5_; clear n0_ n1_ n2_ n3_ n4_ n5_; (try clear hb); (try clear hb2); (try clear hk); (try clear hi)) | (go_at_call 30; (with_reducible refine (num_Cmp.calls kj95 t537 t535 t538 _ A204.out).mono ?_); rintro e w223 ⟨rfl, hb⟩; have n0_ := bb_ BK481 hb; have n1_ := bb_ BK482 hb; have n2_ := bb_ BK489 hb; have n3_ := bb_ BK493 hb; have n4_ := bb_ BK497 hb; have n5_ := Aside0.mk (below_step (bl_ HB).out hb); clear BK481; clear BK482; clear BK489; clear BK493; clear BK497; clear HB; have BK481 := n0_; have BK482 := n1_; have BK489 := n2_; have BK493 := n3_; have BK497 := n4_; have HB := n5_; clear n0_ n1_ n2_ n3_ n4_ n5_; (try clear hb); (try clear hb2); (try clear hk); (try clear hi)))
               go_ret
               exact ⟨by first | rfl | (simp [errW_none, errW_some] <;> rfl) | (simp [*, errW_none, errW_some] <;> first | rfl | exact given_isEmpty _ | exact (given_isEmpty _).symm), by repeat (first | (with_reducible first | exact HB.out | apply below_alloc | apply pw_below_drewN | apply below_drew1 | refine below_set ?_ GE481.out | refine below_set ?_ GE482.out | refine below_set ?_ GE489.out | refine below_set ?_ GE493.out | refine below_set ?_ GE497.out) | exact HB.out)⟩
              ·rw [if_neg c202] at H
               have c202b0 : (t494 == t490) = false := by simpa using c202
               (try (have c202b1 : decide (t494 = t490) = false := by simpa using c202))
               (try (have c202b2 : (t494 == t490) = false := by simpa using c202))
               (try (have c202b3 : ¬ (t494 = t490) := by simpa using c202))
               clear c202
               obtain rfl := Option.some.inj H
               have hnb224 := NB489_481.out
               have hnc224 := NB481_489.out
               have hnb225 := NB489_482.out
               have hnc225 := NB482_489.out
               have hnb226 := NB489_493.out
               have hnc226 := NB493_489.out
               have hnb227 := NB489_497.out
               have hnc227 := NB497_489.out
               have hcz228_0 : wc.cell? ⟨gb489, 0, none⟩ = some (.bool t486) := (blk_cell BK489.out 0).trans rfl
               have hcz228_1 : wc.cell? ⟨gb489, 1, none⟩ = some (.string t487) := (blk_cell BK489.out 1).trans rfl
               have hcz228_2 : wc.cell? ⟨gb489, 2, none⟩ = some (.int .i64 t488) := (blk_cell BK489.out 2).trans rfl
               have hfz228_0 := blk_frozen BK489.out 0
               have hfz228_1 := blk_frozen BK489.out 1
               have hfz228_2 := blk_frozen BK489.out 2
               have hnb229 := NB493_481.out
               have hnc229 := NB481_493.out
               have hnb230 := NB493_482.out
               have hnc230 := NB482_493.out
               have hnb231 := NB493_497.out
               have hnc231 := NB497_493.out
               have hcz232_0 : wc.cell? ⟨gb493, 0, none⟩ = some (.bool t490) := (blk_cell BK493.out 0).trans rfl
               have hcz232_1 : wc.cell? ⟨gb493, 1, none⟩ = some (.string t491) := (blk_cell BK493.out 1).trans rfl
               have hcz232_2 : wc.cell? ⟨gb493, 2, none⟩ = some (.int .i64 t492) := (blk_cell BK493.out 2).trans rfl
               have hfz232_0 := blk_frozen BK493.out 0
               have hfz232_1 := blk_frozen BK493.out 1
               have hfz232_2 := blk_frozen BK493.out 2
               go_wp2_with (first | ((with_reducible refine gate_callee (f := 30) rfl ?_); refine goesL_ (some 99) rfl rfl Tryd.func30 (by kernel_rfl) rfl #[.string t523, .string t524] rfl (by (try simp only [List.map_toArray, List.map_cons, List.map_nil]); first | done | rfl | (simp only [List.length_drop, List.length_take]; rfl) | (have z_ : ∀ s_ : ByteArray, s_.size ≤ 9223372036854775807 → -(s_.size : Int) = wrap64 (-(s_.size : Int)) := (fun s_ h_ => by unfold wrap64; omega); rw [← z_ _ (by omega)]; rfl)) ?_; (with_reducible refine (num_Cmp.calls kj95 t523 t524 t530 _ A149.out).mono ?_); rintro e w233 ⟨rfl, hb⟩; refine ⟨_, rfl, ?_⟩; have n0_ := bb_ BK481 hb; have n1_ := bb_ BK482 hb; have n2_ := bb_ BK489 hb; have n3_ := bb_ BK493 hb; have n4_ := bb_ BK497 hb; have n5_ := Aside0.mk (below_step (bl_ HB).out hb); clear BK481; clear BK482; clear BK489; clear BK493; clear BK497; clear HB; have BK481 := n0_; have BK482 := n1_; have BK489 := n2_; have BK493 := n3_; have BK497 := n4_; have HB := n5_; clear n0_ n1_ n2_ n3_ n4_ n5_; (try clear hb); (try clear hb2); (try clear hk); (try clear hi); have hcz234_0 : w233.cell? ⟨gb489, 0, none⟩ = some (.bool t486) := (blk_cell BK489.out 0).trans rfl; have hcz234_1 : w233.cell? ⟨gb489, 1, none⟩ = some (.string t487) := (blk_cell BK489.out 1).trans rfl; have hcz234_2 : w233.cell? ⟨gb489, 2, none⟩ = some (.int .i64 t488) := (blk_cell BK489.out 2).trans rfl; have hfz234_0 := blk_frozen BK489.out 0; have hfz234_1 := blk_frozen BK489.out 1; have hfz234_2 := blk_frozen BK489.out 2) | ((with_reducible refine gate_callee (f := 36) rfl ?_); refine goesL_ (some 109) rfl rfl Tryd.func36 (by kernel_rfl) rfl #[.string t523, .string t524] rfl (by (try simp only [List.map_toArray, List.map_cons, List.map_nil]); first | done | rfl | (simp only [List.length_drop, List.length_take]; rfl) | (have z_ : ∀ s_ : ByteArray, s_.size ≤ 9223372036854775807 → -(s_.size : Int) = wrap64 (-(s_.size : Int)) := (fun s_ h_ => by unfold wrap64; omega); rw [← z_ _ (by omega)]; rfl)) ?_; (with_reducible refine (num_Sub.calls kj95 t523 t524 t531 false _ A164.out).mono ?_); rintro e w235 ⟨rfl, hb⟩; refine ⟨_, rfl, ?_⟩; have n0_ := bb_ BK481 hb; have n1_ := bb_ BK482 hb; have n2_ := bb_ BK489 hb; have n3_ := bb_ BK493 hb; have n4_ := bb_ BK497 hb; have n5_ := Aside0.mk (below_step (bl_ HB).out hb); clear BK481; clear BK482; clear BK489; clear BK493; clear BK497; clear HB; have BK481 := n0_; have BK482 := n1_; have BK489 := n2_; have BK493 := n3_; have BK497 := n4_; have HB := n5_; clear n0_ n1_ n2_ n3_ n4_ n5_; (try clear hb); (try clear hb2); (try clear hk); (try clear hi); have hcz236_0 : w235.cell? ⟨gb493, 0, none⟩ = some (.bool t490) := (blk_cell BK493.out 0).trans rfl; have hcz236_1 : w235.cell? ⟨gb493, 1, none⟩ = some (.string t491) := (blk_cell BK493.out 1).trans rfl; have hcz236_2 : w235.cell? ⟨gb493, 2, none⟩ = some (.int .i64 t492) := (blk_cell BK493.out 2).trans rfl; have hfz236_0 := blk_frozen BK493.out 0; have hfz236_1 := blk_frozen BK493.out 1; have hfz236_2 := blk_frozen BK493.out 2) | ((with_reducible refine gate_callee (f := 36) rfl ?_); refine goesL_ (some 119) rfl rfl Tryd.func36 (by kernel_rfl) rfl #[.string t524, .string t523] rfl (by (try simp only [List.map_toArray, List.map_cons, List.map_nil]); first | done | rfl | (simp only [List.length_drop, List.length_take]; rfl) | (have z_ : ∀ s_ : ByteArray, s_.size ≤ 9223372036854775807 → -(s_.size : Int) = wrap64 (-(s_.size : Int)) := (fun s_ h_ => by unfold wrap64; omega); rw [← z_ _ (by omega)]; rfl)) ?_; (with_reducible refine (num_Sub.calls kj95 t524 t523 t535 t536 _ A201.out).mono ?_); rintro e w237 ⟨rfl, hb⟩; refine ⟨_, rfl, ?_⟩; have n0_ := bb_ BK481 hb; have n1_ := bb_ BK482 hb; have n2_ := bb_ BK489 hb; have n3_ := bb_ BK493 hb; have n4_ := bb_ BK497 hb; have n5_ := Aside0.mk (below_step (bl_ HB).out hb); clear BK481; clear BK482; clear BK489; clear BK493; clear BK497; clear HB; have BK481 := n0_; have BK482 := n1_; have BK489 := n2_; have BK493 := n3_; have BK497 := n4_; have HB := n5_; clear n0_ n1_ n2_ n3_ n4_ n5_; (try clear hb); (try clear hb2); (try clear hk); (try clear hi); have hnb238 := NB497_481.out; have hnc238 := NB481_497.out; have hnb239 := NB497_482.out; have hnc239 := NB482_497.out; have hcz240_0 : w237.cell? ⟨gb497, 0, none⟩ = some (.bool t494) := (blk_cell BK497.out 0).trans rfl; have hcz240_1 : w237.cell? ⟨gb497, 1, none⟩ = some (.string t495) := (blk_cell BK497.out 1).trans rfl; have hcz240_2 : w237.cell? ⟨gb497, 2, none⟩ = some (.int .i64 t496) := (blk_cell BK497.out 2).trans rfl; have hfz240_0 := blk_frozen BK497.out 0; have hfz240_1 := blk_frozen BK497.out 1; have hfz240_2 := blk_frozen BK497.out 2))
               go_ret
               exact ⟨by first | rfl | (simp [errW_none, errW_some] <;> rfl) | (simp [*, errW_none, errW_some] <;> first | rfl | exact given_isEmpty _ | exact (given_isEmpty _).symm), by repeat (first | (with_reducible first | exact HB.out | apply below_alloc | apply pw_below_drewN | apply below_drew1 | refine below_set ?_ GE481.out | refine below_set ?_ GE482.out | refine below_set ?_ GE489.out | refine below_set ?_ GE493.out | refine below_set ?_ GE497.out) | exact HB.out)⟩
 ·replace c4 := Bool.eq_false_iff.mpr c4
  subst c4
  have H1 : (some false) = some r := by rw [if_neg (show ¬ (false = true) by decide)] at H; exact H
  clear H
  have H := H1
  clear H1
  obtain rfl := Option.some.inj H
  go_enter Tryd.func9, Tryd.ntmps9
  go_wp2_with (first | ((with_reducible refine gate_dst (N := 2) rfl ?_); refine box_event ?hg (N := 2) ?hd (cs := #[.bool a0_0, .slice A0_1 l0_1.length c0_1, .int .i64 a0_2]) (t := 33) ?hr ?_; (case hd => rfl); (case hg => rfl); (case hr => first | (go_simp; done) | (go_simp; rfl)); intro gb481 hg w241 hbox hb; have n0_ := Aside0.mk (below_step (bl_ HB).out hb); have n1_ := Aside0.mk (hbox); have n2_ := Aside0.mk ((by rw [hg]; exact (below_size (bl_ HB).out) : w.heap.size ≤ gb481)); have n3_ := Aside0.mk ((by rw [hg]; exact (below_size (bl_ HB).out) : w.heap.size ≤ gb481)); clear HB; have HB := n0_; have BK481 := n1_; have GW481 := n2_; have GE481 := n3_; clear n0_ n1_ n2_ n3_; clear hb hbox hg) | ((with_reducible refine gate_dst (N := 3) rfl ?_); refine box_event ?hg (N := 3) ?hd (cs := #[.bool a1_0, .slice A1_1 l1_1.length c1_1, .int .i64 a1_2]) (t := 33) ?hr ?_; (case hd => rfl); (case hg => rfl); (case hr => first | (go_simp; done) | (go_simp; rfl)); intro gb482 hg w242 hbox hb; have n0_ := bb_ BK481 hb; have n1_ := Aside0.mk (below_step (bl_ HB).out hb); have n2_ := Aside0.mk (hbox); have n3_ := Aside0.mk ((by rw [hg]; exact (below_size (bl_ HB).out) : w.heap.size ≤ gb482)); have n4_ := Aside0.mk ((by rw [hg]; exact (below_size (bl_ HB).out) : w.heap.size ≤ gb482)); have n5_ := Aside0.mk ((by rw [hg]; exact Nat.ne_of_lt (blk_lt (g := gb481) (o := .cells #[.bool a0_0, .slice A0_1 l0_1.length c0_1, .int .i64 a0_2] 33 (0, 0)) (by (with_reducible repeat (first | refine blk_drewN ?_ _ | refine blk_drew ?_ | refine blk_alloc ?_ _)); exact BK481.out)) : gb481 ≠ gb482)); have n6_ := Aside0.mk ((by rw [hg]; exact Nat.ne_of_gt (blk_lt (g := gb481) (o := .cells #[.bool a0_0, .slice A0_1 l0_1.length c0_1, .int .i64 a0_2] 33 (0, 0)) (by (with_reducible repeat (first | refine blk_drewN ?_ _ | refine blk_drew ?_ | refine blk_alloc ?_ _)); exact BK481.out)) : gb482 ≠ gb481)); clear BK481; clear HB; have BK481 := n0_; have HB := n1_; have BK482 := n2_; have GW482 := n3_; have GE482 := n4_; have NB481_482 := n5_; have NB482_481 := n6_; clear n0_ n1_ n2_ n3_ n4_ n5_ n6_; clear hb hbox hg) | ((with_reducible refine gate_callee (f := 11) rfl ?_); refine goesL_ (some 13) rfl rfl Tryd.func11 (by kernel_rfl) rfl #[] rfl (by (try simp only [List.map_toArray, List.map_cons, List.map_nil]); first | done | rfl | (simp only [List.length_drop, List.length_take]; rfl) | (have z_ : ∀ s_ : ByteArray, s_.size ≤ 9223372036854775807 → -(s_.size : Int) = wrap64 (-(s_.size : Int)) := (fun s_ h_ => by unfold wrap64; omega); rw [← z_ _ (by omega)]; rfl)) ?_; (with_reducible refine (florinlaw02_head.calls k  false _ A3.out).mono ?_); rintro e w243 ⟨rfl, hb⟩; refine ⟨_, rfl, ?_⟩; have n0_ := bb_ BK481 hb; have n1_ := bb_ BK482 hb; have n2_ := Aside0.mk (below_step (bl_ HB).out hb); clear BK481; clear BK482; clear HB; have BK481 := n0_; have BK482 := n1_; have HB := n2_; clear n0_ n1_ n2_; (try clear hb); (try clear hb2); (try clear hk); (try clear hi)))
  go_ret
  exact ⟨by first | rfl | (simp [errW_none, errW_some] <;> rfl) | (simp [*, errW_none, errW_some] <;> first | rfl | exact given_isEmpty _ | exact (given_isEmpty _).symm), by repeat (first | (with_reducible first | exact HB.out | apply below_alloc | apply pw_below_drewN | apply below_drew1 | refine below_set ?_ GE481.out | refine below_set ?_ GE482.out) | exact HB.out)⟩

end Go.Proofs.YtlkiaeipbekpkaaDoor.P
