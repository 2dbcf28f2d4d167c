-- written by a program of this session (wip/p2)
import Derived.Test.YthkpmiajcmihjaaDoorPx0
import Derived.Test.YthkpmiajcmihjaaDoorPx2
import Derived.Test.YthkpmiajcmihjaaDoorPx7
import Derived.Test.YthkpmiajcmihjaaDoorPx8
import Derived.Test.YthkpmiajcmihjaaDoorPx10
import Derived.Test.YthkpmiajcmihjaaDoorPx12
import Derived.Test.YthkpmiajcmihjaaDoorPx14
import Derived.Test.YthkpmiajcmihjaaDoorPx18
import Derived.Test.YthkpmiajcmihjaaDoorPx21
namespace Go.Proofs.YthkpmiajcmihjaaDoor.P
open Go.RowKit Go.Proofs.YthkpmiajcmihjaaDoorW.PrintWords Go.Proofs.YthkpmiajcmihjaaDoorW.PrintLast Go.Proofs.YthkpmiajcmihjaaDoorW.PrintMore
attribute [local go_sem] max2_int min2_int max_two min_two max_three min_three max_four min_four   -- for this text's walks alone
set_option linter.unusedVariables false
set_option linter.unusedSimpArgs false

attribute [local go_sem high] eqA35
/-! ### florinlaw04_ShowAgain: function 7 -/
mutual
def florinlaw04_ShowAgain.j0 : Nat → Bool → Bool → List Int → Int → Bool → List Int → Int → Int → Int → Int → Int → Int → Int → Int → Option (Bool)
 | 0, _, _, _, _, _, _, _, _, _, _, _, _, _, _ => none
 | k + 1, x26, x545000, x545001, x545002, x546000, x546001, x546002, x547000, x547001, x547002, x547003, x547004, x547005, x547006 => if x26 = true then (some true) else ((florinlaw04_Ask_Prec.f k x547000 x547001 x547002 x547003 x547004 x547005 x547006).bind fun bt550 => ((florinlaw02_Raw_Make.f k x545000 x545001 x545002).bind fun bt559 => ((florinlaw02_Raw_Make.f k x546000 x546001 x546002).bind fun bt563 => ((show_Prec_Apply.f k bt550.1 bt550.2.1 bt550.2.2.1 bt550.2.2.2.1 bt550.2.2.2.2.1 bt550.2.2.2.2.2.1 bt550.2.2.2.2.2.2.1 bt550.2.2.2.2.2.2.2 bt559.1 bt559.2.1 bt559.2.2).bind fun bt567 => ((show_Prec_Apply.f k bt550.1 bt550.2.1 bt550.2.2.1 bt550.2.2.2.1 bt550.2.2.2.2.1 bt550.2.2.2.2.2.1 bt550.2.2.2.2.2.2.1 bt550.2.2.2.2.2.2.2 bt563.1 bt563.2.1 bt563.2.2).bind fun bt572 => ((show_Vis_Value.f k bt567.1 bt567.2.1 bt567.2.2.1).bind fun bt577 => ((show_Prec_Apply.f k bt550.1 bt550.2.1 bt550.2.2.1 bt550.2.2.2.1 bt550.2.2.2.2.1 bt550.2.2.2.2.2.1 bt550.2.2.2.2.2.2.1 bt550.2.2.2.2.2.2.2 bt577.1 bt577.2.1 bt577.2.2).bind fun bt580 => ((dec_Cmp.f k bt559.1 bt559.2.1 bt559.2.2 bt563.1 bt563.2.1 bt563.2.2).bind fun t585 => (florinlaw04_ShowAgain.j1 k bt567.2.2.2 bt572.2.2.2 bt580.2.2.2 t585 bt567.1 bt567.2.1 bt567.2.2.1 bt572.1 bt572.2.1 bt572.2.2.1 bt580.1 bt580.2.1 bt580.2.2.1)))))))))
def florinlaw04_ShowAgain.j1 : Nat → Int → Int → Int → Int → Bool → ByteArray → ByteArray → Bool → ByteArray → ByteArray → Bool → ByteArray → ByteArray → Option (Bool)
 | 0, _, _, _, _, _, _, _, _, _, _, _, _, _ => none
 | k + 1, x11, x13, x15, x16, x572000, x572001, x572002, x577000, x577001, x577002, x585000, x585001, x585002 => if x11 = 0 then (if x13 = 0 then (if x15 = 0 then (if (x585000 == x572000 && (x585001.toList == x572001.toList && (x585002.toList == x572002.toList))) = true then (if x16 = 0 then (if (x572000 == x577000 && (x572001.toList == x577001.toList && (x572002.toList == x577002.toList))) = true then ((show_Vis_Value.f k x572000 x572001 x572002).bind fun bt586 => ((show_Vis_Value.f k x577000 x577001 x577002).bind fun bt589 => ((dec_Cmp.f k bt586.1 bt586.2.1 bt586.2.2 bt589.1 bt589.2.1 bt589.2.2).bind fun t592 => (some (decide ((wrap64 (t592 * x16)) ≥ 0)))))) else (some false)) else ((show_Vis_Value.f k x572000 x572001 x572002).bind fun bt593 => ((show_Vis_Value.f k x577000 x577001 x577002).bind fun bt596 => ((dec_Cmp.f k bt593.1 bt593.2.1 bt593.2.2 bt596.1 bt596.2.1 bt596.2.2).bind fun t599 => (some (decide ((wrap64 (t599 * x16)) ≥ 0))))))) else (some false)) else (some false)) else (some false)) else (some false)
end
def florinlaw04_ShowAgain.f (k : Nat) (a0_0 : Bool) (l0_1 : List Int) (a0_2 : Int) (a1_0 : Bool) (l1_1 : List Int) (a1_2 : Int) (a2_0 : Int) (a2_1 : Int) (a2_2 : Int) (a2_3 : Int) (a2_4 : Int) (a2_5 : Int) (a2_6 : Int) : Option (Bool) := (florinlaw04_head.f k).bind fun t547 => (if t547 = true then ((florinlaw02_Raw_Few.f a0_0 l0_1 a0_2 30).bind fun t548 => (if t548 = true then ((florinlaw02_Raw_Few.f a1_0 l1_1 a1_2 30).bind fun t549 => (florinlaw04_ShowAgain.j0 k (!t549) a0_0 l0_1 a0_2 a1_0 l1_1 a1_2 a2_0 a2_1 a2_2 a2_3 a2_4 a2_5 a2_6)) else (florinlaw04_ShowAgain.j0 k true a0_0 l0_1 a0_2 a1_0 l1_1 a1_2 a2_0 a2_1 a2_2 a2_3 a2_4 a2_5 a2_6))) else (some false))
theorem florinlaw04_ShowAgain.mono_l : ∀ k, (∀ y0 y1 y2 y3 y4 y5 y6 y7 y8 y9 y10 y11 y12 y13, LeO (florinlaw04_ShowAgain.j0 k y0 y1 y2 y3 y4 y5 y6 y7 y8 y9 y10 y11 y12 y13) (florinlaw04_ShowAgain.j0 (k + 1) y0 y1 y2 y3 y4 y5 y6 y7 y8 y9 y10 y11 y12 y13)) ∧ (∀ y0 y1 y2 y3 y4 y5 y6 y7 y8 y9 y10 y11 y12, LeO (florinlaw04_ShowAgain.j1 k y0 y1 y2 y3 y4 y5 y6 y7 y8 y9 y10 y11 y12) (florinlaw04_ShowAgain.j1 (k + 1) y0 y1 y2 y3 y4 y5 y6 y7 y8 y9 y10 y11 y12))
 | 0 => ⟨fun _ _ _ _ _ _ _ _ _ _ _ _ _ _ r h => by simp [florinlaw04_ShowAgain.j0] at h, fun _ _ _ _ _ _ _ _ _ _ _ _ _ r h => by simp [florinlaw04_ShowAgain.j1] at h⟩
 | k + 1 => by
  obtain ⟨ih0, ih1⟩ := florinlaw04_ShowAgain.mono_l k
  refine ⟨?_, ?_⟩
  ·intro y0 y1 y2 y3 y4 y5 y6 y7 y8 y9 y10 y11 y12 y13
   unfold florinlaw04_ShowAgain.j0
   repeat' first
   | (with_reducible exact ih0 _ _ _ _ _ _ _ _ _ _ _ _ _ _)
   | (with_reducible exact ih1 _ _ _ _ _ _ _ _ _ _ _ _ _)
   | (with_reducible exact dec_Cmp.mono _ _ _ _ _ _ _)
   | (with_reducible exact florinlaw02_Raw_Make.mono _ _ _ _)
   | (with_reducible exact florinlaw04_Ask_Prec.mono _ _ _ _ _ _ _ _)
   | (with_reducible exact florinlaw04_head.mono _)
   | (with_reducible exact show_Prec_Apply.mono _ _ _ _ _ _ _ _ _ _ _ _)
   | (with_reducible exact show_Vis_Value.mono _ _ _ _)
   | (with_reducible exact LeO.refl _)
   | (with_reducible exact LeO.none _)
   | (with_reducible refine LeO.ite ?_ ?_)
   | (with_reducible refine LeO.bind ?_ (fun _ => ?_))
   | exact ih0 _ _ _ _ _ _ _ _ _ _ _ _ _ _
   | exact ih1 _ _ _ _ _ _ _ _ _ _ _ _ _
   | exact dec_Cmp.mono _ _ _ _ _ _ _
   | exact florinlaw02_Raw_Make.mono _ _ _ _
   | exact florinlaw04_Ask_Prec.mono _ _ _ _ _ _ _ _
   | exact florinlaw04_head.mono _
   | exact show_Prec_Apply.mono _ _ _ _ _ _ _ _ _ _ _ _
   | exact show_Vis_Value.mono _ _ _ _
   | exact LeO.none _
   | refine LeO.ite ?_ ?_
   | refine LeO.bind ?_ (fun _ => ?_)
  ·intro y0 y1 y2 y3 y4 y5 y6 y7 y8 y9 y10 y11 y12
   unfold florinlaw04_ShowAgain.j1
   repeat' first
   | (with_reducible exact ih0 _ _ _ _ _ _ _ _ _ _ _ _ _ _)
   | (with_reducible exact ih1 _ _ _ _ _ _ _ _ _ _ _ _ _)
   | (with_reducible exact dec_Cmp.mono _ _ _ _ _ _ _)
   | (with_reducible exact florinlaw02_Raw_Make.mono _ _ _ _)
   | (with_reducible exact florinlaw04_Ask_Prec.mono _ _ _ _ _ _ _ _)
   | (with_reducible exact florinlaw04_head.mono _)
   | (with_reducible exact show_Prec_Apply.mono _ _ _ _ _ _ _ _ _ _ _ _)
   | (with_reducible exact show_Vis_Value.mono _ _ _ _)
   | (with_reducible exact LeO.refl _)
   | (with_reducible exact LeO.none _)
   | (with_reducible refine LeO.ite ?_ ?_)
   | (with_reducible refine LeO.bind ?_ (fun _ => ?_))
   | exact ih0 _ _ _ _ _ _ _ _ _ _ _ _ _ _
   | exact ih1 _ _ _ _ _ _ _ _ _ _ _ _ _
   | exact dec_Cmp.mono _ _ _ _ _ _ _
   | exact florinlaw02_Raw_Make.mono _ _ _ _
   | exact florinlaw04_Ask_Prec.mono _ _ _ _ _ _ _ _
   | exact florinlaw04_head.mono _
   | exact show_Prec_Apply.mono _ _ _ _ _ _ _ _ _ _ _ _
   | exact show_Vis_Value.mono _ _ _ _
   | exact LeO.none _
   | refine LeO.ite ?_ ?_
   | refine LeO.bind ?_ (fun _ => ?_)
theorem florinlaw04_ShowAgain.mono : ∀ a0 a1 a2 a3 a4 a5 a6 a7 a8 a9 a10 a11 a12 k, LeO (florinlaw04_ShowAgain.f k a0 a1 a2 a3 a4 a5 a6 a7 a8 a9 a10 a11 a12) (florinlaw04_ShowAgain.f (k + 1) a0 a1 a2 a3 a4 a5 a6 a7 a8 a9 a10 a11 a12) := by
 intro a0 a1 a2 a3 a4 a5 a6 a7 a8 a9 a10 a11 a12 k
 obtain ⟨ih0, ih1⟩ := florinlaw04_ShowAgain.mono_l k
 unfold florinlaw04_ShowAgain.f
 repeat' first
   | (with_reducible exact ih0 _ _ _ _ _ _ _ _ _ _ _ _ _ _)
   | (with_reducible exact ih1 _ _ _ _ _ _ _ _ _ _ _ _ _)
   | (with_reducible exact dec_Cmp.mono _ _ _ _ _ _ _)
   | (with_reducible exact florinlaw02_Raw_Make.mono _ _ _ _)
   | (with_reducible exact florinlaw04_Ask_Prec.mono _ _ _ _ _ _ _ _)
   | (with_reducible exact florinlaw04_head.mono _)
   | (with_reducible exact show_Prec_Apply.mono _ _ _ _ _ _ _ _ _ _ _ _)
   | (with_reducible exact show_Vis_Value.mono _ _ _ _)
   | (with_reducible exact LeO.refl _)
   | (with_reducible exact LeO.none _)
   | (with_reducible refine LeO.ite ?_ ?_)
   | (with_reducible refine LeO.bind ?_ (fun _ => ?_))
   | exact ih0 _ _ _ _ _ _ _ _ _ _ _ _ _ _
   | exact ih1 _ _ _ _ _ _ _ _ _ _ _ _ _
   | exact dec_Cmp.mono _ _ _ _ _ _ _
   | exact florinlaw02_Raw_Make.mono _ _ _ _
   | exact florinlaw04_Ask_Prec.mono _ _ _ _ _ _ _ _
   | exact florinlaw04_head.mono _
   | exact show_Prec_Apply.mono _ _ _ _ _ _ _ _ _ _ _ _
   | exact show_Vis_Value.mono _ _ _ _
   | exact LeO.none _
   | refine LeO.ite ?_ ?_
   | refine LeO.bind ?_ (fun _ => ?_)
def florinlaw04_ShowAgain.T10 : Bool × List (List Nat × List Nat) := (true, [([], []), ([], []), ([1], [1]), ([0, 2, 2], [0, 2]), ([3], [3]), ([4], [4]), ([4], [4]), ([], []), ([7, 5, 3, 0, 1, 2, 3, 4, 5, 7], [5, 7]), ([6, 8, 0, 1, 2, 3, 4, 5, 6, 7, 8], [6])])
def florinlaw04_ShowAgain.B10 : List Nat := [0, 0, 2, 7, 15, 31, 31, 0, 191, 511]
theorem florinlaw04_ShowAgain.tab10 : rtab .any (opsOf Tryd.f7 10) = florinlaw04_ShowAgain.T10 := by kernel_rfl
theorem florinlaw04_ShowAgain.bits10 : waitsOk florinlaw04_ShowAgain.T10.2 florinlaw04_ShowAgain.B10 = true := by kernel_rfl
def florinlaw04_ShowAgain.T12 : Bool × List (List Nat × List Nat) := (true, [([], []), ([0], [0]), ([1], [1]), ([2], [2]), ([3, 2], [2, 3]), ([2, 4], [2, 4]), ([5, 2], [5]), ([6], [6]), ([7, 6], [6, 7]), ([6, 8], [6, 8]), ([9, 6], [9]), ([10], [10]), ([10], [10]), ([11, 12, 10], [10, 11, 12]), ([10, 13], [10, 13]), ([14, 10], [14]), ([15], [15]), ([16, 15], [15, 16]), ([17, 15, 15], [15, 17]), ([18], [18]), ([18], [18]), ([19, 20, 18], [18, 19, 20]), ([18, 21, 15], [15, 18, 21]), ([15, 22], [15, 22]), ([23, 18], [23]), ([24], [24]), ([25, 24, 24], [24, 25]), ([24], [24]), ([27, 26, 24], [24, 27]), ([26, 28, 28, 24], [24, 26, 28]), ([24], [24]), ([29, 30, 24], [24, 29, 30]), ([31, 24], [24, 31]), ([24, 32], [24, 32]), ([33, 29, 0, 1, 2, 3, 4, 5, 6, 7, 8, 9, 10, 11, 12, 13, 14, 15, 16, 17, 18, 19, 20, 21, 22, 23, 24, 25, 26, 27, 28, 29, 30, 31, 32, 33], [33])])
def florinlaw04_ShowAgain.B12 : List Nat := [0, 1, 3, 7, 15, 31, 63, 127, 255, 511, 1023, 2047, 2047, 8191, 16383, 32767, 65535, 131071, 262143, 524287, 524287, 2097151, 4194303, 8388607, 16777215, 33554431, 67108863, 33554431, 268435455, 536870911, 33554431, 2147483647, 4294967295, 8589934591, 17179869183]
theorem florinlaw04_ShowAgain.tab12 : rtab .any (opsOf Tryd.f7 12) = florinlaw04_ShowAgain.T12 := by kernel_rfl
theorem florinlaw04_ShowAgain.bits12 : waitsOk florinlaw04_ShowAgain.T12.2 florinlaw04_ShowAgain.B12 = true := by kernel_rfl
set_option maxHeartbeats 8000000 in
set_option maxRecDepth 100000 in
theorem florinlaw04_ShowAgain.calls (k : Nat) (a0_0 : Bool) (A0_1 : Option Addr) (c0_1 : Nat) (l0_1 : List Int) (a0_2 : Int) (a1_0 : Bool) (A1_1 : Option Addr) (c1_1 : Nat) (l1_1 : List Int) (a1_2 : Int) (a2_0 : Int) (a2_1 : Int) (a2_2 : Int) (a2_3 : Int) (a2_4 : Int) (a2_5 : Int) (a2_6 : Int) (r : Bool) (w : World) (hr0_1 : Kd.C (Kd.int .u8) w A0_1 l0_1.length l0_1) (hc0_1 : l0_1.length ≤ c0_1) (hr1_1 : Kd.C (Kd.int .u8) w A1_1 l1_1.length l1_1) (hc1_1 : l1_1.length ≤ c1_1) (h : florinlaw04_ShowAgain.f k a0_0 l0_1 a0_2 a1_0 l1_1 a1_2 a2_0 a2_1 a2_2 a2_3 a2_4 a2_5 a2_6 = some r) :
  Calls Tryd.prog 7 #[.agg #[.bool a0_0, .slice A0_1 l0_1.length c0_1, .int .i64 a0_2], .agg #[.bool a1_0, .slice A1_1 l1_1.length c1_1, .int .i64 a1_2], .agg #[.int .i64 a2_0, .int .i64 a2_1, .int .i64 a2_2, .int .i64 a2_3, .int .i64 a2_4, .int .i64 a2_5, .int .i64 a2_6]] w fun e w' => e = .returned (.bool r) ∧ Below w.heap.size w w' := by
 have hu24 := Tryd.underlying24
 have hu42 := Tryd.underlying42
 have hu32 := Tryd.underlying32
 have hu29 := Tryd.underlying29
 have hu35 := Tryd.underlying35
 have HR0_1 := Aside0.mk hr0_1
 have HC0_1 := Aside0.mk hc0_1
 clear hr0_1 hc0_1
 have HR1_1 := Aside0.mk hr1_1
 have HC1_1 := Aside0.mk hc1_1
 clear hr1_1 hc1_1
 have HB := Aside0.mk (Below.refl w.heap.size w)
 have H : ((florinlaw04_head.f k).bind fun t547 => (if t547 = true then ((florinlaw02_Raw_Few.f a0_0 l0_1 a0_2 30).bind fun t548 => (if t548 = true then ((florinlaw02_Raw_Few.f a1_0 l1_1 a1_2 30).bind fun t549 => (florinlaw04_ShowAgain.j0 k (!t549) a0_0 l0_1 a0_2 a1_0 l1_1 a1_2 a2_0 a2_1 a2_2 a2_3 a2_4 a2_5 a2_6)) else (florinlaw04_ShowAgain.j0 k true a0_0 l0_1 a0_2 a1_0 l1_1 a1_2 a2_0 a2_1 a2_2 a2_3 a2_4 a2_5 a2_6))) else (some false))) = some r := h
 clear h
 replace H := Option.bind_eq_some_iff.mp H
 obtain ⟨t547, A40, H⟩ := H
 replace H : (if t547 = true then ((florinlaw02_Raw_Few.f a0_0 l0_1 a0_2 30).bind fun t548 => (if t548 = true then ((florinlaw02_Raw_Few.f a1_0 l1_1 a1_2 30).bind fun t549 => (florinlaw04_ShowAgain.j0 k (!t549) a0_0 l0_1 a0_2 a1_0 l1_1 a1_2 a2_0 a2_1 a2_2 a2_3 a2_4 a2_5 a2_6)) else (florinlaw04_ShowAgain.j0 k true a0_0 l0_1 a0_2 a1_0 l1_1 a1_2 a2_0 a2_1 a2_2 a2_3 a2_4 a2_5 a2_6))) else (some false)) = some r := H
 have A4 := Aside0.mk A40
 clear A40
 by_cases c5 : t547 = true
 ·subst c5
  have H1 : ((florinlaw02_Raw_Few.f a0_0 l0_1 a0_2 30).bind fun t548 => (if t548 = true then ((florinlaw02_Raw_Few.f a1_0 l1_1 a1_2 30).bind fun t549 => (florinlaw04_ShowAgain.j0 k (!t549) a0_0 l0_1 a0_2 a1_0 l1_1 a1_2 a2_0 a2_1 a2_2 a2_3 a2_4 a2_5 a2_6)) else (florinlaw04_ShowAgain.j0 k true a0_0 l0_1 a0_2 a1_0 l1_1 a1_2 a2_0 a2_1 a2_2 a2_3 a2_4 a2_5 a2_6))) = some r := by rw [if_pos rfl] at H; exact H
  clear H
  have H := H1
  clear H1
  have HC6 := Aside0.mk H
  clear H
  go_enter Tryd.func7, Tryd.ntmps7
  go_upto_region 3 with (first | ((with_reducible refine gate_dst (N := 3) rfl ?_); refine be_ 3 #[.bool a0_0, .slice A0_1 l0_1.length c0_1, .int .i64 a0_2] 24 ?_; intro gb544 hg w7 hbox hb; have BK544 := Aside0.mk (hbox); have GW544 := sz_ HB hg; have GE544 := sz_ HB hg; replace HB := Aside0.mk (below_step (bl_ HB).out hb); clear hb hbox hg) | ((with_reducible refine gate_dst (N := 4) rfl ?_); refine be_ 4 #[.bool a1_0, .slice A1_1 l1_1.length c1_1, .int .i64 a1_2] 24 ?_; intro gb545 hg w8 hbox hb; have BK545 := Aside0.mk (hbox); have GW545 := sz_ HB hg; have GE545 := sz_ HB hg; have NB544_545 := na_ BK544 hg; have NB545_544 := nb_ BK544 hg; replace BK544 := bb_ BK544 hb; replace HB := Aside0.mk (below_step (bl_ HB).out hb); clear hb hbox hg) | ((with_reducible refine gate_dst (N := 5) rfl ?_); refine be_ 5 #[.int .i64 a2_0, .int .i64 a2_1, .int .i64 a2_2, .int .i64 a2_3, .int .i64 a2_4, .int .i64 a2_5, .int .i64 a2_6] 42 ?_; intro gb546 hg w9 hbox hb; have BK546 := Aside0.mk (hbox); have GW546 := sz_ HB hg; have GE546 := sz_ HB hg; have NB544_546 := na_ BK544 hg; have NB546_544 := nb_ BK544 hg; have NB545_546 := na_ BK545 hg; have NB546_545 := nb_ BK545 hg; replace BK544 := bb_ BK544 hb; replace BK545 := bb_ BK545 hb; replace HB := Aside0.mk (below_step (bl_ HB).out hb); clear hb hbox hg) | ((with_reducible refine gate_callee (f := 8) rfl ?_); refine gl_ (some 17) Tryd.func8 #[] ?_; (with_reducible refine (florinlaw04_head.calls k  true _ A4.out).mono ?_); rintro e w10 ⟨rfl, hb⟩; refine ⟨_, rfl, ?_⟩; replace BK544 := bb_ BK544 hb; replace BK545 := bb_ BK545 hb; replace BK546 := bb_ BK546 hb; replace HB := Aside0.mk (below_step (bl_ HB).out hb); (try clear hb); (try clear hb2); (try clear hk); (try clear hi)))
  (try simp only [Act.put, List.setIfInBounds_toArray, List.set_cons_zero, List.set_cons_succ])
  go_cut [26] (fun v26 wc => ∃ (kq : Nat) (x26_5 : Bool), v26 = .bool x26_5 ∧ Aside0 (florinlaw04_ShowAgain.j0 kq x26_5 a0_0 l0_1 a0_2 a1_0 l1_1 a1_2 a2_0 a2_1 a2_2 a2_3 a2_4 a2_5 a2_6 = some r) ∧ Aside0 (kq ≤ k) ∧ Aside0 (wc.heap[gb544]? = some (.cells #[.bool a0_0, (.slice A0_1 l0_1.length c0_1), .int .i64 a0_2] 24 (0, 0))) ∧ Aside0 (wc.heap[gb545]? = some (.cells #[.bool a1_0, (.slice A1_1 l1_1.length c1_1), .int .i64 a1_2] 24 (0, 0))) ∧ Aside0 (wc.heap[gb546]? = some (.cells #[.int .i64 a2_0, .int .i64 a2_1, .int .i64 a2_2, .int .i64 a2_3, .int .i64 a2_4, .int .i64 a2_5, .int .i64 a2_6] 42 (0, 0))) ∧ Aside0 (Below w.heap.size w wc))
  case first =>
   have H := HC6.out
   clear HC6
   replace H := Option.bind_eq_some_iff.mp H
   obtain ⟨t548, A110, H⟩ := H
   replace H : (if t548 = true then ((florinlaw02_Raw_Few.f a1_0 l1_1 a1_2 30).bind fun t549 => (florinlaw04_ShowAgain.j0 k (!t549) a0_0 l0_1 a0_2 a1_0 l1_1 a1_2 a2_0 a2_1 a2_2 a2_3 a2_4 a2_5 a2_6)) else (florinlaw04_ShowAgain.j0 k true a0_0 l0_1 a0_2 a1_0 l1_1 a1_2 a2_0 a2_1 a2_2 a2_3 a2_4 a2_5 a2_6)) = some r := H
   have A11 := Aside0.mk A110
   clear A110
   by_cases c12 : t548 = true
   ·subst c12
    have H1 : ((florinlaw02_Raw_Few.f a1_0 l1_1 a1_2 30).bind fun t549 => (florinlaw04_ShowAgain.j0 k (!t549) a0_0 l0_1 a0_2 a1_0 l1_1 a1_2 a2_0 a2_1 a2_2 a2_3 a2_4 a2_5 a2_6)) = some r := by rw [if_pos rfl] at H; exact H
    clear H
    have H := H1
    clear H1
    replace H := Option.bind_eq_some_iff.mp H
    obtain ⟨t549, A130, H⟩ := H
    replace H : (florinlaw04_ShowAgain.j0 k (!t549) a0_0 l0_1 a0_2 a1_0 l1_1 a1_2 a2_0 a2_1 a2_2 a2_3 a2_4 a2_5 a2_6) = some r := H
    have A13 := Aside0.mk A130
    clear A130
    have H' := Aside0.mk H
    clear H
    have hnb14 := NB544_545.out
    have hnc14 := NB545_544.out
    have hnb15 := NB544_546.out
    have hnc15 := NB546_544.out
    obtain ⟨hcz16_0, hcz16_1, hcz16_2, hfz16_0, hfz16_1, hfz16_2⟩ := bo3_ BK544
    go_wp2_with (first | ((with_reducible refine gate_callee (f := 15) rfl ?_); refine gl_ (some 20) Tryd.func15 #[.agg #[.bool a0_0, .slice A0_1 l0_1.length c0_1, .int .i64 a0_2], .int .i64 30] ?_; (with_reducible refine (florinlaw02_Raw_Few.calls a0_0 _ _ l0_1 a0_2 30 true _ ?side1 ?side2 A11.out).mono ?_); (case side1 => repeat (first | exact (Kd.C_below HR0_1.out HB.out) | (with_reducible refine Kd.C_alloc ?_ _) | (with_reducible refine Kd.C_drewN ?_ _) | (with_reducible refine Kd.C_drew ?_))); (case side2 => exact HC0_1.out); rintro e w17 ⟨rfl, hb⟩; refine ⟨_, rfl, ?_⟩; replace BK544 := bb_ BK544 hb; replace BK545 := bb_ BK545 hb; replace BK546 := bb_ BK546 hb; replace HB := Aside0.mk (below_step (bl_ HB).out hb); (try clear hb); (try clear hb2); (try clear hk); (try clear hi); have hnb18 := NB545_546.out; have hnc18 := NB546_545.out; obtain ⟨hcz19_0, hcz19_1, hcz19_2, hfz19_0, hfz19_1, hfz19_2⟩ := bo3_ BK545) | (go_at_call 15; (with_reducible refine (florinlaw02_Raw_Few.calls a1_0 _ _ l1_1 a1_2 30 t549 _ ?side1 ?side2 A13.out).mono ?_); (case side1 => repeat (first | exact (Kd.C_below HR1_1.out HB.out) | (with_reducible refine Kd.C_alloc ?_ _) | (with_reducible refine Kd.C_drewN ?_ _) | (with_reducible refine Kd.C_drew ?_))); (case side2 => exact HC1_1.out); rintro e w20 ⟨rfl, hb⟩; replace BK544 := bb_ BK544 hb; replace BK545 := bb_ BK545 hb; replace BK546 := bb_ BK546 hb; replace HB := Aside0.mk (below_step (bl_ HB).out hb); (try clear hb); (try clear hb2); (try clear hk); (try clear hi)))
    go_meet
    case rel => exact ⟨_, (!t549), eq_, H', ⟨by first | omega | exact Nat.le_refl _⟩, (bk_ BK544), (bk_ BK545), (bk_ BK546), (bl_ HB)⟩
   ·replace c12 := Bool.eq_false_iff.mpr c12
    subst c12
    have H1 : (florinlaw04_ShowAgain.j0 k true a0_0 l0_1 a0_2 a1_0 l1_1 a1_2 a2_0 a2_1 a2_2 a2_3 a2_4 a2_5 a2_6) = some r := by rw [if_neg (show ¬ (false = true) by decide)] at H; exact H
    clear H
    have H := H1
    clear H1
    have H' := Aside0.mk H
    clear H
    have hnb21 := NB544_545.out
    have hnc21 := NB545_544.out
    have hnb22 := NB544_546.out
    have hnc22 := NB546_544.out
    obtain ⟨hcz23_0, hcz23_1, hcz23_2, hfz23_0, hfz23_1, hfz23_2⟩ := bo3_ BK544
    go_wp2_with (first | ((with_reducible refine gate_callee (f := 15) rfl ?_); refine gl_ (some 20) Tryd.func15 #[.agg #[.bool a0_0, .slice A0_1 l0_1.length c0_1, .int .i64 a0_2], .int .i64 30] ?_; (with_reducible refine (florinlaw02_Raw_Few.calls a0_0 _ _ l0_1 a0_2 30 false _ ?side1 ?side2 A11.out).mono ?_); (case side1 => repeat (first | exact (Kd.C_below HR0_1.out HB.out) | (with_reducible refine Kd.C_alloc ?_ _) | (with_reducible refine Kd.C_drewN ?_ _) | (with_reducible refine Kd.C_drew ?_))); (case side2 => exact HC0_1.out); rintro e w24 ⟨rfl, hb⟩; refine ⟨_, rfl, ?_⟩; replace BK544 := bb_ BK544 hb; replace BK545 := bb_ BK545 hb; replace BK546 := bb_ BK546 hb; replace HB := Aside0.mk (below_step (bl_ HB).out hb); (try clear hb); (try clear hb2); (try clear hk); (try clear hi)))
    go_meet
    case rel => exact ⟨_, (true), eq_, H', ⟨by first | omega | exact Nat.le_refl _⟩, (bk_ BK544), (bk_ BK545), (bk_ BK546), (bl_ HB)⟩
  case rest =>
   clear HC6
   try clear c1
   try clear c2
   try clear p2
   try clear c5
   try clear p6
   try clear c7
   try clear c8
   try clear c12
   try clear c14
   try clear c15
   try clear c18
   try clear c21
   try clear c22
   try clear hcz16_0
   try clear hcz16_1
   try clear hcz16_2
   try clear hcz19_0
   try clear hcz19_1
   try clear hcz19_2
   try clear hcz23_0
   try clear hcz23_1
   try clear hcz23_2
   try clear hfz16_0
   try clear hfz16_1
   try clear hfz16_2
   try clear hfz19_0
   try clear hfz19_1
   try clear hfz19_2
   try clear hfz23_0
   try clear hfz23_1
   try clear hfz23_2
   obtain ⟨kq, x26_5, rfl, HA, HJ5, BK544, BK545, BK546, HB⟩ := hcut
   cases kq with
   | zero => exact absurd HA.out (by simp [florinlaw04_ShowAgain.j0])
   | succ kj5 =>
    have H := HA.out
    clear HA
    simp only [florinlaw04_ShowAgain.j0] at H
    by_cases c25 : x26_5 = true
    ·subst c25
     have H1 : (some true) = some r := by rw [if_pos rfl] at H; exact H
     clear H
     have H := H1
     clear H1
     obtain rfl := Option.some.inj H
     go_wp2
     go_ret
     exact ⟨ew_, (bl_ HB).out⟩
    ·replace c25 := Bool.eq_false_iff.mpr c25
     subst c25
     have H1 : ((florinlaw04_Ask_Prec.f kj5 a2_0 a2_1 a2_2 a2_3 a2_4 a2_5 a2_6).bind fun bt550 => ((florinlaw02_Raw_Make.f kj5 a0_0 l0_1 a0_2).bind fun bt559 => ((florinlaw02_Raw_Make.f kj5 a1_0 l1_1 a1_2).bind fun bt563 => ((show_Prec_Apply.f kj5 bt550.1 bt550.2.1 bt550.2.2.1 bt550.2.2.2.1 bt550.2.2.2.2.1 bt550.2.2.2.2.2.1 bt550.2.2.2.2.2.2.1 bt550.2.2.2.2.2.2.2 bt559.1 bt559.2.1 bt559.2.2).bind fun bt567 => ((show_Prec_Apply.f kj5 bt550.1 bt550.2.1 bt550.2.2.1 bt550.2.2.2.1 bt550.2.2.2.2.1 bt550.2.2.2.2.2.1 bt550.2.2.2.2.2.2.1 bt550.2.2.2.2.2.2.2 bt563.1 bt563.2.1 bt563.2.2).bind fun bt572 => ((show_Vis_Value.f kj5 bt567.1 bt567.2.1 bt567.2.2.1).bind fun bt577 => ((show_Prec_Apply.f kj5 bt550.1 bt550.2.1 bt550.2.2.1 bt550.2.2.2.1 bt550.2.2.2.2.1 bt550.2.2.2.2.2.1 bt550.2.2.2.2.2.2.1 bt550.2.2.2.2.2.2.2 bt577.1 bt577.2.1 bt577.2.2).bind fun bt580 => ((dec_Cmp.f kj5 bt559.1 bt559.2.1 bt559.2.2 bt563.1 bt563.2.1 bt563.2.2).bind fun t585 => (florinlaw04_ShowAgain.j1 kj5 bt567.2.2.2 bt572.2.2.2 bt580.2.2.2 t585 bt567.1 bt567.2.1 bt567.2.2.1 bt572.1 bt572.2.1 bt572.2.2.1 bt580.1 bt580.2.1 bt580.2.2.1))))))))) = some r := by rw [if_neg (show ¬ (false = true) by decide)] at H; exact H
     clear H
     have H := H1
     clear H1
     replace H := Option.bind_eq_some_iff.mp H
     obtain ⟨⟨t550, t551, t552, t553, t554, t555, t556, t557⟩, A260, H⟩ := H
     replace H : ((florinlaw02_Raw_Make.f kj5 a0_0 l0_1 a0_2).bind fun bt559 => ((florinlaw02_Raw_Make.f kj5 a1_0 l1_1 a1_2).bind fun bt563 => ((show_Prec_Apply.f kj5 t550 t551 t552 t553 t554 t555 t556 t557 bt559.1 bt559.2.1 bt559.2.2).bind fun bt567 => ((show_Prec_Apply.f kj5 t550 t551 t552 t553 t554 t555 t556 t557 bt563.1 bt563.2.1 bt563.2.2).bind fun bt572 => ((show_Vis_Value.f kj5 bt567.1 bt567.2.1 bt567.2.2.1).bind fun bt577 => ((show_Prec_Apply.f kj5 t550 t551 t552 t553 t554 t555 t556 t557 bt577.1 bt577.2.1 bt577.2.2).bind fun bt580 => ((dec_Cmp.f kj5 bt559.1 bt559.2.1 bt559.2.2 bt563.1 bt563.2.1 bt563.2.2).bind fun t585 => (florinlaw04_ShowAgain.j1 kj5 bt567.2.2.2 bt572.2.2.2 bt580.2.2.2 t585 bt567.1 bt567.2.1 bt567.2.2.1 bt572.1 bt572.2.1 bt572.2.2.1 bt580.1 bt580.2.1 bt580.2.2.1)))))))) = some r := H
     have A26 := Aside0.mk A260
     clear A260
     replace H := Option.bind_eq_some_iff.mp H
     obtain ⟨⟨t559, t560, t561⟩, A270, H⟩ := H
     replace H : ((florinlaw02_Raw_Make.f kj5 a1_0 l1_1 a1_2).bind fun bt563 => ((show_Prec_Apply.f kj5 t550 t551 t552 t553 t554 t555 t556 t557 t559 t560 t561).bind fun bt567 => ((show_Prec_Apply.f kj5 t550 t551 t552 t553 t554 t555 t556 t557 bt563.1 bt563.2.1 bt563.2.2).bind fun bt572 => ((show_Vis_Value.f kj5 bt567.1 bt567.2.1 bt567.2.2.1).bind fun bt577 => ((show_Prec_Apply.f kj5 t550 t551 t552 t553 t554 t555 t556 t557 bt577.1 bt577.2.1 bt577.2.2).bind fun bt580 => ((dec_Cmp.f kj5 t559 t560 t561 bt563.1 bt563.2.1 bt563.2.2).bind fun t585 => (florinlaw04_ShowAgain.j1 kj5 bt567.2.2.2 bt572.2.2.2 bt580.2.2.2 t585 bt567.1 bt567.2.1 bt567.2.2.1 bt572.1 bt572.2.1 bt572.2.2.1 bt580.1 bt580.2.1 bt580.2.2.1))))))) = some r := H
     have A27 := Aside0.mk A270
     clear A270
     replace H := Option.bind_eq_some_iff.mp H
     obtain ⟨⟨t563, t564, t565⟩, A280, H⟩ := H
     replace H : ((show_Prec_Apply.f kj5 t550 t551 t552 t553 t554 t555 t556 t557 t559 t560 t561).bind fun bt567 => ((show_Prec_Apply.f kj5 t550 t551 t552 t553 t554 t555 t556 t557 t563 t564 t565).bind fun bt572 => ((show_Vis_Value.f kj5 bt567.1 bt567.2.1 bt567.2.2.1).bind fun bt577 => ((show_Prec_Apply.f kj5 t550 t551 t552 t553 t554 t555 t556 t557 bt577.1 bt577.2.1 bt577.2.2).bind fun bt580 => ((dec_Cmp.f kj5 t559 t560 t561 t563 t564 t565).bind fun t585 => (florinlaw04_ShowAgain.j1 kj5 bt567.2.2.2 bt572.2.2.2 bt580.2.2.2 t585 bt567.1 bt567.2.1 bt567.2.2.1 bt572.1 bt572.2.1 bt572.2.2.1 bt580.1 bt580.2.1 bt580.2.2.1)))))) = some r := H
     have A28 := Aside0.mk A280
     clear A280
     replace H := Option.bind_eq_some_iff.mp H
     obtain ⟨⟨t567, t568, t569, t570⟩, A290, H⟩ := H
     replace H : ((show_Prec_Apply.f kj5 t550 t551 t552 t553 t554 t555 t556 t557 t563 t564 t565).bind fun bt572 => ((show_Vis_Value.f kj5 t567 t568 t569).bind fun bt577 => ((show_Prec_Apply.f kj5 t550 t551 t552 t553 t554 t555 t556 t557 bt577.1 bt577.2.1 bt577.2.2).bind fun bt580 => ((dec_Cmp.f kj5 t559 t560 t561 t563 t564 t565).bind fun t585 => (florinlaw04_ShowAgain.j1 kj5 t570 bt572.2.2.2 bt580.2.2.2 t585 t567 t568 t569 bt572.1 bt572.2.1 bt572.2.2.1 bt580.1 bt580.2.1 bt580.2.2.1))))) = some r := H
     have A29 := Aside0.mk A290
     clear A290
     replace H := Option.bind_eq_some_iff.mp H
     obtain ⟨⟨t572, t573, t574, t575⟩, A300, H⟩ := H
     replace H : ((show_Vis_Value.f kj5 t567 t568 t569).bind fun bt577 => ((show_Prec_Apply.f kj5 t550 t551 t552 t553 t554 t555 t556 t557 bt577.1 bt577.2.1 bt577.2.2).bind fun bt580 => ((dec_Cmp.f kj5 t559 t560 t561 t563 t564 t565).bind fun t585 => (florinlaw04_ShowAgain.j1 kj5 t570 t575 bt580.2.2.2 t585 t567 t568 t569 t572 t573 t574 bt580.1 bt580.2.1 bt580.2.2.1)))) = some r := H
     have A30 := Aside0.mk A300
     clear A300
     replace H := Option.bind_eq_some_iff.mp H
     obtain ⟨⟨t577, t578, t579⟩, A310, H⟩ := H
     replace H : ((show_Prec_Apply.f kj5 t550 t551 t552 t553 t554 t555 t556 t557 t577 t578 t579).bind fun bt580 => ((dec_Cmp.f kj5 t559 t560 t561 t563 t564 t565).bind fun t585 => (florinlaw04_ShowAgain.j1 kj5 t570 t575 bt580.2.2.2 t585 t567 t568 t569 t572 t573 t574 bt580.1 bt580.2.1 bt580.2.2.1))) = some r := H
     have A31 := Aside0.mk A310
     clear A310
     replace H := Option.bind_eq_some_iff.mp H
     obtain ⟨⟨t580, t581, t582, t583⟩, A320, H⟩ := H
     replace H : ((dec_Cmp.f kj5 t559 t560 t561 t563 t564 t565).bind fun t585 => (florinlaw04_ShowAgain.j1 kj5 t570 t575 t583 t585 t567 t568 t569 t572 t573 t574 t580 t581 t582)) = some r := H
     have A32 := Aside0.mk A320
     clear A320
     have HC33 := Aside0.mk H
     clear H
     have hnb34 := NB546_544.out
     have hnc34 := NB544_546.out
     have hnb35 := NB546_545.out
     have hnc35 := NB545_546.out
     obtain ⟨hcz36_0, hcz36_1, hcz36_2, hcz36_3, hcz36_4, hcz36_5, hcz36_6, hfz36_0, hfz36_1, hfz36_2, hfz36_3, hfz36_4, hfz36_5, hfz36_6⟩ := bo7_ BK546
     try go_wp2_with (first | ((with_reducible refine gate_callee (f := 16) rfl ?_); refine gl_ (some 28) Tryd.func16 #[.agg #[.int .i64 a2_0, .int .i64 a2_1, .int .i64 a2_2, .int .i64 a2_3, .int .i64 a2_4, .int .i64 a2_5, .int .i64 a2_6]] ?_; (with_reducible refine (florinlaw04_Ask_Prec.calls kj5 a2_0 a2_1 a2_2 a2_3 a2_4 a2_5 a2_6 t550 t551 t552 t553 t554 t555 t556 t557 _ A26.out).mono ?_); rintro e w37 ⟨rfl, hb⟩; refine ⟨_, rfl, ?_⟩; replace BK544 := bb_ BK544 hb; replace BK545 := bb_ BK545 hb; replace BK546 := bb_ BK546 hb; replace HB := Aside0.mk (below_step (bl_ HB).out hb); (try clear hb); (try clear hb2); (try clear hk); (try clear hi)) | ((with_reducible refine gate_dst (N := 7) rfl ?_); refine be_ 7 #[.int .i64 0, .int .i64 0, .int .i64 0, .bool false, .string (⟨#[]⟩ : ByteArray), .int .i64 0, .int .i64 0, .int .i64 0] 32 ?_; intro gb558 hg w38 hbox hb; have BK558 := Aside0.mk (hbox); have GW558 := sz_ HB hg; have GE558 := sz_ HB hg; have NB544_558 := na_ BK544 hg; have NB558_544 := nb_ BK544 hg; have NB545_558 := na_ BK545 hg; have NB558_545 := nb_ BK545 hg; have NB546_558 := na_ BK546 hg; have NB558_546 := nb_ BK546 hg; replace BK544 := bb_ BK544 hb; replace BK545 := bb_ BK545 hb; replace BK546 := bb_ BK546 hb; replace HB := Aside0.mk (below_step (bl_ HB).out hb); clear hb hbox hg; have hnb39 := NB558_544.out; have hnc39 := NB544_558.out; have hnb40 := NB558_545.out; have hnc40 := NB545_558.out; have hnb41 := NB558_546.out; have hnc41 := NB546_558.out; obtain ⟨hcz42_0, hcz42_1, hcz42_2, hcz42_3, hcz42_4, hcz42_5, hcz42_6, hcz42_7, hfz42_0, hfz42_1, hfz42_2, hfz42_3, hfz42_4, hfz42_5, hfz42_6, hfz42_7⟩ := bo8_ BK558; have hnb43 := NB544_545.out; have hnc43 := NB545_544.out; obtain ⟨hcz44_0, hcz44_1, hcz44_2, hfz44_0, hfz44_1, hfz44_2⟩ := bo3_ BK544) | ((with_reducible refine gate_callee (f := 9) rfl ?_); refine gl_ (some 30) Tryd.func9 #[.agg #[.bool a0_0, .slice A0_1 l0_1.length c0_1, .int .i64 a0_2]] ?_; (with_reducible refine (florinlaw02_Raw_Make.calls kj5 a0_0 _ _ l0_1 a0_2 t559 t560 t561 _ ?side1 ?side2 A27.out).mono ?_); (case side1 => exact Kd.C_below HR0_1.out (bl_ HB).out); (case side2 => exact HC0_1.out); rintro e w45 ⟨rfl, hb⟩; refine ⟨_, rfl, ?_⟩; have n0_ := Aside0.mk (blk_below (g := gb544) (o := .cells #[.bool a0_0, .slice A0_1 l0_1.length c0_1, .int .i64 a0_2] 24 (0, 0)) (by (with_reducible repeat (first | refine blk_drewN ?_ _ | refine blk_drew ?_ | refine blk_alloc ?_ _)); refine blk_far ?_ NB544_558.out _; (with_reducible repeat (first | refine blk_drewN ?_ _ | refine blk_drew ?_ | refine blk_alloc ?_ _)); refine blk_far ?_ NB544_558.out _; (with_reducible repeat (first | refine blk_drewN ?_ _ | refine blk_drew ?_ | refine blk_alloc ?_ _)); refine blk_far ?_ NB544_558.out _; (with_reducible repeat (first | refine blk_drewN ?_ _ | refine blk_drew ?_ | refine blk_alloc ?_ _)); refine blk_far ?_ NB544_558.out _; (with_reducible repeat (first | refine blk_drewN ?_ _ | refine blk_drew ?_ | refine blk_alloc ?_ _)); refine blk_far ?_ NB544_558.out _; (with_reducible repeat (first | refine blk_drewN ?_ _ | refine blk_drew ?_ | refine blk_alloc ?_ _)); refine blk_far ?_ NB544_558.out _; (with_reducible repeat (first | refine blk_drewN ?_ _ | refine blk_drew ?_ | refine blk_alloc ?_ _)); refine blk_far ?_ NB544_558.out _; (with_reducible repeat (first | refine blk_drewN ?_ _ | refine blk_drew ?_ | refine blk_alloc ?_ _)); refine blk_far ?_ NB544_558.out _; (with_reducible repeat (first | refine blk_drewN ?_ _ | refine blk_drew ?_ | refine blk_alloc ?_ _)); exact BK544.out) hb); have n1_ := Aside0.mk (blk_below (g := gb545) (o := .cells #[.bool a1_0, .slice A1_1 l1_1.length c1_1, .int .i64 a1_2] 24 (0, 0)) (by (with_reducible repeat (first | refine blk_drewN ?_ _ | refine blk_drew ?_ | refine blk_alloc ?_ _)); refine blk_far ?_ NB545_558.out _; (with_reducible repeat (first | refine blk_drewN ?_ _ | refine blk_drew ?_ | refine blk_alloc ?_ _)); refine blk_far ?_ NB545_558.out _; (with_reducible repeat (first | refine blk_drewN ?_ _ | refine blk_drew ?_ | refine blk_alloc ?_ _)); refine blk_far ?_ NB545_558.out _; (with_reducible repeat (first | refine blk_drewN ?_ _ | refine blk_drew ?_ | refine blk_alloc ?_ _)); refine blk_far ?_ NB545_558.out _; (with_reducible repeat (first | refine blk_drewN ?_ _ | refine blk_drew ?_ | refine blk_alloc ?_ _)); refine blk_far ?_ NB545_558.out _; (with_reducible repeat (first | refine blk_drewN ?_ _ | refine blk_drew ?_ | refine blk_alloc ?_ _)); refine blk_far ?_ NB545_558.out _; (with_reducible repeat (first | refine blk_drewN ?_ _ | refine blk_drew ?_ | refine blk_alloc ?_ _)); refine blk_far ?_ NB545_558.out _; (with_reducible repeat (first | refine blk_drewN ?_ _ | refine blk_drew ?_ | refine blk_alloc ?_ _)); refine blk_far ?_ NB545_558.out _; (with_reducible repeat (first | refine blk_drewN ?_ _ | refine blk_drew ?_ | refine blk_alloc ?_ _)); exact BK545.out) hb); have n2_ := Aside0.mk (blk_below (g := gb546) (o := .cells #[.int .i64 a2_0, .int .i64 a2_1, .int .i64 a2_2, .int .i64 a2_3, .int .i64 a2_4, .int .i64 a2_5, .int .i64 a2_6] 42 (0, 0)) (by (with_reducible repeat (first | refine blk_drewN ?_ _ | refine blk_drew ?_ | refine blk_alloc ?_ _)); refine blk_far ?_ NB546_558.out _; (with_reducible repeat (first | refine blk_drewN ?_ _ | refine blk_drew ?_ | refine blk_alloc ?_ _)); refine blk_far ?_ NB546_558.out _; (with_reducible repeat (first | refine blk_drewN ?_ _ | refine blk_drew ?_ | refine blk_alloc ?_ _)); refine blk_far ?_ NB546_558.out _; (with_reducible repeat (first | refine blk_drewN ?_ _ | refine blk_drew ?_ | refine blk_alloc ?_ _)); refine blk_far ?_ NB546_558.out _; (with_reducible repeat (first | refine blk_drewN ?_ _ | refine blk_drew ?_ | refine blk_alloc ?_ _)); refine blk_far ?_ NB546_558.out _; (with_reducible repeat (first | refine blk_drewN ?_ _ | refine blk_drew ?_ | refine blk_alloc ?_ _)); refine blk_far ?_ NB546_558.out _; (with_reducible repeat (first | refine blk_drewN ?_ _ | refine blk_drew ?_ | refine blk_alloc ?_ _)); refine blk_far ?_ NB546_558.out _; (with_reducible repeat (first | refine blk_drewN ?_ _ | refine blk_drew ?_ | refine blk_alloc ?_ _)); refine blk_far ?_ NB546_558.out _; (with_reducible repeat (first | refine blk_drewN ?_ _ | refine blk_drew ?_ | refine blk_alloc ?_ _)); exact BK546.out) hb); have n3_ := Aside0.mk (blk_below (g := gb558) (o := .cells #[.int .i64 t550, .int .i64 t551, .int .i64 t552, .bool t553, .string t554, .int .i64 t555, .int .i64 t556, .int .i64 t557] 32 (0, 0)) (by (with_reducible repeat (first | refine blk_drewN ?_ _ | refine blk_drew ?_ | refine blk_alloc ?_ _)); refine blk_put (cs := #[.int .i64 t550, .int .i64 t551, .int .i64 t552, .bool t553, .string t554, .int .i64 t555, .int .i64 t556, .int .i64 0]) ?_ 7 _ rfl; (with_reducible repeat (first | refine blk_drewN ?_ _ | refine blk_drew ?_ | refine blk_alloc ?_ _)); refine blk_put (cs := #[.int .i64 t550, .int .i64 t551, .int .i64 t552, .bool t553, .string t554, .int .i64 t555, .int .i64 0, .int .i64 0]) ?_ 6 _ rfl; (with_reducible repeat (first | refine blk_drewN ?_ _ | refine blk_drew ?_ | refine blk_alloc ?_ _)); refine blk_put (cs := #[.int .i64 t550, .int .i64 t551, .int .i64 t552, .bool t553, .string t554, .int .i64 0, .int .i64 0, .int .i64 0]) ?_ 5 _ rfl; (with_reducible repeat (first | refine blk_drewN ?_ _ | refine blk_drew ?_ | refine blk_alloc ?_ _)); refine blk_put (cs := #[.int .i64 t550, .int .i64 t551, .int .i64 t552, .bool t553, .string (⟨#[]⟩ : ByteArray), .int .i64 0, .int .i64 0, .int .i64 0]) ?_ 4 _ rfl; (with_reducible repeat (first | refine blk_drewN ?_ _ | refine blk_drew ?_ | refine blk_alloc ?_ _)); refine blk_put (cs := #[.int .i64 t550, .int .i64 t551, .int .i64 t552, .bool false, .string (⟨#[]⟩ : ByteArray), .int .i64 0, .int .i64 0, .int .i64 0]) ?_ 3 _ rfl; (with_reducible repeat (first | refine blk_drewN ?_ _ | refine blk_drew ?_ | refine blk_alloc ?_ _)); refine blk_put (cs := #[.int .i64 t550, .int .i64 t551, .int .i64 0, .bool false, .string (⟨#[]⟩ : ByteArray), .int .i64 0, .int .i64 0, .int .i64 0]) ?_ 2 _ rfl; (with_reducible repeat (first | refine blk_drewN ?_ _ | refine blk_drew ?_ | refine blk_alloc ?_ _)); refine blk_put (cs := #[.int .i64 t550, .int .i64 0, .int .i64 0, .bool false, .string (⟨#[]⟩ : ByteArray), .int .i64 0, .int .i64 0, .int .i64 0]) ?_ 1 _ rfl; (with_reducible repeat (first | refine blk_drewN ?_ _ | refine blk_drew ?_ | refine blk_alloc ?_ _)); refine blk_put (cs := #[.int .i64 0, .int .i64 0, .int .i64 0, .bool false, .string (⟨#[]⟩ : ByteArray), .int .i64 0, .int .i64 0, .int .i64 0]) ?_ 0 _ rfl; (with_reducible repeat (first | refine blk_drewN ?_ _ | refine blk_drew ?_ | refine blk_alloc ?_ _)); exact BK558.out) hb); have n4_ := Aside0.mk (below_step (bl_ HB).out hb); clear BK544; clear BK545; clear BK546; clear BK558; clear HB; have BK544 := n0_; have BK545 := n1_; have BK546 := n2_; have BK558 := n3_; have HB := n4_; clear n0_ n1_ n2_ n3_ n4_; (try clear hb); (try clear hb2); (try clear hk); (try clear hi)) | ((with_reducible refine gate_dst (N := 8) rfl ?_); refine be_ 8 #[.bool false, .string (⟨#[]⟩ : ByteArray), .int .i64 0] 29 ?_; intro gb562 hg w46 hbox hb; have BK562 := Aside0.mk (hbox); have GW562 := sz_ HB hg; have GE562 := sz_ HB hg; have NB544_562 := na_ BK544 hg; have NB562_544 := nb_ BK544 hg; have NB545_562 := na_ BK545 hg; have NB562_545 := nb_ BK545 hg; have NB546_562 := na_ BK546 hg; have NB562_546 := nb_ BK546 hg; have NB558_562 := na_ BK558 hg; have NB562_558 := nb_ BK558 hg; replace BK544 := bb_ BK544 hb; replace BK545 := bb_ BK545 hb; replace BK546 := bb_ BK546 hb; replace BK558 := bb_ BK558 hb; replace HB := Aside0.mk (below_step (bl_ HB).out hb); clear hb hbox hg; have hnb47 := NB562_544.out; have hnc47 := NB544_562.out; have hnb48 := NB562_545.out; have hnc48 := NB545_562.out; have hnb49 := NB562_546.out; have hnc49 := NB546_562.out; have hnb50 := NB562_558.out; have hnc50 := NB558_562.out; obtain ⟨hcz51_0, hcz51_1, hcz51_2, hfz51_0, hfz51_1, hfz51_2⟩ := bo3_ BK562; obtain ⟨hcz52_0, hcz52_1, hcz52_2, hfz52_0, hfz52_1, hfz52_2⟩ := bo3_ BK545) | ((with_reducible refine gate_callee (f := 9) rfl ?_); refine gl_ (some 32) Tryd.func9 #[.agg #[.bool a1_0, .slice A1_1 l1_1.length c1_1, .int .i64 a1_2]] ?_; (with_reducible refine (florinlaw02_Raw_Make.calls kj5 a1_0 _ _ l1_1 a1_2 t563 t564 t565 _ ?side1 ?side2 A28.out).mono ?_); (case side1 => exact Kd.C_below HR1_1.out (bl_ HB).out); (case side2 => exact HC1_1.out); rintro e w53 ⟨rfl, hb⟩; refine ⟨_, rfl, ?_⟩; have n0_ := Aside0.mk (blk_below (g := gb544) (o := .cells #[.bool a0_0, .slice A0_1 l0_1.length c0_1, .int .i64 a0_2] 24 (0, 0)) (by (with_reducible repeat (first | refine blk_drewN ?_ _ | refine blk_drew ?_ | refine blk_alloc ?_ _)); refine blk_far ?_ NB544_562.out _; (with_reducible repeat (first | refine blk_drewN ?_ _ | refine blk_drew ?_ | refine blk_alloc ?_ _)); refine blk_far ?_ NB544_562.out _; (with_reducible repeat (first | refine blk_drewN ?_ _ | refine blk_drew ?_ | refine blk_alloc ?_ _)); refine blk_far ?_ NB544_562.out _; (with_reducible repeat (first | refine blk_drewN ?_ _ | refine blk_drew ?_ | refine blk_alloc ?_ _)); exact BK544.out) hb); have n1_ := Aside0.mk (blk_below (g := gb545) (o := .cells #[.bool a1_0, .slice A1_1 l1_1.length c1_1, .int .i64 a1_2] 24 (0, 0)) (by (with_reducible repeat (first | refine blk_drewN ?_ _ | refine blk_drew ?_ | refine blk_alloc ?_ _)); refine blk_far ?_ NB545_562.out _; (with_reducible repeat (first | refine blk_drewN ?_ _ | refine blk_drew ?_ | refine blk_alloc ?_ _)); refine blk_far ?_ NB545_562.out _; (with_reducible repeat (first | refine blk_drewN ?_ _ | refine blk_drew ?_ | refine blk_alloc ?_ _)); refine blk_far ?_ NB545_562.out _; (with_reducible repeat (first | refine blk_drewN ?_ _ | refine blk_drew ?_ | refine blk_alloc ?_ _)); exact BK545.out) hb); have n2_ := Aside0.mk (blk_below (g := gb546) (o := .cells #[.int .i64 a2_0, .int .i64 a2_1, .int .i64 a2_2, .int .i64 a2_3, .int .i64 a2_4, .int .i64 a2_5, .int .i64 a2_6] 42 (0, 0)) (by (with_reducible repeat (first | refine blk_drewN ?_ _ | refine blk_drew ?_ | refine blk_alloc ?_ _)); refine blk_far ?_ NB546_562.out _; (with_reducible repeat (first | refine blk_drewN ?_ _ | refine blk_drew ?_ | refine blk_alloc ?_ _)); refine blk_far ?_ NB546_562.out _; (with_reducible repeat (first | refine blk_drewN ?_ _ | refine blk_drew ?_ | refine blk_alloc ?_ _)); refine blk_far ?_ NB546_562.out _; (with_reducible repeat (first | refine blk_drewN ?_ _ | refine blk_drew ?_ | refine blk_alloc ?_ _)); exact BK546.out) hb); have n3_ := Aside0.mk (blk_below (g := gb558) (o := .cells #[.int .i64 t550, .int .i64 t551, .int .i64 t552, .bool t553, .string t554, .int .i64 t555, .int .i64 t556, .int .i64 t557] 32 (0, 0)) (by (with_reducible repeat (first | refine blk_drewN ?_ _ | refine blk_drew ?_ | refine blk_alloc ?_ _)); refine blk_far ?_ NB558_562.out _; (with_reducible repeat (first | refine blk_drewN ?_ _ | refine blk_drew ?_ | refine blk_alloc ?_ _)); refine blk_far ?_ NB558_562.out _; (with_reducible repeat (first | refine blk_drewN ?_ _ | refine blk_drew ?_ | refine blk_alloc ?_ _)); refine blk_far ?_ NB558_562.out _; (with_reducible repeat (first | refine blk_drewN ?_ _ | refine blk_drew ?_ | refine blk_alloc ?_ _)); exact BK558.out) hb); have n4_ := Aside0.mk (blk_below (g := gb562) (o := .cells #[.bool t559, .string t560, .int .i64 t561] 29 (0, 0)) (by (with_reducible repeat (first | refine blk_drewN ?_ _ | refine blk_drew ?_ | refine blk_alloc ?_ _)); refine blk_put (cs := #[.bool t559, .string t560, .int .i64 0]) ?_ 2 _ rfl; (with_reducible repeat (first | refine blk_drewN ?_ _ | refine blk_drew ?_ | refine blk_alloc ?_ _)); refine blk_put (cs := #[.bool t559, .string (⟨#[]⟩ : ByteArray), .int .i64 0]) ?_ 1 _ rfl; (with_reducible repeat (first | refine blk_drewN ?_ _ | refine blk_drew ?_ | refine blk_alloc ?_ _)); refine blk_put (cs := #[.bool false, .string (⟨#[]⟩ : ByteArray), .int .i64 0]) ?_ 0 _ rfl; (with_reducible repeat (first | refine blk_drewN ?_ _ | refine blk_drew ?_ | refine blk_alloc ?_ _)); exact BK562.out) hb); have n5_ := Aside0.mk (below_step (bl_ HB).out hb); clear BK544; clear BK545; clear BK546; clear BK558; clear BK562; clear HB; have BK544 := n0_; have BK545 := n1_; have BK546 := n2_; have BK558 := n3_; have BK562 := n4_; have HB := n5_; clear n0_ n1_ n2_ n3_ n4_ n5_; (try clear hb); (try clear hb2); (try clear hk); (try clear hi)) | ((with_reducible refine gate_dst (N := 9) rfl ?_); refine be_ 9 #[.bool false, .string (⟨#[]⟩ : ByteArray), .int .i64 0] 29 ?_; intro gb566 hg w54 hbox hb; have BK566 := Aside0.mk (hbox); have GW566 := sz_ HB hg; have GE566 := sz_ HB hg; have NB544_566 := na_ BK544 hg; have NB566_544 := nb_ BK544 hg; have NB545_566 := na_ BK545 hg; have NB566_545 := nb_ BK545 hg; have NB546_566 := na_ BK546 hg; have NB566_546 := nb_ BK546 hg; have NB558_566 := na_ BK558 hg; have NB566_558 := nb_ BK558 hg; have NB562_566 := na_ BK562 hg; have NB566_562 := nb_ BK562 hg; replace BK544 := bb_ BK544 hb; replace BK545 := bb_ BK545 hb; replace BK546 := bb_ BK546 hb; replace BK558 := bb_ BK558 hb; replace BK562 := bb_ BK562 hb; replace HB := Aside0.mk (below_step (bl_ HB).out hb); clear hb hbox hg; have hnb55 := NB566_544.out; have hnc55 := NB544_566.out; have hnb56 := NB566_545.out; have hnc56 := NB545_566.out; have hnb57 := NB566_546.out; have hnc57 := NB546_566.out; have hnb58 := NB566_558.out; have hnc58 := NB558_566.out; have hnb59 := NB566_562.out; have hnc59 := NB562_566.out; obtain ⟨hcz60_0, hcz60_1, hcz60_2, hfz60_0, hfz60_1, hfz60_2⟩ := bo3_ BK566; obtain ⟨hcz61_0, hcz61_1, hcz61_2, hcz61_3, hcz61_4, hcz61_5, hcz61_6, hcz61_7, hfz61_0, hfz61_1, hfz61_2, hfz61_3, hfz61_4, hfz61_5, hfz61_6, hfz61_7⟩ := bo8_ BK558; obtain ⟨hcz62_0, hcz62_1, hcz62_2, hfz62_0, hfz62_1, hfz62_2⟩ := bo3_ BK562) | ((with_reducible refine gate_callee (f := 13) rfl ?_); refine gl_ (some 36) Tryd.func13 #[.agg #[.int .i64 t550, .int .i64 t551, .int .i64 t552, .bool t553, .string t554, .int .i64 t555, .int .i64 t556, .int .i64 t557], .agg #[.bool t559, .string t560, .int .i64 t561]] ?_; (with_reducible refine (show_Prec_Apply.calls kj5 t550 t551 t552 t553 t554 t555 t556 t557 t559 t560 t561 t567 t568 t569 t570 _ A29.out).mono ?_); rintro e w63 ⟨rfl, hb⟩; refine ⟨_, rfl, ?_⟩; have n0_ := Aside0.mk (blk_below (g := gb544) (o := .cells #[.bool a0_0, .slice A0_1 l0_1.length c0_1, .int .i64 a0_2] 24 (0, 0)) (by (with_reducible repeat (first | refine blk_drewN ?_ _ | refine blk_drew ?_ | refine blk_alloc ?_ _)); refine blk_far ?_ NB544_566.out _; (with_reducible repeat (first | refine blk_drewN ?_ _ | refine blk_drew ?_ | refine blk_alloc ?_ _)); refine blk_far ?_ NB544_566.out _; (with_reducible repeat (first | refine blk_drewN ?_ _ | refine blk_drew ?_ | refine blk_alloc ?_ _)); refine blk_far ?_ NB544_566.out _; (with_reducible repeat (first | refine blk_drewN ?_ _ | refine blk_drew ?_ | refine blk_alloc ?_ _)); exact BK544.out) hb); have n1_ := Aside0.mk (blk_below (g := gb545) (o := .cells #[.bool a1_0, .slice A1_1 l1_1.length c1_1, .int .i64 a1_2] 24 (0, 0)) (by (with_reducible repeat (first | refine blk_drewN ?_ _ | refine blk_drew ?_ | refine blk_alloc ?_ _)); refine blk_far ?_ NB545_566.out _; (with_reducible repeat (first | refine blk_drewN ?_ _ | refine blk_drew ?_ | refine blk_alloc ?_ _)); refine blk_far ?_ NB545_566.out _; (with_reducible repeat (first | refine blk_drewN ?_ _ | refine blk_drew ?_ | refine blk_alloc ?_ _)); refine blk_far ?_ NB545_566.out _; (with_reducible repeat (first | refine blk_drewN ?_ _ | refine blk_drew ?_ | refine blk_alloc ?_ _)); exact BK545.out) hb); have n2_ := Aside0.mk (blk_below (g := gb546) (o := .cells #[.int .i64 a2_0, .int .i64 a2_1, .int .i64 a2_2, .int .i64 a2_3, .int .i64 a2_4, .int .i64 a2_5, .int .i64 a2_6] 42 (0, 0)) (by (with_reducible repeat (first | refine blk_drewN ?_ _ | refine blk_drew ?_ | refine blk_alloc ?_ _)); refine blk_far ?_ NB546_566.out _; (with_reducible repeat (first | refine blk_drewN ?_ _ | refine blk_drew ?_ | refine blk_alloc ?_ _)); refine blk_far ?_ NB546_566.out _; (with_reducible repeat (first | refine blk_drewN ?_ _ | refine blk_drew ?_ | refine blk_alloc ?_ _)); refine blk_far ?_ NB546_566.out _; (with_reducible repeat (first | refine blk_drewN ?_ _ | refine blk_drew ?_ | refine blk_alloc ?_ _)); exact BK546.out) hb); have n3_ := Aside0.mk (blk_below (g := gb558) (o := .cells #[.int .i64 t550, .int .i64 t551, .int .i64 t552, .bool t553, .string t554, .int .i64 t555, .int .i64 t556, .int .i64 t557] 32 (0, 0)) (by (with_reducible repeat (first | refine blk_drewN ?_ _ | refine blk_drew ?_ | refine blk_alloc ?_ _)); refine blk_far ?_ NB558_566.out _; (with_reducible repeat (first | refine blk_drewN ?_ _ | refine blk_drew ?_ | refine blk_alloc ?_ _)); refine blk_far ?_ NB558_566.out _; (with_reducible repeat (first | refine blk_drewN ?_ _ | refine blk_drew ?_ | refine blk_alloc ?_ _)); refine blk_far ?_ NB558_566.out _; (with_reducible repeat (first | refine blk_drewN ?_ _ | refine blk_drew ?_ | refine blk_alloc ?_ _)); exact BK558.out) hb); have n4_ := Aside0.mk (blk_below (g := gb562) (o := .cells #[.bool t559, .string t560, .int .i64 t561] 29 (0, 0)) (by (with_reducible repeat (first | refine blk_drewN ?_ _ | refine blk_drew ?_ | refine blk_alloc ?_ _)); refine blk_far ?_ NB562_566.out _; (with_reducible repeat (first | refine blk_drewN ?_ _ | refine blk_drew ?_ | refine blk_alloc ?_ _)); refine blk_far ?_ NB562_566.out _; (with_reducible repeat (first | refine blk_drewN ?_ _ | refine blk_drew ?_ | refine blk_alloc ?_ _)); refine blk_far ?_ NB562_566.out _; (with_reducible repeat (first | refine blk_drewN ?_ _ | refine blk_drew ?_ | refine blk_alloc ?_ _)); exact BK562.out) hb); have n5_ := Aside0.mk (blk_below (g := gb566) (o := .cells #[.bool t563, .string t564, .int .i64 t565] 29 (0, 0)) (by (with_reducible repeat (first | refine blk_drewN ?_ _ | refine blk_drew ?_ | refine blk_alloc ?_ _)); refine blk_put (cs := #[.bool t563, .string t564, .int .i64 0]) ?_ 2 _ rfl; (with_reducible repeat (first | refine blk_drewN ?_ _ | refine blk_drew ?_ | refine blk_alloc ?_ _)); refine blk_put (cs := #[.bool t563, .string (⟨#[]⟩ : ByteArray), .int .i64 0]) ?_ 1 _ rfl; (with_reducible repeat (first | refine blk_drewN ?_ _ | refine blk_drew ?_ | refine blk_alloc ?_ _)); refine blk_put (cs := #[.bool false, .string (⟨#[]⟩ : ByteArray), .int .i64 0]) ?_ 0 _ rfl; (with_reducible repeat (first | refine blk_drewN ?_ _ | refine blk_drew ?_ | refine blk_alloc ?_ _)); exact BK566.out) hb); have n6_ := Aside0.mk (below_step (bl_ HB).out hb); clear BK544; clear BK545; clear BK546; clear BK558; clear BK562; clear BK566; clear HB; have BK544 := n0_; have BK545 := n1_; have BK546 := n2_; have BK558 := n3_; have BK562 := n4_; have BK566 := n5_; have HB := n6_; clear n0_ n1_ n2_ n3_ n4_ n5_ n6_; (try clear hb); (try clear hb2); (try clear hk); (try clear hi)) | ((with_reducible refine gate_dst (N := 10) rfl ?_); refine be_ 10 #[.bool false, .string (⟨#[]⟩ : ByteArray), .string (⟨#[]⟩ : ByteArray)] 35 ?_; intro gb571 hg w64 hbox hb; have BK571 := Aside0.mk (hbox); have GW571 := sz_ HB hg; have GE571 := sz_ HB hg; have NB544_571 := na_ BK544 hg; have NB571_544 := nb_ BK544 hg; have NB545_571 := na_ BK545 hg; have NB571_545 := nb_ BK545 hg; have NB546_571 := na_ BK546 hg; have NB571_546 := nb_ BK546 hg; have NB558_571 := na_ BK558 hg; have NB571_558 := nb_ BK558 hg; have NB562_571 := na_ BK562 hg; have NB571_562 := nb_ BK562 hg; have NB566_571 := na_ BK566 hg; have NB571_566 := nb_ BK566 hg; replace BK544 := bb_ BK544 hb; replace BK545 := bb_ BK545 hb; replace BK546 := bb_ BK546 hb; replace BK558 := bb_ BK558 hb; replace BK562 := bb_ BK562 hb; replace BK566 := bb_ BK566 hb; replace HB := Aside0.mk (below_step (bl_ HB).out hb); clear hb hbox hg; have hnb65 := NB571_544.out; have hnc65 := NB544_571.out; have hnb66 := NB571_545.out; have hnc66 := NB545_571.out; have hnb67 := NB571_546.out; have hnc67 := NB546_571.out; have hnb68 := NB571_558.out; have hnc68 := NB558_571.out; have hnb69 := NB571_562.out; have hnc69 := NB562_571.out; have hnb70 := NB571_566.out; have hnc70 := NB566_571.out; obtain ⟨hcz71_0, hcz71_1, hcz71_2, hfz71_0, hfz71_1, hfz71_2⟩ := bo3_ BK571; obtain ⟨hcz72_0, hcz72_1, hcz72_2, hcz72_3, hcz72_4, hcz72_5, hcz72_6, hcz72_7, hfz72_0, hfz72_1, hfz72_2, hfz72_3, hfz72_4, hfz72_5, hfz72_6, hfz72_7⟩ := bo8_ BK558; obtain ⟨hcz73_0, hcz73_1, hcz73_2, hfz73_0, hfz73_1, hfz73_2⟩ := bo3_ BK566) | ((with_reducible refine gate_callee (f := 13) rfl ?_); refine gl_ (some 42) Tryd.func13 #[.agg #[.int .i64 t550, .int .i64 t551, .int .i64 t552, .bool t553, .string t554, .int .i64 t555, .int .i64 t556, .int .i64 t557], .agg #[.bool t563, .string t564, .int .i64 t565]] ?_; (with_reducible refine (show_Prec_Apply.calls kj5 t550 t551 t552 t553 t554 t555 t556 t557 t563 t564 t565 t572 t573 t574 t575 _ A30.out).mono ?_); rintro e w74 ⟨rfl, hb⟩; refine ⟨_, rfl, ?_⟩; have n0_ := Aside0.mk (blk_below (g := gb544) (o := .cells #[.bool a0_0, .slice A0_1 l0_1.length c0_1, .int .i64 a0_2] 24 (0, 0)) (by (with_reducible repeat (first | refine blk_drewN ?_ _ | refine blk_drew ?_ | refine blk_alloc ?_ _)); refine blk_far ?_ NB544_571.out _; (with_reducible repeat (first | refine blk_drewN ?_ _ | refine blk_drew ?_ | refine blk_alloc ?_ _)); refine blk_far ?_ NB544_571.out _; (with_reducible repeat (first | refine blk_drewN ?_ _ | refine blk_drew ?_ | refine blk_alloc ?_ _)); refine blk_far ?_ NB544_571.out _; (with_reducible repeat (first | refine blk_drewN ?_ _ | refine blk_drew ?_ | refine blk_alloc ?_ _)); exact BK544.out) hb); have n1_ := Aside0.mk (blk_below (g := gb545) (o := .cells #[.bool a1_0, .slice A1_1 l1_1.length c1_1, .int .i64 a1_2] 24 (0, 0)) (by (with_reducible repeat (first | refine blk_drewN ?_ _ | refine blk_drew ?_ | refine blk_alloc ?_ _)); refine blk_far ?_ NB545_571.out _; (with_reducible repeat (first | refine blk_drewN ?_ _ | refine blk_drew ?_ | refine blk_alloc ?_ _)); refine blk_far ?_ NB545_571.out _; (with_reducible repeat (first | refine blk_drewN ?_ _ | refine blk_drew ?_ | refine blk_alloc ?_ _)); refine blk_far ?_ NB545_571.out _; (with_reducible repeat (first | refine blk_drewN ?_ _ | refine blk_drew ?_ | refine blk_alloc ?_ _)); exact BK545.out) hb); have n2_ := Aside0.mk (blk_below (g := gb546) (o := .cells #[.int .i64 a2_0, .int .i64 a2_1, .int .i64 a2_2, .int .i64 a2_3, .int .i64 a2_4, .int .i64 a2_5, .int .i64 a2_6] 42 (0, 0)) (by (with_reducible repeat (first | refine blk_drewN ?_ _ | refine blk_drew ?_ | refine blk_alloc ?_ _)); refine blk_far ?_ NB546_571.out _; (with_reducible repeat (first | refine blk_drewN ?_ _ | refine blk_drew ?_ | refine blk_alloc ?_ _)); refine blk_far ?_ NB546_571.out _; (with_reducible repeat (first | refine blk_drewN ?_ _ | refine blk_drew ?_ | refine blk_alloc ?_ _)); refine blk_far ?_ NB546_571.out _; (with_reducible repeat (first | refine blk_drewN ?_ _ | refine blk_drew ?_ | refine blk_alloc ?_ _)); exact BK546.out) hb); have n3_ := Aside0.mk (blk_below (g := gb558) (o := .cells #[.int .i64 t550, .int .i64 t551, .int .i64 t552, .bool t553, .string t554, .int .i64 t555, .int .i64 t556, .int .i64 t557] 32 (0, 0)) (by (with_reducible repeat (first | refine blk_drewN ?_ _ | refine blk_drew ?_ | refine blk_alloc ?_ _)); refine blk_far ?_ NB558_571.out _; (with_reducible repeat (first | refine blk_drewN ?_ _ | refine blk_drew ?_ | refine blk_alloc ?_ _)); refine blk_far ?_ NB558_571.out _; (with_reducible repeat (first | refine blk_drewN ?_ _ | refine blk_drew ?_ | refine blk_alloc ?_ _)); refine blk_far ?_ NB558_571.out _; (with_reducible repeat (first | refine blk_drewN ?_ _ | refine blk_drew ?_ | refine blk_alloc ?_ _)); exact BK558.out) hb); have n4_ := Aside0.mk (blk_below (g := gb562) (o := .cells #[.bool t559, .string t560, .int .i64 t561] 29 (0, 0)) (by (with_reducible repeat (first | refine blk_drewN ?_ _ | refine blk_drew ?_ | refine blk_alloc ?_ _)); refine blk_far ?_ NB562_571.out _; (with_reducible repeat (first | refine blk_drewN ?_ _ | refine blk_drew ?_ | refine blk_alloc ?_ _)); refine blk_far ?_ NB562_571.out _; (with_reducible repeat (first | refine blk_drewN ?_ _ | refine blk_drew ?_ | refine blk_alloc ?_ _)); refine blk_far ?_ NB562_571.out _; (with_reducible repeat (first | refine blk_drewN ?_ _ | refine blk_drew ?_ | refine blk_alloc ?_ _)); exact BK562.out) hb); have n5_ := Aside0.mk (blk_below (g := gb566) (o := .cells #[.bool t563, .string t564, .int .i64 t565] 29 (0, 0)) (by (with_reducible repeat (first | refine blk_drewN ?_ _ | refine blk_drew ?_ | refine blk_alloc ?_ _)); refine blk_far ?_ NB566_571.out _; (with_reducible repeat (first | refine blk_drewN ?_ _ | refine blk_drew ?_ | refine blk_alloc ?_ _)); refine blk_far ?_ NB566_571.out _; (with_reducible repeat (first | refine blk_drewN ?_ _ | refine blk_drew ?_ | refine blk_alloc ?_ _)); refine blk_far ?_ NB566_571.out _; (with_reducible repeat (first | refine blk_drewN ?_ _ | refine blk_drew ?_ | refine blk_alloc ?_ _)); exact BK566.out) hb); have n6_ := Aside0.mk (blk_below (g := gb571) (o := .cells #[.bool t567, .string t568, .string t569] 35 (0, 0)) (by (with_reducible repeat (first | refine blk_drewN ?_ _ | refine blk_drew ?_ | refine blk_alloc ?_ _)); refine blk_put (cs := #[.bool t567, .string t568, .string (⟨#[]⟩ : ByteArray)]) ?_ 2 _ rfl; (with_reducible repeat (first | refine blk_drewN ?_ _ | refine blk_drew ?_ | refine blk_alloc ?_ _)); refine blk_put (cs := #[.bool t567, .string (⟨#[]⟩ : ByteArray), .string (⟨#[]⟩ : ByteArray)]) ?_ 1 _ rfl; (with_reducible repeat (first | refine blk_drewN ?_ _ | refine blk_drew ?_ | refine blk_alloc ?_ _)); refine blk_put (cs := #[.bool false, .string (⟨#[]⟩ : ByteArray), .string (⟨#[]⟩ : ByteArray)]) ?_ 0 _ rfl; (with_reducible repeat (first | refine blk_drewN ?_ _ | refine blk_drew ?_ | refine blk_alloc ?_ _)); exact BK571.out) hb); have n7_ := Aside0.mk (below_step (bl_ HB).out hb); clear BK544; clear BK545; clear BK546; clear BK558; clear BK562; clear BK566; clear BK571; clear HB; have BK544 := n0_; have BK545 := n1_; have BK546 := n2_; have BK558 := n3_; have BK562 := n4_; have BK566 := n5_; have BK571 := n6_; have HB := n7_; clear n0_ n1_ n2_ n3_ n4_ n5_ n6_ n7_; (try clear hb); (try clear hb2); (try clear hk); (try clear hi)) | ((with_reducible refine gate_dst (N := 12) rfl ?_); refine be_ 12 #[.bool false, .string (⟨#[]⟩ : ByteArray), .string (⟨#[]⟩ : ByteArray)] 35 ?_; intro gb576 hg w75 hbox hb; have BK576 := Aside0.mk (hbox); have GW576 := sz_ HB hg; have GE576 := sz_ HB hg; have NB544_576 := na_ BK544 hg; have NB576_544 := nb_ BK544 hg; have NB545_576 := na_ BK545 hg; have NB576_545 := nb_ BK545 hg; have NB546_576 := na_ BK546 hg; have NB576_546 := nb_ BK546 hg; have NB558_576 := na_ BK558 hg; have NB576_558 := nb_ BK558 hg; have NB562_576 := na_ BK562 hg; have NB576_562 := nb_ BK562 hg; have NB566_576 := na_ BK566 hg; have NB576_566 := nb_ BK566 hg; have NB571_576 := na_ BK571 hg; have NB576_571 := nb_ BK571 hg; replace BK544 := bb_ BK544 hb; replace BK545 := bb_ BK545 hb; replace BK546 := bb_ BK546 hb; replace BK558 := bb_ BK558 hb; replace BK562 := bb_ BK562 hb; replace BK566 := bb_ BK566 hb; replace BK571 := bb_ BK571 hb; replace HB := Aside0.mk (below_step (bl_ HB).out hb); clear hb hbox hg; have hnb76 := NB576_544.out; have hnc76 := NB544_576.out; have hnb77 := NB576_545.out; have hnc77 := NB545_576.out; have hnb78 := NB576_546.out; have hnc78 := NB546_576.out; have hnb79 := NB576_558.out; have hnc79 := NB558_576.out; have hnb80 := NB576_562.out; have hnc80 := NB562_576.out; have hnb81 := NB576_566.out; have hnc81 := NB566_576.out; have hnb82 := NB576_571.out; have hnc82 := NB571_576.out; obtain ⟨hcz83_0, hcz83_1, hcz83_2, hfz83_0, hfz83_1, hfz83_2⟩ := bo3_ BK576))
     have n0_ : Aside0 ((((w75.setCell ⟨gb576, 0, none⟩ (.bool t572)).setCell ⟨gb576, 1, none⟩ (.string t573)).setCell ⟨gb576, 2, none⟩ (.string t574)).heap[gb544]? = _) := bf_ BK544
     have n1_ : Aside0 ((((w75.setCell ⟨gb576, 0, none⟩ (.bool t572)).setCell ⟨gb576, 1, none⟩ (.string t573)).setCell ⟨gb576, 2, none⟩ (.string t574)).heap[gb545]? = _) := bf_ BK545
     have n2_ : Aside0 ((((w75.setCell ⟨gb576, 0, none⟩ (.bool t572)).setCell ⟨gb576, 1, none⟩ (.string t573)).setCell ⟨gb576, 2, none⟩ (.string t574)).heap[gb546]? = _) := bf_ BK546
     have n3_ : Aside0 ((((w75.setCell ⟨gb576, 0, none⟩ (.bool t572)).setCell ⟨gb576, 1, none⟩ (.string t573)).setCell ⟨gb576, 2, none⟩ (.string t574)).heap[gb558]? = _) := bf_ BK558
     have n4_ : Aside0 ((((w75.setCell ⟨gb576, 0, none⟩ (.bool t572)).setCell ⟨gb576, 1, none⟩ (.string t573)).setCell ⟨gb576, 2, none⟩ (.string t574)).heap[gb562]? = _) := bf_ BK562
     have n5_ : Aside0 ((((w75.setCell ⟨gb576, 0, none⟩ (.bool t572)).setCell ⟨gb576, 1, none⟩ (.string t573)).setCell ⟨gb576, 2, none⟩ (.string t574)).heap[gb566]? = _) := bf_ BK566
     have n6_ : Aside0 ((((w75.setCell ⟨gb576, 0, none⟩ (.bool t572)).setCell ⟨gb576, 1, none⟩ (.string t573)).setCell ⟨gb576, 2, none⟩ (.string t574)).heap[gb571]? = _) := bf_ BK571
     have n7_ : Aside0 ((((w75.setCell ⟨gb576, 0, none⟩ (.bool t572)).setCell ⟨gb576, 1, none⟩ (.string t573)).setCell ⟨gb576, 2, none⟩ (.string t574)).heap[gb576]? = some (.cells #[.bool t572, .string t573, .string t574] 35 (0, 0))) := ⟨by (with_reducible repeat (first | refine blk_drewN ?_ _ | refine blk_drew ?_ | refine blk_alloc ?_ _)); refine blk_put (cs := #[.bool t572, .string t573, .string (⟨#[]⟩ : ByteArray)]) ?_ 2 _ rfl; (with_reducible repeat (first | refine blk_drewN ?_ _ | refine blk_drew ?_ | refine blk_alloc ?_ _)); refine blk_put (cs := #[.bool t572, .string (⟨#[]⟩ : ByteArray), .string (⟨#[]⟩ : ByteArray)]) ?_ 1 _ rfl; (with_reducible repeat (first | refine blk_drewN ?_ _ | refine blk_drew ?_ | refine blk_alloc ?_ _)); refine blk_put (cs := #[.bool false, .string (⟨#[]⟩ : ByteArray), .string (⟨#[]⟩ : ByteArray)]) ?_ 0 _ rfl; (with_reducible repeat (first | refine blk_drewN ?_ _ | refine blk_drew ?_ | refine blk_alloc ?_ _)); exact BK576.out⟩
     have n8_ : Aside0 (Below w.heap.size w (((w75.setCell ⟨gb576, 0, none⟩ (.bool t572)).setCell ⟨gb576, 1, none⟩ (.string t573)).setCell ⟨gb576, 2, none⟩ (.string t574))) := (bl_ HB)
     (try clear BK544)
     (try clear BK545)
     (try clear BK546)
     (try clear BK558)
     (try clear BK562)
     (try clear BK566)
     (try clear BK571)
     (try clear BK576)
     (try clear HB)
     generalize (((w75.setCell ⟨gb576, 0, none⟩ (.bool t572)).setCell ⟨gb576, 1, none⟩ (.string t573)).setCell ⟨gb576, 2, none⟩ (.string t574)) = w84 at n0_ n1_ n2_ n3_ n4_ n5_ n6_ n7_ n8_ ⊢
     have BK544 := n0_
     have BK545 := n1_
     have BK546 := n2_
     have BK558 := n3_
     have BK562 := n4_
     have BK566 := n5_
     have BK571 := n6_
     have BK576 := n7_
     have HB := n8_
     clear n0_ n1_ n2_ n3_ n4_ n5_ n6_ n7_ n8_
     replace BK544 := Aside0.mk (blk_drew BK544.out)
     replace BK545 := Aside0.mk (blk_drew BK545.out)
     replace BK546 := Aside0.mk (blk_drew BK546.out)
     replace BK558 := Aside0.mk (blk_drew BK558.out)
     replace BK562 := Aside0.mk (blk_drew BK562.out)
     replace BK566 := Aside0.mk (blk_drew BK566.out)
     replace BK571 := Aside0.mk (blk_drew BK571.out)
     replace BK576 := Aside0.mk (blk_drew BK576.out)
     replace HB := Aside0.mk (below_drew1 HB.out)
     refine start_ (n := 10) (S := fun w' => w'.cell? ⟨gb558, 0, none⟩ = some (.int .i64 t550) ∧ w'.cell? ⟨gb558, 1, none⟩ = some (.int .i64 t551) ∧ w'.cell? ⟨gb558, 2, none⟩ = some (.int .i64 t552) ∧ w'.cell? ⟨gb558, 3, none⟩ = some (.bool t553) ∧ w'.cell? ⟨gb558, 4, none⟩ = some (.string t554) ∧ w'.cell? ⟨gb558, 5, none⟩ = some (.int .i64 t555) ∧ w'.cell? ⟨gb558, 6, none⟩ = some (.int .i64 t556) ∧ w'.cell? ⟨gb558, 7, none⟩ = some (.int .i64 t557) ∧ w'.cell? ⟨gb571, 0, none⟩ = some (.bool t567) ∧ w'.cell? ⟨gb571, 1, none⟩ = some (.string t568) ∧ w'.cell? ⟨gb571, 2, none⟩ = some (.string t569)) (ds := []) #[false, false, false, false, false, false, false, false, false, false] (by kernel_rfl) rfl rfl ⟨bc_ BK558 0, bc_ BK558 1, bc_ BK558 2, bc_ BK558 3, bc_ BK558 4, bc_ BK558 5, bc_ BK558 6, bc_ BK558 7, bc_ BK571 0, bc_ BK571 1, bc_ BK571 2⟩ (fun hHeld => ?_); refine with_tabW florinlaw04_ShowAgain.tab10 florinlaw04_ShowAgain.bits10 (fun HT_ HW_ => ?_)
     generalize w84.drew = w85 at BK544 BK545 BK546 BK558 BK562 BK566 BK571 BK576 HB hHeld ⊢
     refine tk_ 0 46 (bm_ 10 1) HT_ HW_ hHeld rfl (by rintro w' ⟨s0, s1, s2, s3, s4, s5, s6, s7, s8, s9, s10⟩; go_simp; with_reducible rfl) ?_
     refine tk_ 1 47 (bm_ 10 3) HT_ HW_ hHeld rfl (by rintro w' ⟨s0, s1, s2, s3, s4, s5, s6, s7, s8, s9, s10⟩; go_simp; with_reducible rfl) ?_
     refine join_ (σ := Nat) 2 #[true, true, true, true, true, true, true, true, false, false] (fun s_ => [(48, .agg #[.bool t577, .string t578, .int .i64 t579]), (49, .tuple #[.agg #[.bool t580, .string t581, .string t582], .int .i64 t583]), (14, .pointer (some ⟨s_, 0, none⟩)), (45, .tuple #[.agg #[.bool t580, .string t581, .string t582], .int .i64 t583]), (50, .agg #[.bool t580, .string t581, .string t582]), (51, .int .i64 t583)]) (fun s_ w' => (w'.cell? ⟨gb558, 0, none⟩ = some (.int .i64 t550) ∧ w'.cell? ⟨gb558, 1, none⟩ = some (.int .i64 t551) ∧ w'.cell? ⟨gb558, 2, none⟩ = some (.int .i64 t552) ∧ w'.cell? ⟨gb558, 3, none⟩ = some (.bool t553) ∧ w'.cell? ⟨gb558, 4, none⟩ = some (.string t554) ∧ w'.cell? ⟨gb558, 5, none⟩ = some (.int .i64 t555) ∧ w'.cell? ⟨gb558, 6, none⟩ = some (.int .i64 t556) ∧ w'.cell? ⟨gb558, 7, none⟩ = some (.int .i64 t557) ∧ w'.cell? ⟨gb571, 0, none⟩ = some (.bool t567) ∧ w'.cell? ⟨gb571, 1, none⟩ = some (.string t568) ∧ w'.cell? ⟨gb571, 2, none⟩ = some (.string t569)) ∧ (w'.heap[gb544]? = some (.cells #[.bool a0_0, .slice A0_1 l0_1.length c0_1, .int .i64 a0_2] 24 (0, 0))) ∧ (w'.heap[gb545]? = some (.cells #[.bool a1_0, .slice A1_1 l1_1.length c1_1, .int .i64 a1_2] 24 (0, 0))) ∧ (w'.heap[gb546]? = some (.cells #[.int .i64 a2_0, .int .i64 a2_1, .int .i64 a2_2, .int .i64 a2_3, .int .i64 a2_4, .int .i64 a2_5, .int .i64 a2_6] 42 (0, 0))) ∧ (w'.heap[gb558]? = some (.cells #[.int .i64 t550, .int .i64 t551, .int .i64 t552, .bool t553, .string t554, .int .i64 t555, .int .i64 t556, .int .i64 t557] 32 (0, 0))) ∧ (w'.heap[gb562]? = some (.cells #[.bool t559, .string t560, .int .i64 t561] 29 (0, 0))) ∧ (w'.heap[gb566]? = some (.cells #[.bool t563, .string t564, .int .i64 t565] 29 (0, 0))) ∧ (w'.heap[gb571]? = some (.cells #[.bool t567, .string t568, .string t569] 35 (0, 0))) ∧ (w'.heap[gb576]? = some (.cells #[.bool t572, .string t573, .string t574] 35 (0, 0))) ∧ (w'.heap[s_]? = some (.cells #[.bool false, .string (⟨#[]⟩ : ByteArray), .string (⟨#[]⟩ : ByteArray)] 35 (0, 0))) ∧ (w.heap.size ≤ s_) ∧ (w.heap.size ≤ s_) ∧ (gb544 ≠ s_) ∧ (s_ ≠ gb544) ∧ (gb545 ≠ s_) ∧ (s_ ≠ gb545) ∧ (gb546 ≠ s_) ∧ (s_ ≠ gb546) ∧ (gb558 ≠ s_) ∧ (s_ ≠ gb558) ∧ (gb562 ≠ s_) ∧ (s_ ≠ gb562) ∧ (gb566 ≠ s_) ∧ (s_ ≠ gb566) ∧ (gb571 ≠ s_) ∧ (s_ ≠ gb571) ∧ (gb576 ≠ s_) ∧ (s_ ≠ gb576) ∧ (Below w.heap.size w w')) ?_ ?_
     rotate_left
     ·intro hCont
      refine two_ (i := 2) (j := 7) (Ni := some 48) (Nj := some 14) #[true, true, true, false, false, false, false, false, false, false] #[true, true, false, false, false, false, false, true, false, false] rfl rfl rfl rfl (two_of HT_.out (by kernel_rfl)) (by decide) (by decide) (fun K hK => ?_) (fun K hK => ?_)
      ·skip
       refine gs_ Tryd.func23 #[.agg #[.bool t567, .string t568, .string t569]] ?_
       with_reducible refine (show_Vis_Value.calls kj5 t567 t568 t569 t577 t578 t579 _ A31.out).mono ?_
       rintro e w86 ⟨rfl, hb⟩
       refine ⟨_, rfl, ?_⟩
       replace BK544 := bb_ BK544 hb
       replace BK545 := bb_ BK545 hb
       replace BK546 := bb_ BK546 hb
       replace BK558 := bb_ BK558 hb
       replace BK562 := bb_ BK562 hb
       replace BK566 := bb_ BK566 hb
       replace BK571 := bb_ BK571 hb
       replace BK576 := bb_ BK576 hb
       replace HB := Aside0.mk (below_step (bl_ HB).out hb)
       (try clear hb)
       (try clear hb2)
       (try clear hk)
       (try clear hi)
       refine hK.out _ _ ⟨bc_ BK558 0, bc_ BK558 1, bc_ BK558 2, bc_ BK558 3, bc_ BK558 4, bc_ BK558 5, bc_ BK558 6, bc_ BK558 7, bc_ BK571 0, bc_ BK571 1, bc_ BK571 2⟩ (fun hHeld => ?_)
       clear hK K
       refine nm_ 48 ?_
       refine two_ (i := 3) (j := 7) (Ni := some 49) (Nj := some 14) #[true, true, true, true, false, false, false, false, false, false] #[true, true, true, false, false, false, false, true, false, false] rfl rfl rfl rfl (two_of HT_.out (by kernel_rfl)) (by decide) (by decide) (fun K hK => ?_) (fun K hK => ?_)
       ·skip
        refine gs_ Tryd.func13 #[.agg #[.int .i64 t550, .int .i64 t551, .int .i64 t552, .bool t553, .string t554, .int .i64 t555, .int .i64 t556, .int .i64 t557], .agg #[.bool t577, .string t578, .int .i64 t579]] ?_
        with_reducible refine (show_Prec_Apply.calls kj5 t550 t551 t552 t553 t554 t555 t556 t557 t577 t578 t579 t580 t581 t582 t583 _ A32.out).mono ?_
        rintro e w87 ⟨rfl, hb⟩
        refine ⟨_, rfl, ?_⟩
        replace BK544 := bb_ BK544 hb
        replace BK545 := bb_ BK545 hb
        replace BK546 := bb_ BK546 hb
        replace BK558 := bb_ BK558 hb
        replace BK562 := bb_ BK562 hb
        replace BK566 := bb_ BK566 hb
        replace BK571 := bb_ BK571 hb
        replace BK576 := bb_ BK576 hb
        replace HB := Aside0.mk (below_step (bl_ HB).out hb)
        (try clear hb)
        (try clear hb2)
        (try clear hk)
        (try clear hi)
        refine hK.out _ _ ⟨bc_ BK558 0, bc_ BK558 1, bc_ BK558 2, bc_ BK558 3, bc_ BK558 4, bc_ BK558 5, bc_ BK558 6, bc_ BK558 7, bc_ BK571 0, bc_ BK571 1, bc_ BK571 2⟩ (fun hHeld => ?_)
        clear hK K
        refine nm_ 49 ?_
        refine pu_ 4 45 (bm_ 10 31) HT_ ?_
        refine pu_ 5 50 (bm_ 10 63) HT_ ?_
        refine pu_ 6 51 (bm_ 10 127) HT_ ?_
        refine one_ (i := 7) (N := some 14) (bm_ 10 255) rfl rfl (one_of HT_.out (by kernel_rfl)) (by decide) (fun K hK => ?_)
        refine box_step ?hg (N := 14) ?hd (cs := #[.bool false, .string (⟨#[]⟩ : ByteArray), .string (⟨#[]⟩ : ByteArray)]) (t := 35) ?hr ?_; (case hd => rfl); (case hg => rfl); (case hr => first | (go_simp; done) | (go_simp; rfl))
        intro gb584 hg w88 hbox hb
        have n0_ := bb_ BK544 hb
        have n1_ := bb_ BK545 hb
        have n2_ := bb_ BK546 hb
        have n3_ := bb_ BK558 hb
        have n4_ := bb_ BK562 hb
        have n5_ := bb_ BK566 hb
        have n6_ := bb_ BK571 hb
        have n7_ := bb_ BK576 hb
        have n8_ := Aside0.mk (below_step (bl_ HB).out hb)
        have n9_ := Aside0.mk (hbox)
        have n10_ := sz_ HB hg
        have n11_ := sz_ HB hg
        have n12_ := na_ BK544 hg
        have n13_ := nb_ BK544 hg
        have n14_ := na_ BK545 hg
        have n15_ := nb_ BK545 hg
        have n16_ := na_ BK546 hg
        have n17_ := nb_ BK546 hg
        have n18_ := na_ BK558 hg
        have n19_ := nb_ BK558 hg
        have n20_ := na_ BK562 hg
        have n21_ := nb_ BK562 hg
        have n22_ := na_ BK566 hg
        have n23_ := nb_ BK566 hg
        have n24_ := na_ BK571 hg
        have n25_ := nb_ BK571 hg
        have n26_ := na_ BK576 hg
        have n27_ := nb_ BK576 hg
        clear BK544
        clear BK545
        clear BK546
        clear BK558
        clear BK562
        clear BK566
        clear BK571
        clear BK576
        clear HB
        have BK544 := n0_
        have BK545 := n1_
        have BK546 := n2_
        have BK558 := n3_
        have BK562 := n4_
        have BK566 := n5_
        have BK571 := n6_
        have BK576 := n7_
        have HB := n8_
        have BK584 := n9_
        have GW584 := n10_
        have GE584 := n11_
        have NB544_584 := n12_
        have NB584_544 := n13_
        have NB545_584 := n14_
        have NB584_545 := n15_
        have NB546_584 := n16_
        have NB584_546 := n17_
        have NB558_584 := n18_
        have NB584_558 := n19_
        have NB562_584 := n20_
        have NB584_562 := n21_
        have NB566_584 := n22_
        have NB584_566 := n23_
        have NB571_584 := n24_
        have NB584_571 := n25_
        have NB576_584 := n26_
        have NB584_576 := n27_
        clear n0_ n1_ n2_ n3_ n4_ n5_ n6_ n7_ n8_ n9_ n10_ n11_ n12_ n13_ n14_ n15_ n16_ n17_ n18_ n19_ n20_ n21_ n22_ n23_ n24_ n25_ n26_ n27_
        clear hb hbox hg
        refine hK.out _ _ ⟨bc_ BK558 0, bc_ BK558 1, bc_ BK558 2, bc_ BK558 3, bc_ BK558 4, bc_ BK558 5, bc_ BK558 6, bc_ BK558 7, bc_ BK571 0, bc_ BK571 1, bc_ BK571 2⟩ (fun hHeld => ?_)
        clear hK K
        refine nm_ 14 ?_
        exact norm_ (by simp only [putAll, Act.put, List.setIfInBounds_toArray, List.set_cons_zero, List.set_cons_succ]) (hCont (gb584) _ ⟨hHeld, (by (with_reducible repeat (first | refine blk_drewN ?_ _ | refine blk_drew ?_ | refine blk_alloc ?_ _)); exact BK544.out), (by (with_reducible repeat (first | refine blk_drewN ?_ _ | refine blk_drew ?_ | refine blk_alloc ?_ _)); exact BK545.out), (by (with_reducible repeat (first | refine blk_drewN ?_ _ | refine blk_drew ?_ | refine blk_alloc ?_ _)); exact BK546.out), (by (with_reducible repeat (first | refine blk_drewN ?_ _ | refine blk_drew ?_ | refine blk_alloc ?_ _)); exact BK558.out), (by (with_reducible repeat (first | refine blk_drewN ?_ _ | refine blk_drew ?_ | refine blk_alloc ?_ _)); exact BK562.out), (by (with_reducible repeat (first | refine blk_drewN ?_ _ | refine blk_drew ?_ | refine blk_alloc ?_ _)); exact BK566.out), (by (with_reducible repeat (first | refine blk_drewN ?_ _ | refine blk_drew ?_ | refine blk_alloc ?_ _)); exact BK571.out), (by (with_reducible repeat (first | refine blk_drewN ?_ _ | refine blk_drew ?_ | refine blk_alloc ?_ _)); exact BK576.out), (by (with_reducible repeat (first | refine blk_drewN ?_ _ | refine blk_drew ?_ | refine blk_alloc ?_ _)); exact BK584.out), GW584.out, GE584.out, NB544_584.out, NB584_544.out, NB545_584.out, NB584_545.out, NB546_584.out, NB584_546.out, NB558_584.out, NB584_558.out, NB562_584.out, NB584_562.out, NB566_584.out, NB584_566.out, NB571_584.out, NB584_571.out, NB576_584.out, NB584_576.out, (bl_ HB).out⟩)
       ·skip
        refine box_step ?hg (N := 14) ?hd (cs := #[.bool false, .string (⟨#[]⟩ : ByteArray), .string (⟨#[]⟩ : ByteArray)]) (t := 35) ?hr ?_; (case hd => rfl); (case hg => rfl); (case hr => first | (go_simp; done) | (go_simp; rfl))
        intro gb584 hg w87 hbox hb
        have n0_ := bb_ BK544 hb
        have n1_ := bb_ BK545 hb
        have n2_ := bb_ BK546 hb
        have n3_ := bb_ BK558 hb
        have n4_ := bb_ BK562 hb
        have n5_ := bb_ BK566 hb
        have n6_ := bb_ BK571 hb
        have n7_ := bb_ BK576 hb
        have n8_ := Aside0.mk (below_step (bl_ HB).out hb)
        have n9_ := Aside0.mk (hbox)
        have n10_ := sz_ HB hg
        have n11_ := sz_ HB hg
        have n12_ := na_ BK544 hg
        have n13_ := nb_ BK544 hg
        have n14_ := na_ BK545 hg
        have n15_ := nb_ BK545 hg
        have n16_ := na_ BK546 hg
        have n17_ := nb_ BK546 hg
        have n18_ := na_ BK558 hg
        have n19_ := nb_ BK558 hg
        have n20_ := na_ BK562 hg
        have n21_ := nb_ BK562 hg
        have n22_ := na_ BK566 hg
        have n23_ := nb_ BK566 hg
        have n24_ := na_ BK571 hg
        have n25_ := nb_ BK571 hg
        have n26_ := na_ BK576 hg
        have n27_ := nb_ BK576 hg
        clear BK544
        clear BK545
        clear BK546
        clear BK558
        clear BK562
        clear BK566
        clear BK571
        clear BK576
        clear HB
        have BK544 := n0_
        have BK545 := n1_
        have BK546 := n2_
        have BK558 := n3_
        have BK562 := n4_
        have BK566 := n5_
        have BK571 := n6_
        have BK576 := n7_
        have HB := n8_
        have BK584 := n9_
        have GW584 := n10_
        have GE584 := n11_
        have NB544_584 := n12_
        have NB584_544 := n13_
        have NB545_584 := n14_
        have NB584_545 := n15_
        have NB546_584 := n16_
        have NB584_546 := n17_
        have NB558_584 := n18_
        have NB584_558 := n19_
        have NB562_584 := n20_
        have NB584_562 := n21_
        have NB566_584 := n22_
        have NB584_566 := n23_
        have NB571_584 := n24_
        have NB584_571 := n25_
        have NB576_584 := n26_
        have NB584_576 := n27_
        clear n0_ n1_ n2_ n3_ n4_ n5_ n6_ n7_ n8_ n9_ n10_ n11_ n12_ n13_ n14_ n15_ n16_ n17_ n18_ n19_ n20_ n21_ n22_ n23_ n24_ n25_ n26_ n27_
        clear hb hbox hg
        refine hK.out _ _ ⟨bc_ BK558 0, bc_ BK558 1, bc_ BK558 2, bc_ BK558 3, bc_ BK558 4, bc_ BK558 5, bc_ BK558 6, bc_ BK558 7, bc_ BK571 0, bc_ BK571 1, bc_ BK571 2⟩ (fun hHeld => ?_)
        clear hK K
        refine nm_ 14 ?_
        refine one_ (i := 3) (N := some 49) (bm_ 10 143) rfl rfl (one_of HT_.out (by kernel_rfl)) (by decide) (fun K hK => ?_)
        refine gs_ Tryd.func13 #[.agg #[.int .i64 t550, .int .i64 t551, .int .i64 t552, .bool t553, .string t554, .int .i64 t555, .int .i64 t556, .int .i64 t557], .agg #[.bool t577, .string t578, .int .i64 t579]] ?_
        with_reducible refine (show_Prec_Apply.calls kj5 t550 t551 t552 t553 t554 t555 t556 t557 t577 t578 t579 t580 t581 t582 t583 _ A32.out).mono ?_
        rintro e w88 ⟨rfl, hb⟩
        refine ⟨_, rfl, ?_⟩
        replace BK544 := bb_ BK544 hb
        replace BK545 := bb_ BK545 hb
        replace BK546 := bb_ BK546 hb
        replace BK558 := bb_ BK558 hb
        replace BK562 := bb_ BK562 hb
        replace BK566 := bb_ BK566 hb
        replace BK571 := bb_ BK571 hb
        replace BK576 := bb_ BK576 hb
        replace BK584 := bb_ BK584 hb
        replace HB := Aside0.mk (below_step (bl_ HB).out hb)
        (try clear hb)
        (try clear hb2)
        (try clear hk)
        (try clear hi)
        refine hK.out _ _ ⟨bc_ BK558 0, bc_ BK558 1, bc_ BK558 2, bc_ BK558 3, bc_ BK558 4, bc_ BK558 5, bc_ BK558 6, bc_ BK558 7, bc_ BK571 0, bc_ BK571 1, bc_ BK571 2⟩ (fun hHeld => ?_)
        clear hK K
        refine nm_ 49 ?_
        refine pu_ 4 45 (bm_ 10 159) HT_ ?_
        refine pu_ 5 50 (bm_ 10 191) HT_ ?_
        refine pu_ 6 51 (bm_ 10 255) HT_ ?_
        exact norm_ (by simp only [putAll, Act.put, List.setIfInBounds_toArray, List.set_cons_zero, List.set_cons_succ]) (hCont (gb584) _ ⟨hHeld, (by (with_reducible repeat (first | refine blk_drewN ?_ _ | refine blk_drew ?_ | refine blk_alloc ?_ _)); exact BK544.out), (by (with_reducible repeat (first | refine blk_drewN ?_ _ | refine blk_drew ?_ | refine blk_alloc ?_ _)); exact BK545.out), (by (with_reducible repeat (first | refine blk_drewN ?_ _ | refine blk_drew ?_ | refine blk_alloc ?_ _)); exact BK546.out), (by (with_reducible repeat (first | refine blk_drewN ?_ _ | refine blk_drew ?_ | refine blk_alloc ?_ _)); exact BK558.out), (by (with_reducible repeat (first | refine blk_drewN ?_ _ | refine blk_drew ?_ | refine blk_alloc ?_ _)); exact BK562.out), (by (with_reducible repeat (first | refine blk_drewN ?_ _ | refine blk_drew ?_ | refine blk_alloc ?_ _)); exact BK566.out), (by (with_reducible repeat (first | refine blk_drewN ?_ _ | refine blk_drew ?_ | refine blk_alloc ?_ _)); exact BK571.out), (by (with_reducible repeat (first | refine blk_drewN ?_ _ | refine blk_drew ?_ | refine blk_alloc ?_ _)); exact BK576.out), (by (with_reducible repeat (first | refine blk_drewN ?_ _ | refine blk_drew ?_ | refine blk_alloc ?_ _)); exact BK584.out), GW584.out, GE584.out, NB544_584.out, NB584_544.out, NB545_584.out, NB584_545.out, NB546_584.out, NB584_546.out, NB558_584.out, NB584_558.out, NB562_584.out, NB584_562.out, NB566_584.out, NB584_566.out, NB571_584.out, NB584_571.out, NB576_584.out, NB584_576.out, (bl_ HB).out⟩)
      ·skip
       refine box_step ?hg (N := 14) ?hd (cs := #[.bool false, .string (⟨#[]⟩ : ByteArray), .string (⟨#[]⟩ : ByteArray)]) (t := 35) ?hr ?_; (case hd => rfl); (case hg => rfl); (case hr => first | (go_simp; done) | (go_simp; rfl))
       intro gb584 hg w86 hbox hb
       have n0_ := bb_ BK544 hb
       have n1_ := bb_ BK545 hb
       have n2_ := bb_ BK546 hb
       have n3_ := bb_ BK558 hb
       have n4_ := bb_ BK562 hb
       have n5_ := bb_ BK566 hb
       have n6_ := bb_ BK571 hb
       have n7_ := bb_ BK576 hb
       have n8_ := Aside0.mk (below_step (bl_ HB).out hb)
       have n9_ := Aside0.mk (hbox)
       have n10_ := sz_ HB hg
       have n11_ := sz_ HB hg
       have n12_ := na_ BK544 hg
       have n13_ := nb_ BK544 hg
       have n14_ := na_ BK545 hg
       have n15_ := nb_ BK545 hg
       have n16_ := na_ BK546 hg
       have n17_ := nb_ BK546 hg
       have n18_ := na_ BK558 hg
       have n19_ := nb_ BK558 hg
       have n20_ := na_ BK562 hg
       have n21_ := nb_ BK562 hg
       have n22_ := na_ BK566 hg
       have n23_ := nb_ BK566 hg
       have n24_ := na_ BK571 hg
       have n25_ := nb_ BK571 hg
       have n26_ := na_ BK576 hg
       have n27_ := nb_ BK576 hg
       clear BK544
       clear BK545
       clear BK546
       clear BK558
       clear BK562
       clear BK566
       clear BK571
       clear BK576
       clear HB
       have BK544 := n0_
       have BK545 := n1_
       have BK546 := n2_
       have BK558 := n3_
       have BK562 := n4_
       have BK566 := n5_
       have BK571 := n6_
       have BK576 := n7_
       have HB := n8_
       have BK584 := n9_
       have GW584 := n10_
       have GE584 := n11_
       have NB544_584 := n12_
       have NB584_544 := n13_
       have NB545_584 := n14_
       have NB584_545 := n15_
       have NB546_584 := n16_
       have NB584_546 := n17_
       have NB558_584 := n18_
       have NB584_558 := n19_
       have NB562_584 := n20_
       have NB584_562 := n21_
       have NB566_584 := n22_
       have NB584_566 := n23_
       have NB571_584 := n24_
       have NB584_571 := n25_
       have NB576_584 := n26_
       have NB584_576 := n27_
       clear n0_ n1_ n2_ n3_ n4_ n5_ n6_ n7_ n8_ n9_ n10_ n11_ n12_ n13_ n14_ n15_ n16_ n17_ n18_ n19_ n20_ n21_ n22_ n23_ n24_ n25_ n26_ n27_
       clear hb hbox hg
       refine hK.out _ _ ⟨bc_ BK558 0, bc_ BK558 1, bc_ BK558 2, bc_ BK558 3, bc_ BK558 4, bc_ BK558 5, bc_ BK558 6, bc_ BK558 7, bc_ BK571 0, bc_ BK571 1, bc_ BK571 2⟩ (fun hHeld => ?_)
       clear hK K
       refine nm_ 14 ?_
       refine one_ (i := 2) (N := some 48) (bm_ 10 135) rfl rfl (one_of HT_.out (by kernel_rfl)) (by decide) (fun K hK => ?_)
       refine gs_ Tryd.func23 #[.agg #[.bool t567, .string t568, .string t569]] ?_
       with_reducible refine (show_Vis_Value.calls kj5 t567 t568 t569 t577 t578 t579 _ A31.out).mono ?_
       rintro e w87 ⟨rfl, hb⟩
       refine ⟨_, rfl, ?_⟩
       replace BK544 := bb_ BK544 hb
       replace BK545 := bb_ BK545 hb
       replace BK546 := bb_ BK546 hb
       replace BK558 := bb_ BK558 hb
       replace BK562 := bb_ BK562 hb
       replace BK566 := bb_ BK566 hb
       replace BK571 := bb_ BK571 hb
       replace BK576 := bb_ BK576 hb
       replace BK584 := bb_ BK584 hb
       replace HB := Aside0.mk (below_step (bl_ HB).out hb)
       (try clear hb)
       (try clear hb2)
       (try clear hk)
       (try clear hi)
       refine hK.out _ _ ⟨bc_ BK558 0, bc_ BK558 1, bc_ BK558 2, bc_ BK558 3, bc_ BK558 4, bc_ BK558 5, bc_ BK558 6, bc_ BK558 7, bc_ BK571 0, bc_ BK571 1, bc_ BK571 2⟩ (fun hHeld => ?_)
       clear hK K
       refine nm_ 48 ?_
       refine one_ (i := 3) (N := some 49) (bm_ 10 143) rfl rfl (one_of HT_.out (by kernel_rfl)) (by decide) (fun K hK => ?_)
       refine gs_ Tryd.func13 #[.agg #[.int .i64 t550, .int .i64 t551, .int .i64 t552, .bool t553, .string t554, .int .i64 t555, .int .i64 t556, .int .i64 t557], .agg #[.bool t577, .string t578, .int .i64 t579]] ?_
       with_reducible refine (show_Prec_Apply.calls kj5 t550 t551 t552 t553 t554 t555 t556 t557 t577 t578 t579 t580 t581 t582 t583 _ A32.out).mono ?_
       rintro e w88 ⟨rfl, hb⟩
       refine ⟨_, rfl, ?_⟩
       replace BK544 := bb_ BK544 hb
       replace BK545 := bb_ BK545 hb
       replace BK546 := bb_ BK546 hb
       replace BK558 := bb_ BK558 hb
       replace BK562 := bb_ BK562 hb
       replace BK566 := bb_ BK566 hb
       replace BK571 := bb_ BK571 hb
       replace BK576 := bb_ BK576 hb
       replace BK584 := bb_ BK584 hb
       replace HB := Aside0.mk (below_step (bl_ HB).out hb)
       (try clear hb)
       (try clear hb2)
       (try clear hk)
       (try clear hi)
       refine hK.out _ _ ⟨bc_ BK558 0, bc_ BK558 1, bc_ BK558 2, bc_ BK558 3, bc_ BK558 4, bc_ BK558 5, bc_ BK558 6, bc_ BK558 7, bc_ BK571 0, bc_ BK571 1, bc_ BK571 2⟩ (fun hHeld => ?_)
       clear hK K
       refine nm_ 49 ?_
       refine pu_ 4 45 (bm_ 10 159) HT_ ?_
       refine pu_ 5 50 (bm_ 10 191) HT_ ?_
       refine pu_ 6 51 (bm_ 10 255) HT_ ?_
       exact norm_ (by simp only [putAll, Act.put, List.setIfInBounds_toArray, List.set_cons_zero, List.set_cons_succ]) (hCont (gb584) _ ⟨hHeld, (by (with_reducible repeat (first | refine blk_drewN ?_ _ | refine blk_drew ?_ | refine blk_alloc ?_ _)); exact BK544.out), (by (with_reducible repeat (first | refine blk_drewN ?_ _ | refine blk_drew ?_ | refine blk_alloc ?_ _)); exact BK545.out), (by (with_reducible repeat (first | refine blk_drewN ?_ _ | refine blk_drew ?_ | refine blk_alloc ?_ _)); exact BK546.out), (by (with_reducible repeat (first | refine blk_drewN ?_ _ | refine blk_drew ?_ | refine blk_alloc ?_ _)); exact BK558.out), (by (with_reducible repeat (first | refine blk_drewN ?_ _ | refine blk_drew ?_ | refine blk_alloc ?_ _)); exact BK562.out), (by (with_reducible repeat (first | refine blk_drewN ?_ _ | refine blk_drew ?_ | refine blk_alloc ?_ _)); exact BK566.out), (by (with_reducible repeat (first | refine blk_drewN ?_ _ | refine blk_drew ?_ | refine blk_alloc ?_ _)); exact BK571.out), (by (with_reducible repeat (first | refine blk_drewN ?_ _ | refine blk_drew ?_ | refine blk_alloc ?_ _)); exact BK576.out), (by (with_reducible repeat (first | refine blk_drewN ?_ _ | refine blk_drew ?_ | refine blk_alloc ?_ _)); exact BK584.out), GW584.out, GE584.out, NB544_584.out, NB584_544.out, NB545_584.out, NB584_545.out, NB546_584.out, NB584_546.out, NB558_584.out, NB584_558.out, NB562_584.out, NB584_562.out, NB566_584.out, NB584_566.out, NB571_584.out, NB584_571.out, NB576_584.out, NB584_576.out, (bl_ HB).out⟩)
     rintro gb584 w89 ⟨hS_, h0_, h1_, h2_, h3_, h4_, h5_, h6_, h7_, h8_, h9_, h10_, h11_, h12_, h13_, h14_, h15_, h16_, h17_, h18_, h19_, h20_, h21_, h22_, h23_, h24_, h25_, h26_, h27_⟩
     have n0_ : Aside0 (w89.heap[gb544]? = some (.cells #[.bool a0_0, .slice A0_1 l0_1.length c0_1, .int .i64 a0_2] 24 (0, 0))) := ⟨h0_⟩
     have n1_ : Aside0 (w89.heap[gb545]? = some (.cells #[.bool a1_0, .slice A1_1 l1_1.length c1_1, .int .i64 a1_2] 24 (0, 0))) := ⟨h1_⟩
     have n2_ : Aside0 (w89.heap[gb546]? = some (.cells #[.int .i64 a2_0, .int .i64 a2_1, .int .i64 a2_2, .int .i64 a2_3, .int .i64 a2_4, .int .i64 a2_5, .int .i64 a2_6] 42 (0, 0))) := ⟨h2_⟩
     have n3_ : Aside0 (w89.heap[gb558]? = some (.cells #[.int .i64 t550, .int .i64 t551, .int .i64 t552, .bool t553, .string t554, .int .i64 t555, .int .i64 t556, .int .i64 t557] 32 (0, 0))) := ⟨h3_⟩
     have n4_ : Aside0 (w89.heap[gb562]? = some (.cells #[.bool t559, .string t560, .int .i64 t561] 29 (0, 0))) := ⟨h4_⟩
     have n5_ : Aside0 (w89.heap[gb566]? = some (.cells #[.bool t563, .string t564, .int .i64 t565] 29 (0, 0))) := ⟨h5_⟩
     have n6_ : Aside0 (w89.heap[gb571]? = some (.cells #[.bool t567, .string t568, .string t569] 35 (0, 0))) := ⟨h6_⟩
     have n7_ : Aside0 (w89.heap[gb576]? = some (.cells #[.bool t572, .string t573, .string t574] 35 (0, 0))) := ⟨h7_⟩
     have n8_ : Aside0 (w89.heap[gb584]? = some (.cells #[.bool false, .string (⟨#[]⟩ : ByteArray), .string (⟨#[]⟩ : ByteArray)] 35 (0, 0))) := ⟨h8_⟩
     have n9_ : Aside0 (w.heap.size ≤ gb584) := ⟨h9_⟩
     have n10_ : Aside0 (w.heap.size ≤ gb584) := ⟨h10_⟩
     have n11_ : Aside0 (gb544 ≠ gb584) := ⟨h11_⟩
     have n12_ : Aside0 (gb584 ≠ gb544) := ⟨h12_⟩
     have n13_ : Aside0 (gb545 ≠ gb584) := ⟨h13_⟩
     have n14_ : Aside0 (gb584 ≠ gb545) := ⟨h14_⟩
     have n15_ : Aside0 (gb546 ≠ gb584) := ⟨h15_⟩
     have n16_ : Aside0 (gb584 ≠ gb546) := ⟨h16_⟩
     have n17_ : Aside0 (gb558 ≠ gb584) := ⟨h17_⟩
     have n18_ : Aside0 (gb584 ≠ gb558) := ⟨h18_⟩
     have n19_ : Aside0 (gb562 ≠ gb584) := ⟨h19_⟩
     have n20_ : Aside0 (gb584 ≠ gb562) := ⟨h20_⟩
     have n21_ : Aside0 (gb566 ≠ gb584) := ⟨h21_⟩
     have n22_ : Aside0 (gb584 ≠ gb566) := ⟨h22_⟩
     have n23_ : Aside0 (gb571 ≠ gb584) := ⟨h23_⟩
     have n24_ : Aside0 (gb584 ≠ gb571) := ⟨h24_⟩
     have n25_ : Aside0 (gb576 ≠ gb584) := ⟨h25_⟩
     have n26_ : Aside0 (gb584 ≠ gb576) := ⟨h26_⟩
     have n27_ : Aside0 (Below w.heap.size w w89) := ⟨h27_⟩
     clear BK544
     clear BK545
     clear BK546
     clear BK558
     clear BK562
     clear BK566
     clear BK571
     clear BK576
     clear HB
     clear h0_ h1_ h2_ h3_ h4_ h5_ h6_ h7_ h8_ h9_ h10_ h11_ h12_ h13_ h14_ h15_ h16_ h17_ h18_ h19_ h20_ h21_ h22_ h23_ h24_ h25_ h26_ h27_
     have BK544 := n0_
     have BK545 := n1_
     have BK546 := n2_
     have BK558 := n3_
     have BK562 := n4_
     have BK566 := n5_
     have BK571 := n6_
     have BK576 := n7_
     have BK584 := n8_
     have GW584 := n9_
     have GE584 := n10_
     have NB544_584 := n11_
     have NB584_544 := n12_
     have NB545_584 := n13_
     have NB584_545 := n14_
     have NB546_584 := n15_
     have NB584_546 := n16_
     have NB558_584 := n17_
     have NB584_558 := n18_
     have NB562_584 := n19_
     have NB584_562 := n20_
     have NB566_584 := n21_
     have NB584_566 := n22_
     have NB571_584 := n23_
     have NB584_571 := n24_
     have NB576_584 := n25_
     have NB584_576 := n26_
     have HB := n27_
     clear n0_ n1_ n2_ n3_ n4_ n5_ n6_ n7_ n8_ n9_ n10_ n11_ n12_ n13_ n14_ n15_ n16_ n17_ n18_ n19_ n20_ n21_ n22_ n23_ n24_ n25_ n26_ n27_
     have hHeld : w89.cell? ⟨gb558, 0, none⟩ = some (.int .i64 t550) ∧ w89.cell? ⟨gb558, 1, none⟩ = some (.int .i64 t551) ∧ w89.cell? ⟨gb558, 2, none⟩ = some (.int .i64 t552) ∧ w89.cell? ⟨gb558, 3, none⟩ = some (.bool t553) ∧ w89.cell? ⟨gb558, 4, none⟩ = some (.string t554) ∧ w89.cell? ⟨gb558, 5, none⟩ = some (.int .i64 t555) ∧ w89.cell? ⟨gb558, 6, none⟩ = some (.int .i64 t556) ∧ w89.cell? ⟨gb558, 7, none⟩ = some (.int .i64 t557) ∧ w89.cell? ⟨gb571, 0, none⟩ = some (.bool t567) ∧ w89.cell? ⟨gb571, 1, none⟩ = some (.string t568) ∧ w89.cell? ⟨gb571, 2, none⟩ = some (.string t569) := hS_
     refine norm_ (a' := ?_) ?_ ?_
     rotate_left
     ·simp only [putAll, Act.put, List.setIfInBounds_toArray, List.set_cons_zero, List.set_cons_succ]
      rfl
     refine one_ (i := 8) (N := none) (bm_ 10 511) rfl rfl (one_of HT_.out (by kernel_rfl)) (by decide) (fun K hK => ?_)
     have hs90 : w89.cell? ⟨gb584, 0, none⟩ = some (.bool false) := bc_ BK584 0
     have hfs90 := blk_frozen BK584.out 0
     have hns90_0 := NB544_584.out
     have hns90_1 := NB545_584.out
     have hns90_2 := NB546_584.out
     have hns90_3 := NB558_584.out
     have hns90_4 := NB562_584.out
     have hns90_5 := NB566_584.out
     have hns90_6 := NB571_584.out
     have hns90_7 := NB576_584.out
     have hms90_0 := NB584_544.out
     have hms90_1 := NB584_545.out
     have hms90_2 := NB584_546.out
     have hms90_3 := NB584_558.out
     have hms90_4 := NB584_562.out
     have hms90_5 := NB584_566.out
     have hms90_6 := NB584_571.out
     have hms90_7 := NB584_576.out
     have hs91 : w89.cell? ⟨gb584, 1, none⟩ = some (.string (⟨#[]⟩ : ByteArray)) := bc_ BK584 1
     have hfs91 := blk_frozen BK584.out 1
     have hns91_0 := NB544_584.out
     have hns91_1 := NB545_584.out
     have hns91_2 := NB546_584.out
     have hns91_3 := NB558_584.out
     have hns91_4 := NB562_584.out
     have hns91_5 := NB566_584.out
     have hns91_6 := NB571_584.out
     have hns91_7 := NB576_584.out
     have hms91_0 := NB584_544.out
     have hms91_1 := NB584_545.out
     have hms91_2 := NB584_546.out
     have hms91_3 := NB584_558.out
     have hms91_4 := NB584_562.out
     have hms91_5 := NB584_566.out
     have hms91_6 := NB584_571.out
     have hms91_7 := NB584_576.out
     have hs92 : w89.cell? ⟨gb584, 2, none⟩ = some (.string (⟨#[]⟩ : ByteArray)) := bc_ BK584 2
     have hfs92 := blk_frozen BK584.out 2
     have hns92_0 := NB544_584.out
     have hns92_1 := NB545_584.out
     have hns92_2 := NB546_584.out
     have hns92_3 := NB558_584.out
     have hns92_4 := NB562_584.out
     have hns92_5 := NB566_584.out
     have hns92_6 := NB571_584.out
     have hns92_7 := NB576_584.out
     have hms92_0 := NB584_544.out
     have hms92_1 := NB584_545.out
     have hms92_2 := NB584_546.out
     have hms92_3 := NB584_558.out
     have hms92_4 := NB584_562.out
     have hms92_5 := NB584_566.out
     have hms92_6 := NB584_571.out
     have hms92_7 := NB584_576.out
     refine skip_ (w1 := ?_) (by rfl) rfl ?_ ?_
     rotate_left
     ·go_simp
      rfl
     refine hK.out _ _ ⟨((cell_far (p := ⟨gb584, _, none⟩) NB558_584.out _).trans (((cell_far (p := ⟨gb584, _, none⟩) NB558_584.out _).trans (((cell_far (p := ⟨gb584, _, none⟩) NB558_584.out _).trans (hHeld.1)))))), ((cell_far (p := ⟨gb584, _, none⟩) NB558_584.out _).trans (((cell_far (p := ⟨gb584, _, none⟩) NB558_584.out _).trans (((cell_far (p := ⟨gb584, _, none⟩) NB558_584.out _).trans (hHeld.2.1)))))), ((cell_far (p := ⟨gb584, _, none⟩) NB558_584.out _).trans (((cell_far (p := ⟨gb584, _, none⟩) NB558_584.out _).trans (((cell_far (p := ⟨gb584, _, none⟩) NB558_584.out _).trans (hHeld.2.2.1)))))), ((cell_far (p := ⟨gb584, _, none⟩) NB558_584.out _).trans (((cell_far (p := ⟨gb584, _, none⟩) NB558_584.out _).trans (((cell_far (p := ⟨gb584, _, none⟩) NB558_584.out _).trans (hHeld.2.2.2.1)))))), ((cell_far (p := ⟨gb584, _, none⟩) NB558_584.out _).trans (((cell_far (p := ⟨gb584, _, none⟩) NB558_584.out _).trans (((cell_far (p := ⟨gb584, _, none⟩) NB558_584.out _).trans (hHeld.2.2.2.2.1)))))), ((cell_far (p := ⟨gb584, _, none⟩) NB558_584.out _).trans (((cell_far (p := ⟨gb584, _, none⟩) NB558_584.out _).trans (((cell_far (p := ⟨gb584, _, none⟩) NB558_584.out _).trans (hHeld.2.2.2.2.2.1)))))), ((cell_far (p := ⟨gb584, _, none⟩) NB558_584.out _).trans (((cell_far (p := ⟨gb584, _, none⟩) NB558_584.out _).trans (((cell_far (p := ⟨gb584, _, none⟩) NB558_584.out _).trans (hHeld.2.2.2.2.2.2.1)))))), ((cell_far (p := ⟨gb584, _, none⟩) NB558_584.out _).trans (((cell_far (p := ⟨gb584, _, none⟩) NB558_584.out _).trans (((cell_far (p := ⟨gb584, _, none⟩) NB558_584.out _).trans (hHeld.2.2.2.2.2.2.2.1)))))), ((cell_far (p := ⟨gb584, _, none⟩) NB571_584.out _).trans (((cell_far (p := ⟨gb584, _, none⟩) NB571_584.out _).trans (((cell_far (p := ⟨gb584, _, none⟩) NB571_584.out _).trans (hHeld.2.2.2.2.2.2.2.2.1)))))), ((cell_far (p := ⟨gb584, _, none⟩) NB571_584.out _).trans (((cell_far (p := ⟨gb584, _, none⟩) NB571_584.out _).trans (((cell_far (p := ⟨gb584, _, none⟩) NB571_584.out _).trans (hHeld.2.2.2.2.2.2.2.2.2.1)))))), ((cell_far (p := ⟨gb584, _, none⟩) NB571_584.out _).trans (((cell_far (p := ⟨gb584, _, none⟩) NB571_584.out _).trans (((cell_far (p := ⟨gb584, _, none⟩) NB571_584.out _).trans (hHeld.2.2.2.2.2.2.2.2.2.2))))))⟩ (fun hHeld => ?_)
     clear hK K
     refine pu_ 9 15 (bm_ 10 1023) HT_ ?_
     refine done_ (done_of HT_.out (by kernel_rfl)) ?_
     go_upto_region 11 with (fail)
     go_cut [16] (fun v16 wc => ∃ (kq : Nat) (x16_32 : Int), v16 = .int .i64 x16_32 ∧ Aside0 (florinlaw04_ShowAgain.j1 kq t570 t575 t583 x16_32 t567 t568 t569 t572 t573 t574 t580 t581 t582 = some r) ∧ Aside0 (kq ≤ kj5) ∧ Aside0 (wc.heap[gb544]? = some (.cells #[.bool a0_0, (.slice A0_1 l0_1.length c0_1), .int .i64 a0_2] 24 (0, 0))) ∧ Aside0 (wc.heap[gb545]? = some (.cells #[.bool a1_0, (.slice A1_1 l1_1.length c1_1), .int .i64 a1_2] 24 (0, 0))) ∧ Aside0 (wc.heap[gb546]? = some (.cells #[.int .i64 a2_0, .int .i64 a2_1, .int .i64 a2_2, .int .i64 a2_3, .int .i64 a2_4, .int .i64 a2_5, .int .i64 a2_6] 42 (0, 0))) ∧ Aside0 (wc.heap[gb558]? = some (.cells #[.int .i64 t550, .int .i64 t551, .int .i64 t552, .bool t553, .string t554, .int .i64 t555, .int .i64 t556, .int .i64 t557] 32 (0, 0))) ∧ Aside0 (wc.heap[gb562]? = some (.cells #[.bool t559, .string t560, .int .i64 t561] 29 (0, 0))) ∧ Aside0 (wc.heap[gb566]? = some (.cells #[.bool t563, .string t564, .int .i64 t565] 29 (0, 0))) ∧ Aside0 (wc.heap[gb571]? = some (.cells #[.bool t567, .string t568, .string t569] 35 (0, 0))) ∧ Aside0 (wc.heap[gb576]? = some (.cells #[.bool t572, .string t573, .string t574] 35 (0, 0))) ∧ Aside0 (wc.heap[gb584]? = some (.cells #[.bool t580, .string t581, .string t582] 35 (0, 0))) ∧ Aside0 (Below w.heap.size w wc))
     case first =>
      have H := HC33.out
      clear HC33
      replace H := Option.bind_eq_some_iff.mp H
      obtain ⟨t585, A930, H⟩ := H
      replace H : (florinlaw04_ShowAgain.j1 kj5 t570 t575 t583 t585 t567 t568 t569 t572 t573 t574 t580 t581 t582) = some r := H
      have A93 := Aside0.mk A930
      clear A930
      have H' := Aside0.mk H
      clear H
      have hnb94 := NB562_544.out
      have hnc94 := NB544_562.out
      have hnb95 := NB562_545.out
      have hnc95 := NB545_562.out
      have hnb96 := NB562_546.out
      have hnc96 := NB546_562.out
      have hnb97 := NB562_558.out
      have hnc97 := NB558_562.out
      have hnb98 := NB562_566.out
      have hnc98 := NB566_562.out
      have hnb99 := NB562_571.out
      have hnc99 := NB571_562.out
      have hnb100 := NB562_576.out
      have hnc100 := NB576_562.out
      have hnb101 := NB562_584.out
      have hnc101 := NB584_562.out
      obtain ⟨hcz102_0, hcz102_1, hcz102_2, hfz102_0, hfz102_1, hfz102_2⟩ := bo3_ BK562
      have hnb103 := NB566_544.out
      have hnc103 := NB544_566.out
      have hnb104 := NB566_545.out
      have hnc104 := NB545_566.out
      have hnb105 := NB566_546.out
      have hnc105 := NB546_566.out
      have hnb106 := NB566_558.out
      have hnc106 := NB558_566.out
      have hnb107 := NB566_571.out
      have hnc107 := NB571_566.out
      have hnb108 := NB566_576.out
      have hnc108 := NB576_566.out
      have hnb109 := NB566_584.out
      have hnc109 := NB584_566.out
      obtain ⟨hcz110_0, hcz110_1, hcz110_2, hfz110_0, hfz110_1, hfz110_2⟩ := bo3_ BK566
      go_wp2_with (first | ((with_reducible refine gate_callee (f := 24) rfl ?_); refine gl_ (some 54) Tryd.func24 #[.agg #[.bool t559, .string t560, .int .i64 t561], .agg #[.bool t563, .string t564, .int .i64 t565]] ?_; (with_reducible refine (dec_Cmp.calls kj5 t559 t560 t561 t563 t564 t565 t585 _ A93.out).mono ?_); rintro e w111 ⟨rfl, hb⟩; refine ⟨_, rfl, ?_⟩; have n0_ := Aside0.mk (blk_below (g := gb544) (o := .cells #[.bool a0_0, .slice A0_1 l0_1.length c0_1, .int .i64 a0_2] 24 (0, 0)) (by (with_reducible repeat (first | refine blk_drewN ?_ _ | refine blk_drew ?_ | refine blk_alloc ?_ _)); refine blk_far ?_ NB544_584.out _; (with_reducible repeat (first | refine blk_drewN ?_ _ | refine blk_drew ?_ | refine blk_alloc ?_ _)); refine blk_far ?_ NB544_584.out _; (with_reducible repeat (first | refine blk_drewN ?_ _ | refine blk_drew ?_ | refine blk_alloc ?_ _)); refine blk_far ?_ NB544_584.out _; (with_reducible repeat (first | refine blk_drewN ?_ _ | refine blk_drew ?_ | refine blk_alloc ?_ _)); exact BK544.out) hb); have n1_ := Aside0.mk (blk_below (g := gb545) (o := .cells #[.bool a1_0, .slice A1_1 l1_1.length c1_1, .int .i64 a1_2] 24 (0, 0)) (by (with_reducible repeat (first | refine blk_drewN ?_ _ | refine blk_drew ?_ | refine blk_alloc ?_ _)); refine blk_far ?_ NB545_584.out _; (with_reducible repeat (first | refine blk_drewN ?_ _ | refine blk_drew ?_ | refine blk_alloc ?_ _)); refine blk_far ?_ NB545_584.out _; (with_reducible repeat (first | refine blk_drewN ?_ _ | refine blk_drew ?_ | refine blk_alloc ?_ _)); refine blk_far ?_ NB545_584.out _; (with_reducible repeat (first | refine blk_drewN ?_ _ | refine blk_drew ?_ | refine blk_alloc ?_ _)); exact BK545.out) hb); have n2_ := Aside0.mk (blk_below (g := gb546) (o := .cells #[.int .i64 a2_0, .int .i64 a2_1, .int .i64 a2_2, .int .i64 a2_3, .int .i64 a2_4, .int .i64 a2_5, .int .i64 a2_6] 42 (0, 0)) (by (with_reducible repeat (first | refine blk_drewN ?_ _ | refine blk_drew ?_ | refine blk_alloc ?_ _)); refine blk_far ?_ NB546_584.out _; (with_reducible repeat (first | refine blk_drewN ?_ _ | refine blk_drew ?_ | refine blk_alloc ?_ _)); refine blk_far ?_ NB546_584.out _; (with_reducible repeat (first | refine blk_drewN ?_ _ | refine blk_drew ?_ | refine blk_alloc ?_ _)); refine blk_far ?_ NB546_584.out _; (with_reducible repeat (first | refine blk_drewN ?_ _ | refine blk_drew ?_ | refine blk_alloc ?_ _)); exact BK546.out) hb); have n3_ := Aside0.mk (blk_below (g := gb558) (o := .cells #[.int .i64 t550, .int .i64 t551, .int .i64 t552, .bool t553, .string t554, .int .i64 t555, .int .i64 t556, .int .i64 t557] 32 (0, 0)) (by (with_reducible repeat (first | refine blk_drewN ?_ _ | refine blk_drew ?_ | refine blk_alloc ?_ _)); refine blk_far ?_ NB558_584.out _; (with_reducible repeat (first | refine blk_drewN ?_ _ | refine blk_drew ?_ | refine blk_alloc ?_ _)); refine blk_far ?_ NB558_584.out _; (with_reducible repeat (first | refine blk_drewN ?_ _ | refine blk_drew ?_ | refine blk_alloc ?_ _)); refine blk_far ?_ NB558_584.out _; (with_reducible repeat (first | refine blk_drewN ?_ _ | refine blk_drew ?_ | refine blk_alloc ?_ _)); exact BK558.out) hb); have n4_ := Aside0.mk (blk_below (g := gb562) (o := .cells #[.bool t559, .string t560, .int .i64 t561] 29 (0, 0)) (by (with_reducible repeat (first | refine blk_drewN ?_ _ | refine blk_drew ?_ | refine blk_alloc ?_ _)); refine blk_far ?_ NB562_584.out _; (with_reducible repeat (first | refine blk_drewN ?_ _ | refine blk_drew ?_ | refine blk_alloc ?_ _)); refine blk_far ?_ NB562_584.out _; (with_reducible repeat (first | refine blk_drewN ?_ _ | refine blk_drew ?_ | refine blk_alloc ?_ _)); refine blk_far ?_ NB562_584.out _; (with_reducible repeat (first | refine blk_drewN ?_ _ | refine blk_drew ?_ | refine blk_alloc ?_ _)); exact BK562.out) hb); have n5_ := Aside0.mk (blk_below (g := gb566) (o := .cells #[.bool t563, .string t564, .int .i64 t565] 29 (0, 0)) (by (with_reducible repeat (first | refine blk_drewN ?_ _ | refine blk_drew ?_ | refine blk_alloc ?_ _)); refine blk_far ?_ NB566_584.out _; (with_reducible repeat (first | refine blk_drewN ?_ _ | refine blk_drew ?_ | refine blk_alloc ?_ _)); refine blk_far ?_ NB566_584.out _; (with_reducible repeat (first | refine blk_drewN ?_ _ | refine blk_drew ?_ | refine blk_alloc ?_ _)); refine blk_far ?_ NB566_584.out _; (with_reducible repeat (first | refine blk_drewN ?_ _ | refine blk_drew ?_ | refine blk_alloc ?_ _)); exact BK566.out) hb); have n6_ := Aside0.mk (blk_below (g := gb571) (o := .cells #[.bool t567, .string t568, .string t569] 35 (0, 0)) (by (with_reducible repeat (first | refine blk_drewN ?_ _ | refine blk_drew ?_ | refine blk_alloc ?_ _)); refine blk_far ?_ NB571_584.out _; (with_reducible repeat (first | refine blk_drewN ?_ _ | refine blk_drew ?_ | refine blk_alloc ?_ _)); refine blk_far ?_ NB571_584.out _; (with_reducible repeat (first | refine blk_drewN ?_ _ | refine blk_drew ?_ | refine blk_alloc ?_ _)); refine blk_far ?_ NB571_584.out _; (with_reducible repeat (first | refine blk_drewN ?_ _ | refine blk_drew ?_ | refine blk_alloc ?_ _)); exact BK571.out) hb); have n7_ := Aside0.mk (blk_below (g := gb576) (o := .cells #[.bool t572, .string t573, .string t574] 35 (0, 0)) (by (with_reducible repeat (first | refine blk_drewN ?_ _ | refine blk_drew ?_ | refine blk_alloc ?_ _)); refine blk_far ?_ NB576_584.out _; (with_reducible repeat (first | refine blk_drewN ?_ _ | refine blk_drew ?_ | refine blk_alloc ?_ _)); refine blk_far ?_ NB576_584.out _; (with_reducible repeat (first | refine blk_drewN ?_ _ | refine blk_drew ?_ | refine blk_alloc ?_ _)); refine blk_far ?_ NB576_584.out _; (with_reducible repeat (first | refine blk_drewN ?_ _ | refine blk_drew ?_ | refine blk_alloc ?_ _)); exact BK576.out) hb); have n8_ := Aside0.mk (blk_below (g := gb584) (o := .cells #[.bool t580, .string t581, .string t582] 35 (0, 0)) (by (with_reducible repeat (first | refine blk_drewN ?_ _ | refine blk_drew ?_ | refine blk_alloc ?_ _)); refine blk_put (cs := #[.bool t580, .string t581, .string (⟨#[]⟩ : ByteArray)]) ?_ 2 _ rfl; (with_reducible repeat (first | refine blk_drewN ?_ _ | refine blk_drew ?_ | refine blk_alloc ?_ _)); refine blk_put (cs := #[.bool t580, .string (⟨#[]⟩ : ByteArray), .string (⟨#[]⟩ : ByteArray)]) ?_ 1 _ rfl; (with_reducible repeat (first | refine blk_drewN ?_ _ | refine blk_drew ?_ | refine blk_alloc ?_ _)); refine blk_put (cs := #[.bool false, .string (⟨#[]⟩ : ByteArray), .string (⟨#[]⟩ : ByteArray)]) ?_ 0 _ rfl; (with_reducible repeat (first | refine blk_drewN ?_ _ | refine blk_drew ?_ | refine blk_alloc ?_ _)); exact BK584.out) hb); have n9_ := Aside0.mk (below_step (bl_ HB).out hb); clear BK544; clear BK545; clear BK546; clear BK558; clear BK562; clear BK566; clear BK571; clear BK576; clear BK584; clear HB; have BK544 := n0_; have BK545 := n1_; have BK546 := n2_; have BK558 := n3_; have BK562 := n4_; have BK566 := n5_; have BK571 := n6_; have BK576 := n7_; have BK584 := n8_; have HB := n9_; clear n0_ n1_ n2_ n3_ n4_ n5_ n6_ n7_ n8_ n9_; (try clear hb); (try clear hb2); (try clear hk); (try clear hi)))
      go_meet
      case rel => exact ⟨_, (t585), eq_, H', ⟨by have := HJ5.out; first | omega | exact Nat.le_refl _⟩, (bk_ BK544), (bk_ BK545), (bk_ BK546), (bk_ BK558), (bk_ BK562), (bk_ BK566), (bk_ BK571), (bk_ BK576), (bk_ BK584), (bl_ HB)⟩
     case rest =>
      clear HC33
      try clear c1
      try clear c2
      try clear p2
      try clear p6
      try clear c9
      try clear c10
      try clear c13
      try clear c23
      try clear c24
      try clear p64
      try clear c94
      try clear c95
      try clear c96
      try clear c97
      try clear c98
      try clear c99
      try clear c100
      try clear c101
      try clear c103
      try clear c104
      try clear c105
      try clear c106
      try clear c107
      try clear c108
      try clear c109
      try clear hcz102_0
      try clear hcz102_1
      try clear hcz102_2
      try clear hcz110_0
      try clear hcz110_1
      try clear hcz110_2
      try clear hfz102_0
      try clear hfz102_1
      try clear hfz102_2
      try clear hfz110_0
      try clear hfz110_1
      try clear hfz110_2
      obtain ⟨kq, x16_32, rfl, HA, HJ32, BK544, BK545, BK546, BK558, BK562, BK566, BK571, BK576, BK584, HB⟩ := hcut
      cases kq with
      | zero => exact absurd HA.out (by simp [florinlaw04_ShowAgain.j1])
      | succ kj32 =>
       have H := HA.out
       clear HA
       simp only [florinlaw04_ShowAgain.j1] at H
       by_cases c112 : t570 = 0
       ·rw [if_pos c112] at H
        have c112b0 : (t570 == 0) = true := beq_iff_eq.mpr c112
        have c112b1 : (t570 != 0) = false := bne_eq_false_iff_eq.mpr c112
        clear c112
        by_cases c113 : t575 = 0
        ·rw [if_pos c113] at H
         have c113b0 : (t575 == 0) = true := beq_iff_eq.mpr c113
         have c113b1 : (t575 != 0) = false := bne_eq_false_iff_eq.mpr c113
         clear c113
         by_cases c114 : t583 = 0
         ·rw [if_pos c114] at H
          have c114b0 : (t583 == 0) = true := beq_iff_eq.mpr c114
          have c114b1 : (t583 != 0) = false := bne_eq_false_iff_eq.mpr c114
          clear c114
          by_cases c115 : (t580 == t567 && (t581.toList == t568.toList && (t582.toList == t569.toList))) = true
          ·rw [if_pos c115] at H
           have c115b0 : (t580 == t567 && (t581.toList == t568.toList && (t582.toList == t569.toList))) = true := c115
           (try (have c115b1 : decide (t580 = t567 && (t581.toList == t568.toList && (t582.toList == t569.toList))) = true := by simpa using c115))
           (try (have c115b2 : (t580 == t567 && (t581.toList == t568.toList && (t582.toList == t569.toList))) = true := by simpa using c115))
           clear c115
           by_cases c116 : x16_32 = 0
           ·rw [if_pos c116] at H
            have c116b0 : (x16_32 == 0) = true := beq_iff_eq.mpr c116
            have c116b1 : (x16_32 != 0) = false := bne_eq_false_iff_eq.mpr c116
            clear c116
            by_cases c117 : (t567 == t572 && (t568.toList == t573.toList && (t569.toList == t574.toList))) = true
            ·rw [if_pos c117] at H
             have c117b0 : (t567 == t572 && (t568.toList == t573.toList && (t569.toList == t574.toList))) = true := c117
             (try (have c117b1 : decide (t567 = t572 && (t568.toList == t573.toList && (t569.toList == t574.toList))) = true := by simpa using c117))
             (try (have c117b2 : (t567 == t572 && (t568.toList == t573.toList && (t569.toList == t574.toList))) = true := by simpa using c117))
             clear c117
             replace H := Option.bind_eq_some_iff.mp H
             obtain ⟨⟨t586, t587, t588⟩, A1180, H⟩ := H
             replace H : ((show_Vis_Value.f kj32 t572 t573 t574).bind fun bt589 => ((dec_Cmp.f kj32 t586 t587 t588 bt589.1 bt589.2.1 bt589.2.2).bind fun t592 => (some (decide ((wrap64 (t592 * x16_32)) ≥ 0))))) = some r := H
             have A118 := Aside0.mk A1180
             clear A1180
             replace H := Option.bind_eq_some_iff.mp H
             obtain ⟨⟨t589, t590, t591⟩, A1190, H⟩ := H
             replace H : ((dec_Cmp.f kj32 t586 t587 t588 t589 t590 t591).bind fun t592 => (some (decide ((wrap64 (t592 * x16_32)) ≥ 0)))) = some r := H
             have A119 := Aside0.mk A1190
             clear A1190
             replace H := Option.bind_eq_some_iff.mp H
             obtain ⟨t592, A1200, H⟩ := H
             replace H : (some (decide ((wrap64 (t592 * x16_32)) ≥ 0))) = some r := H
             have A120 := Aside0.mk A1200
             clear A1200
             obtain rfl := Option.some.inj H
             try go_wp2
             replace BK544 := Aside0.mk (blk_drew BK544.out)
             replace BK545 := Aside0.mk (blk_drew BK545.out)
             replace BK546 := Aside0.mk (blk_drew BK546.out)
             replace BK558 := Aside0.mk (blk_drew BK558.out)
             replace BK562 := Aside0.mk (blk_drew BK562.out)
             replace BK566 := Aside0.mk (blk_drew BK566.out)
             replace BK571 := Aside0.mk (blk_drew BK571.out)
             replace BK576 := Aside0.mk (blk_drew BK576.out)
             replace BK584 := Aside0.mk (blk_drew BK584.out)
             replace HB := Aside0.mk (below_drew1 HB.out)
             refine start_ (n := 35) (S := fun w' => w'.cell? ⟨gb584, 0, none⟩ = some (.bool t580) ∧ w'.cell? ⟨gb584, 1, none⟩ = some (.string t581) ∧ w'.cell? ⟨gb584, 2, none⟩ = some (.string t582) ∧ w'.cell? ⟨gb571, 0, none⟩ = some (.bool t567) ∧ w'.cell? ⟨gb571, 1, none⟩ = some (.string t568) ∧ w'.cell? ⟨gb571, 2, none⟩ = some (.string t569) ∧ w'.cell? ⟨gb576, 0, none⟩ = some (.bool t572) ∧ w'.cell? ⟨gb576, 1, none⟩ = some (.string t573) ∧ w'.cell? ⟨gb576, 2, none⟩ = some (.string t574)) (ds := []) #[false, false, false, false, false, false, false, false, false, false, false, false, false, false, false, false, false, false, false, false, false, false, false, false, false, false, false, false, false, false, false, false, false, false, false] (by kernel_rfl) rfl rfl ⟨bc_ BK584 0, bc_ BK584 1, bc_ BK584 2, bc_ BK571 0, bc_ BK571 1, bc_ BK571 2, bc_ BK576 0, bc_ BK576 1, bc_ BK576 2⟩ (fun hHeld => ?_); refine with_tabW florinlaw04_ShowAgain.tab12 florinlaw04_ShowAgain.bits12 (fun HT_ HW_ => ?_)
             generalize wc.drew = w121 at BK544 BK545 BK546 BK558 BK562 BK566 BK571 BK576 BK584 HB hHeld ⊢
             refine pu_ 0 55 (bm_ 35 1) HT_ ?_
             refine pu_ 1 56 (bm_ 35 3) HT_ ?_
             refine pu_ 2 57 (bm_ 35 7) HT_ ?_
             refine pu_ 3 58 (bm_ 35 15) HT_ ?_
             refine pu_ 4 59 (bm_ 35 31) HT_ ?_
             refine pu_ 5 60 (bm_ 35 63) HT_ ?_
             refine pu_ 6 61 (bm_ 35 127) HT_ ?_
             refine pu_ 7 62 (bm_ 35 255) HT_ ?_
             refine pu_ 8 63 (bm_ 35 511) HT_ ?_
             refine pu_ 9 64 (bm_ 35 1023) HT_ ?_
             refine pu_ 10 65 (bm_ 35 2047) HT_ ?_
             refine tk_ 11 66 (bm_ 35 4095) HT_ HW_ hHeld rfl (by rintro w' ⟨s0, s1, s2, s3, s4, s5, s6, s7, s8⟩; go_simp; with_reducible rfl) ?_
             refine tk_ 12 67 (bm_ 35 8191) HT_ HW_ hHeld rfl (by rintro w' ⟨s0, s1, s2, s3, s4, s5, s6, s7, s8⟩; go_simp; with_reducible rfl) ?_
             refine pu_ 13 68 (bm_ 35 16383) HT_ ?_
             refine pu_ 14 69 (bm_ 35 32767) HT_ ?_
             refine pu_ 15 70 (bm_ 35 65535) HT_ ?_
             refine pu_ 16 71 (bm_ 35 131071) HT_ ?_
             refine pu_ 17 72 (bm_ 35 262143) HT_ ?_
             refine pu_ 18 73 (bm_ 35 524287) HT_ ?_
             refine tk_ 19 74 (bm_ 35 1048575) HT_ HW_ hHeld rfl (by rintro w' ⟨s0, s1, s2, s3, s4, s5, s6, s7, s8⟩; go_simp; with_reducible rfl) ?_
             refine tk_ 20 75 (bm_ 35 2097151) HT_ HW_ hHeld rfl (by rintro w' ⟨s0, s1, s2, s3, s4, s5, s6, s7, s8⟩; go_simp; with_reducible rfl) ?_
             refine pu_ 21 76 (bm_ 35 4194303) HT_ ?_
             refine pu_ 22 77 (bm_ 35 8388607) HT_ ?_
             refine pu_ 23 78 (bm_ 35 16777215) HT_ ?_
             refine pu_ 24 79 (bm_ 35 33554431) HT_ ?_
             refine pu_ 30 85 (bm_ 35 1107296255) HT_ ?_
             refine tk_ 25 80 (bm_ 35 1140850687) HT_ HW_ hHeld rfl (by rintro w' ⟨s0, s1, s2, s3, s4, s5, s6, s7, s8⟩; go_simp; with_reducible rfl) ?_
             refine tk_ 27 82 (bm_ 35 1275068415) HT_ HW_ hHeld rfl (by rintro w' ⟨s0, s1, s2, s3, s4, s5, s6, s7, s8⟩; go_simp; with_reducible rfl) ?_
             refine one_ (i := 26) (N := some 81) (bm_ 35 1342177279) rfl rfl (one_of HT_.out (by kernel_rfl)) (by decide) (fun K hK => ?_)
             refine gs_ Tryd.func23 #[.agg #[.bool t567, .string t568, .string t569]] ?_
             with_reducible refine (show_Vis_Value.calls kj32 t567 t568 t569 t586 t587 t588 _ A118.out).mono ?_
             rintro e w122 ⟨rfl, hb⟩
             refine ⟨_, rfl, ?_⟩
             replace BK544 := bb_ BK544 hb
             replace BK545 := bb_ BK545 hb
             replace BK546 := bb_ BK546 hb
             replace BK558 := bb_ BK558 hb
             replace BK562 := bb_ BK562 hb
             replace BK566 := bb_ BK566 hb
             replace BK571 := bb_ BK571 hb
             replace BK576 := bb_ BK576 hb
             replace BK584 := bb_ BK584 hb
             replace HB := Aside0.mk (below_step (bl_ HB).out hb)
             (try clear hb)
             (try clear hb2)
             (try clear hk)
             (try clear hi)
             refine hK.out _ _ ⟨bc_ BK584 0, bc_ BK584 1, bc_ BK584 2, bc_ BK571 0, bc_ BK571 1, bc_ BK571 2, bc_ BK576 0, bc_ BK576 1, bc_ BK576 2⟩ (fun hHeld => ?_)
             clear hK K
             refine nm_ 81 ?_
             refine one_ (i := 28) (N := some 83) (bm_ 35 1610612735) rfl rfl (one_of HT_.out (by kernel_rfl)) (by decide) (fun K hK => ?_)
             refine gs_ Tryd.func23 #[.agg #[.bool t572, .string t573, .string t574]] ?_
             with_reducible refine (show_Vis_Value.calls kj32 t572 t573 t574 t589 t590 t591 _ A119.out).mono ?_
             rintro e w123 ⟨rfl, hb⟩
             refine ⟨_, rfl, ?_⟩
             replace BK544 := bb_ BK544 hb
             replace BK545 := bb_ BK545 hb
             replace BK546 := bb_ BK546 hb
             replace BK558 := bb_ BK558 hb
             replace BK562 := bb_ BK562 hb
             replace BK566 := bb_ BK566 hb
             replace BK571 := bb_ BK571 hb
             replace BK576 := bb_ BK576 hb
             replace BK584 := bb_ BK584 hb
             replace HB := Aside0.mk (below_step (bl_ HB).out hb)
             (try clear hb)
             (try clear hb2)
             (try clear hk)
             (try clear hi)
             refine hK.out _ _ ⟨bc_ BK584 0, bc_ BK584 1, bc_ BK584 2, bc_ BK571 0, bc_ BK571 1, bc_ BK571 2, bc_ BK576 0, bc_ BK576 1, bc_ BK576 2⟩ (fun hHeld => ?_)
             clear hK K
             refine nm_ 83 ?_
             refine one_ (i := 29) (N := some 84) (bm_ 35 2147483647) rfl rfl (one_of HT_.out (by kernel_rfl)) (by decide) (fun K hK => ?_)
             refine gs_ Tryd.func24 #[.agg #[.bool t586, .string t587, .int .i64 t588], .agg #[.bool t589, .string t590, .int .i64 t591]] ?_
             with_reducible refine (dec_Cmp.calls kj32 t586 t587 t588 t589 t590 t591 t592 _ A120.out).mono ?_
             rintro e w124 ⟨rfl, hb⟩
             refine ⟨_, rfl, ?_⟩
             replace BK544 := bb_ BK544 hb
             replace BK545 := bb_ BK545 hb
             replace BK546 := bb_ BK546 hb
             replace BK558 := bb_ BK558 hb
             replace BK562 := bb_ BK562 hb
             replace BK566 := bb_ BK566 hb
             replace BK571 := bb_ BK571 hb
             replace BK576 := bb_ BK576 hb
             replace BK584 := bb_ BK584 hb
             replace HB := Aside0.mk (below_step (bl_ HB).out hb)
             (try clear hb)
             (try clear hb2)
             (try clear hk)
             (try clear hi)
             refine hK.out _ _ ⟨bc_ BK584 0, bc_ BK584 1, bc_ BK584 2, bc_ BK571 0, bc_ BK571 1, bc_ BK571 2, bc_ BK576 0, bc_ BK576 1, bc_ BK576 2⟩ (fun hHeld => ?_)
             clear hK K
             refine nm_ 84 ?_
             refine pu_ 31 86 (bm_ 35 4294967295) HT_ ?_
             refine pu_ 32 87 (bm_ 35 8589934591) HT_ ?_
             refine pu_ 33 88 (bm_ 35 17179869183) HT_ ?_
             refine pu_ 34 6 (bm_ 35 34359738367) HT_ ?_
             refine done_ (done_of HT_.out (by kernel_rfl)) ?_
             try go_wp2
             go_ret
             exact ⟨ew_, (bl_ HB).out⟩
            ·rw [if_neg c117] at H
             have c117b0 : (t567 == t572 && (t568.toList == t573.toList && (t569.toList == t574.toList))) = false := by simpa using c117
             (try (have c117b1 : decide (t567 = t572 && (t568.toList == t573.toList && (t569.toList == t574.toList))) = false := by simpa using c117))
             (try (have c117b2 : (t567 == t572 && (t568.toList == t573.toList && (t569.toList == t574.toList))) = false := by simpa using c117))
             (try (have c117b3 : ¬ (t567 = t572 && (t568.toList == t573.toList && (t569.toList == t574.toList))) := by simpa using c117))
             clear c117
             obtain rfl := Option.some.inj H
             try go_wp2
             replace BK544 := Aside0.mk (blk_drew BK544.out)
             replace BK545 := Aside0.mk (blk_drew BK545.out)
             replace BK546 := Aside0.mk (blk_drew BK546.out)
             replace BK558 := Aside0.mk (blk_drew BK558.out)
             replace BK562 := Aside0.mk (blk_drew BK562.out)
             replace BK566 := Aside0.mk (blk_drew BK566.out)
             replace BK571 := Aside0.mk (blk_drew BK571.out)
             replace BK576 := Aside0.mk (blk_drew BK576.out)
             replace BK584 := Aside0.mk (blk_drew BK584.out)
             replace HB := Aside0.mk (below_drew1 HB.out)
             refine start_ (n := 35) (S := fun w' => w'.cell? ⟨gb584, 0, none⟩ = some (.bool t580) ∧ w'.cell? ⟨gb584, 1, none⟩ = some (.string t581) ∧ w'.cell? ⟨gb584, 2, none⟩ = some (.string t582) ∧ w'.cell? ⟨gb571, 0, none⟩ = some (.bool t567) ∧ w'.cell? ⟨gb571, 1, none⟩ = some (.string t568) ∧ w'.cell? ⟨gb571, 2, none⟩ = some (.string t569) ∧ w'.cell? ⟨gb576, 0, none⟩ = some (.bool t572) ∧ w'.cell? ⟨gb576, 1, none⟩ = some (.string t573) ∧ w'.cell? ⟨gb576, 2, none⟩ = some (.string t574)) (ds := []) #[false, false, false, false, false, false, false, false, false, false, false, false, false, false, false, false, false, false, false, false, false, false, false, false, false, false, false, false, false, false, false, false, false, false, false] (by kernel_rfl) rfl rfl ⟨bc_ BK584 0, bc_ BK584 1, bc_ BK584 2, bc_ BK571 0, bc_ BK571 1, bc_ BK571 2, bc_ BK576 0, bc_ BK576 1, bc_ BK576 2⟩ (fun hHeld => ?_); refine with_tabW florinlaw04_ShowAgain.tab12 florinlaw04_ShowAgain.bits12 (fun HT_ HW_ => ?_)
             generalize wc.drew = w125 at BK544 BK545 BK546 BK558 BK562 BK566 BK571 BK576 BK584 HB hHeld ⊢
             refine pu_ 0 55 (bm_ 35 1) HT_ ?_
             refine pu_ 1 56 (bm_ 35 3) HT_ ?_
             refine pu_ 2 57 (bm_ 35 7) HT_ ?_
             refine pu_ 3 58 (bm_ 35 15) HT_ ?_
             refine pu_ 4 59 (bm_ 35 31) HT_ ?_
             refine pu_ 5 60 (bm_ 35 63) HT_ ?_
             refine pu_ 6 61 (bm_ 35 127) HT_ ?_
             refine pu_ 7 62 (bm_ 35 255) HT_ ?_
             refine pu_ 8 63 (bm_ 35 511) HT_ ?_
             refine pu_ 9 64 (bm_ 35 1023) HT_ ?_
             refine pu_ 10 65 (bm_ 35 2047) HT_ ?_
             refine tk_ 11 66 (bm_ 35 4095) HT_ HW_ hHeld rfl (by rintro w' ⟨s0, s1, s2, s3, s4, s5, s6, s7, s8⟩; go_simp; with_reducible rfl) ?_
             refine tk_ 12 67 (bm_ 35 8191) HT_ HW_ hHeld rfl (by rintro w' ⟨s0, s1, s2, s3, s4, s5, s6, s7, s8⟩; go_simp; with_reducible rfl) ?_
             refine pu_ 13 68 (bm_ 35 16383) HT_ ?_
             refine pu_ 14 69 (bm_ 35 32767) HT_ ?_
             refine pu_ 15 70 (bm_ 35 65535) HT_ ?_
             refine pu_ 16 71 (bm_ 35 131071) HT_ ?_
             refine pu_ 17 72 (bm_ 35 262143) HT_ ?_
             refine pu_ 18 73 (bm_ 35 524287) HT_ ?_
             refine tk_ 19 74 (bm_ 35 1048575) HT_ HW_ hHeld rfl (by rintro w' ⟨s0, s1, s2, s3, s4, s5, s6, s7, s8⟩; go_simp; with_reducible rfl) ?_
             refine tk_ 20 75 (bm_ 35 2097151) HT_ HW_ hHeld rfl (by rintro w' ⟨s0, s1, s2, s3, s4, s5, s6, s7, s8⟩; go_simp; with_reducible rfl) ?_
             refine pu_ 21 76 (bm_ 35 4194303) HT_ ?_
             refine pu_ 22 77 (bm_ 35 8388607) HT_ ?_
             refine pu_ 23 78 (bm_ 35 16777215) HT_ ?_
             refine pu_ 24 79 (bm_ 35 33554431) HT_ ?_
             refine pn_ 25 80 (bm_ 35 67108863) HT_ ?_
             refine pn_ 26 81 (bm_ 35 134217727) HT_ ?_
             refine pn_ 27 82 (bm_ 35 268435455) HT_ ?_
             refine pn_ 28 83 (bm_ 35 536870911) HT_ ?_
             refine pn_ 29 84 (bm_ 35 1073741823) HT_ ?_
             refine pn_ 30 85 (bm_ 35 2147483647) HT_ ?_
             refine pn_ 31 86 (bm_ 35 4294967295) HT_ ?_
             refine pn_ 32 87 (bm_ 35 8589934591) HT_ ?_
             refine pu_ 33 88 (bm_ 35 17179869183) HT_ ?_
             refine pu_ 34 6 (bm_ 35 34359738367) HT_ ?_
             refine done_ (done_of HT_.out (by kernel_rfl)) ?_
             try go_wp2
             go_ret
             exact ⟨ew_, (bl_ HB).out⟩
           ·rw [if_neg c116] at H
            have c116b0 : (x16_32 == 0) = false := beq_eq_false_iff_ne.mpr c116
            have c116b1 : (x16_32 != 0) = true := bne_iff_ne.mpr c116
            replace H := Option.bind_eq_some_iff.mp H
            obtain ⟨⟨t593, t594, t595⟩, A1260, H⟩ := H
            replace H : ((show_Vis_Value.f kj32 t572 t573 t574).bind fun bt596 => ((dec_Cmp.f kj32 t593 t594 t595 bt596.1 bt596.2.1 bt596.2.2).bind fun t599 => (some (decide ((wrap64 (t599 * x16_32)) ≥ 0))))) = some r := H
            have A126 := Aside0.mk A1260
            clear A1260
            replace H := Option.bind_eq_some_iff.mp H
            obtain ⟨⟨t596, t597, t598⟩, A1270, H⟩ := H
            replace H : ((dec_Cmp.f kj32 t593 t594 t595 t596 t597 t598).bind fun t599 => (some (decide ((wrap64 (t599 * x16_32)) ≥ 0)))) = some r := H
            have A127 := Aside0.mk A1270
            clear A1270
            replace H := Option.bind_eq_some_iff.mp H
            obtain ⟨t599, A1280, H⟩ := H
            replace H : (some (decide ((wrap64 (t599 * x16_32)) ≥ 0))) = some r := H
            have A128 := Aside0.mk A1280
            clear A1280
            obtain rfl := Option.some.inj H
            try go_wp2
            replace BK544 := Aside0.mk (blk_drew BK544.out)
            replace BK545 := Aside0.mk (blk_drew BK545.out)
            replace BK546 := Aside0.mk (blk_drew BK546.out)
            replace BK558 := Aside0.mk (blk_drew BK558.out)
            replace BK562 := Aside0.mk (blk_drew BK562.out)
            replace BK566 := Aside0.mk (blk_drew BK566.out)
            replace BK571 := Aside0.mk (blk_drew BK571.out)
            replace BK576 := Aside0.mk (blk_drew BK576.out)
            replace BK584 := Aside0.mk (blk_drew BK584.out)
            replace HB := Aside0.mk (below_drew1 HB.out)
            refine start_ (n := 35) (S := fun w' => w'.cell? ⟨gb584, 0, none⟩ = some (.bool t580) ∧ w'.cell? ⟨gb584, 1, none⟩ = some (.string t581) ∧ w'.cell? ⟨gb584, 2, none⟩ = some (.string t582) ∧ w'.cell? ⟨gb571, 0, none⟩ = some (.bool t567) ∧ w'.cell? ⟨gb571, 1, none⟩ = some (.string t568) ∧ w'.cell? ⟨gb571, 2, none⟩ = some (.string t569) ∧ w'.cell? ⟨gb576, 0, none⟩ = some (.bool t572) ∧ w'.cell? ⟨gb576, 1, none⟩ = some (.string t573) ∧ w'.cell? ⟨gb576, 2, none⟩ = some (.string t574)) (ds := []) #[false, false, false, false, false, false, false, false, false, false, false, false, false, false, false, false, false, false, false, false, false, false, false, false, false, false, false, false, false, false, false, false, false, false, false] (by kernel_rfl) rfl rfl ⟨bc_ BK584 0, bc_ BK584 1, bc_ BK584 2, bc_ BK571 0, bc_ BK571 1, bc_ BK571 2, bc_ BK576 0, bc_ BK576 1, bc_ BK576 2⟩ (fun hHeld => ?_); refine with_tabW florinlaw04_ShowAgain.tab12 florinlaw04_ShowAgain.bits12 (fun HT_ HW_ => ?_)
            generalize wc.drew = w129 at BK544 BK545 BK546 BK558 BK562 BK566 BK571 BK576 BK584 HB hHeld ⊢
            refine pu_ 0 55 (bm_ 35 1) HT_ ?_
            refine pu_ 1 56 (bm_ 35 3) HT_ ?_
            refine pu_ 2 57 (bm_ 35 7) HT_ ?_
            refine pu_ 3 58 (bm_ 35 15) HT_ ?_
            refine pu_ 4 59 (bm_ 35 31) HT_ ?_
            refine pu_ 5 60 (bm_ 35 63) HT_ ?_
            refine pu_ 6 61 (bm_ 35 127) HT_ ?_
            refine pu_ 7 62 (bm_ 35 255) HT_ ?_
            refine pu_ 8 63 (bm_ 35 511) HT_ ?_
            refine pu_ 9 64 (bm_ 35 1023) HT_ ?_
            refine pu_ 10 65 (bm_ 35 2047) HT_ ?_
            refine tk_ 11 66 (bm_ 35 4095) HT_ HW_ hHeld rfl (by rintro w' ⟨s0, s1, s2, s3, s4, s5, s6, s7, s8⟩; go_simp; with_reducible rfl) ?_
            refine tk_ 12 67 (bm_ 35 8191) HT_ HW_ hHeld rfl (by rintro w' ⟨s0, s1, s2, s3, s4, s5, s6, s7, s8⟩; go_simp; with_reducible rfl) ?_
            refine pu_ 13 68 (bm_ 35 16383) HT_ ?_
            refine pu_ 14 69 (bm_ 35 32767) HT_ ?_
            refine pu_ 15 70 (bm_ 35 65535) HT_ ?_
            refine pu_ 16 71 (bm_ 35 131071) HT_ ?_
            refine pu_ 17 72 (bm_ 35 262143) HT_ ?_
            refine pu_ 18 73 (bm_ 35 524287) HT_ ?_
            refine pn_ 19 74 (bm_ 35 1048575) HT_ ?_
            refine pn_ 20 75 (bm_ 35 2097151) HT_ ?_
            refine pn_ 21 76 (bm_ 35 4194303) HT_ ?_
            refine pu_ 22 77 (bm_ 35 8388607) HT_ ?_
            refine pu_ 23 78 (bm_ 35 16777215) HT_ ?_
            refine pu_ 24 79 (bm_ 35 33554431) HT_ ?_
            refine pu_ 30 85 (bm_ 35 1107296255) HT_ ?_
            refine tk_ 25 80 (bm_ 35 1140850687) HT_ HW_ hHeld rfl (by rintro w' ⟨s0, s1, s2, s3, s4, s5, s6, s7, s8⟩; go_simp; with_reducible rfl) ?_
            refine tk_ 27 82 (bm_ 35 1275068415) HT_ HW_ hHeld rfl (by rintro w' ⟨s0, s1, s2, s3, s4, s5, s6, s7, s8⟩; go_simp; with_reducible rfl) ?_
            refine one_ (i := 26) (N := some 81) (bm_ 35 1342177279) rfl rfl (one_of HT_.out (by kernel_rfl)) (by decide) (fun K hK => ?_)
            refine gs_ Tryd.func23 #[.agg #[.bool t567, .string t568, .string t569]] ?_
            with_reducible refine (show_Vis_Value.calls kj32 t567 t568 t569 t593 t594 t595 _ A126.out).mono ?_
            rintro e w130 ⟨rfl, hb⟩
            refine ⟨_, rfl, ?_⟩
            replace BK544 := bb_ BK544 hb
            replace BK545 := bb_ BK545 hb
            replace BK546 := bb_ BK546 hb
            replace BK558 := bb_ BK558 hb
            replace BK562 := bb_ BK562 hb
            replace BK566 := bb_ BK566 hb
            replace BK571 := bb_ BK571 hb
            replace BK576 := bb_ BK576 hb
            replace BK584 := bb_ BK584 hb
            replace HB := Aside0.mk (below_step (bl_ HB).out hb)
            (try clear hb)
            (try clear hb2)
            (try clear hk)
            (try clear hi)
            refine hK.out _ _ ⟨bc_ BK584 0, bc_ BK584 1, bc_ BK584 2, bc_ BK571 0, bc_ BK571 1, bc_ BK571 2, bc_ BK576 0, bc_ BK576 1, bc_ BK576 2⟩ (fun hHeld => ?_)
            clear hK K
            refine nm_ 81 ?_
            refine one_ (i := 28) (N := some 83) (bm_ 35 1610612735) rfl rfl (one_of HT_.out (by kernel_rfl)) (by decide) (fun K hK => ?_)
            refine gs_ Tryd.func23 #[.agg #[.bool t572, .string t573, .string t574]] ?_
            with_reducible refine (show_Vis_Value.calls kj32 t572 t573 t574 t596 t597 t598 _ A127.out).mono ?_
            rintro e w131 ⟨rfl, hb⟩
            refine ⟨_, rfl, ?_⟩
            replace BK544 := bb_ BK544 hb
            replace BK545 := bb_ BK545 hb
            replace BK546 := bb_ BK546 hb
            replace BK558 := bb_ BK558 hb
            replace BK562 := bb_ BK562 hb
            replace BK566 := bb_ BK566 hb
            replace BK571 := bb_ BK571 hb
            replace BK576 := bb_ BK576 hb
            replace BK584 := bb_ BK584 hb
            replace HB := Aside0.mk (below_step (bl_ HB).out hb)
            (try clear hb)
            (try clear hb2)
            (try clear hk)
            (try clear hi)
            refine hK.out _ _ ⟨bc_ BK584 0, bc_ BK584 1, bc_ BK584 2, bc_ BK571 0, bc_ BK571 1, bc_ BK571 2, bc_ BK576 0, bc_ BK576 1, bc_ BK576 2⟩ (fun hHeld => ?_)
            clear hK K
            refine nm_ 83 ?_
            refine one_ (i := 29) (N := some 84) (bm_ 35 2147483647) rfl rfl (one_of HT_.out (by kernel_rfl)) (by decide) (fun K hK => ?_)
            refine gs_ Tryd.func24 #[.agg #[.bool t593, .string t594, .int .i64 t595], .agg #[.bool t596, .string t597, .int .i64 t598]] ?_
            with_reducible refine (dec_Cmp.calls kj32 t593 t594 t595 t596 t597 t598 t599 _ A128.out).mono ?_
            rintro e w132 ⟨rfl, hb⟩
            refine ⟨_, rfl, ?_⟩
            replace BK544 := bb_ BK544 hb
            replace BK545 := bb_ BK545 hb
            replace BK546 := bb_ BK546 hb
            replace BK558 := bb_ BK558 hb
            replace BK562 := bb_ BK562 hb
            replace BK566 := bb_ BK566 hb
            replace BK571 := bb_ BK571 hb
            replace BK576 := bb_ BK576 hb
            replace BK584 := bb_ BK584 hb
            replace HB := Aside0.mk (below_step (bl_ HB).out hb)
            (try clear hb)
            (try clear hb2)
            (try clear hk)
            (try clear hi)
            refine hK.out _ _ ⟨bc_ BK584 0, bc_ BK584 1, bc_ BK584 2, bc_ BK571 0, bc_ BK571 1, bc_ BK571 2, bc_ BK576 0, bc_ BK576 1, bc_ BK576 2⟩ (fun hHeld => ?_)
            clear hK K
            refine nm_ 84 ?_
            refine pu_ 31 86 (bm_ 35 4294967295) HT_ ?_
            refine pu_ 32 87 (bm_ 35 8589934591) HT_ ?_
            refine pu_ 33 88 (bm_ 35 17179869183) HT_ ?_
            refine pu_ 34 6 (bm_ 35 34359738367) HT_ ?_
            refine done_ (done_of HT_.out (by kernel_rfl)) ?_
            try go_wp2
            go_ret
            exact ⟨ew_, (bl_ HB).out⟩
          ·rw [if_neg c115] at H
           have c115b0 : (t580 == t567 && (t581.toList == t568.toList && (t582.toList == t569.toList))) = false := by simpa using c115
           (try (have c115b1 : decide (t580 = t567 && (t581.toList == t568.toList && (t582.toList == t569.toList))) = false := by simpa using c115))
           (try (have c115b2 : (t580 == t567 && (t581.toList == t568.toList && (t582.toList == t569.toList))) = false := by simpa using c115))
           (try (have c115b3 : ¬ (t580 = t567 && (t581.toList == t568.toList && (t582.toList == t569.toList))) := by simpa using c115))
           clear c115
           obtain rfl := Option.some.inj H
           try go_wp2
           replace BK544 := Aside0.mk (blk_drew BK544.out)
           replace BK545 := Aside0.mk (blk_drew BK545.out)
           replace BK546 := Aside0.mk (blk_drew BK546.out)
           replace BK558 := Aside0.mk (blk_drew BK558.out)
           replace BK562 := Aside0.mk (blk_drew BK562.out)
           replace BK566 := Aside0.mk (blk_drew BK566.out)
           replace BK571 := Aside0.mk (blk_drew BK571.out)
           replace BK576 := Aside0.mk (blk_drew BK576.out)
           replace BK584 := Aside0.mk (blk_drew BK584.out)
           replace HB := Aside0.mk (below_drew1 HB.out)
           refine start_ (n := 35) (S := fun w' => w'.cell? ⟨gb584, 0, none⟩ = some (.bool t580) ∧ w'.cell? ⟨gb584, 1, none⟩ = some (.string t581) ∧ w'.cell? ⟨gb584, 2, none⟩ = some (.string t582) ∧ w'.cell? ⟨gb571, 0, none⟩ = some (.bool t567) ∧ w'.cell? ⟨gb571, 1, none⟩ = some (.string t568) ∧ w'.cell? ⟨gb571, 2, none⟩ = some (.string t569)) (ds := []) #[false, false, false, false, false, false, false, false, false, false, false, false, false, false, false, false, false, false, false, false, false, false, false, false, false, false, false, false, false, false, false, false, false, false, false] (by kernel_rfl) rfl rfl ⟨bc_ BK584 0, bc_ BK584 1, bc_ BK584 2, bc_ BK571 0, bc_ BK571 1, bc_ BK571 2⟩ (fun hHeld => ?_); refine with_tabW florinlaw04_ShowAgain.tab12 florinlaw04_ShowAgain.bits12 (fun HT_ HW_ => ?_)
           generalize wc.drew = w133 at BK544 BK545 BK546 BK558 BK562 BK566 BK571 BK576 BK584 HB hHeld ⊢
           refine pu_ 0 55 (bm_ 35 1) HT_ ?_
           refine pu_ 1 56 (bm_ 35 3) HT_ ?_
           refine pu_ 2 57 (bm_ 35 7) HT_ ?_
           refine pu_ 3 58 (bm_ 35 15) HT_ ?_
           refine pu_ 4 59 (bm_ 35 31) HT_ ?_
           refine pu_ 5 60 (bm_ 35 63) HT_ ?_
           refine pu_ 6 61 (bm_ 35 127) HT_ ?_
           refine pu_ 7 62 (bm_ 35 255) HT_ ?_
           refine pu_ 8 63 (bm_ 35 511) HT_ ?_
           refine pu_ 9 64 (bm_ 35 1023) HT_ ?_
           refine pu_ 10 65 (bm_ 35 2047) HT_ ?_
           refine tk_ 11 66 (bm_ 35 4095) HT_ HW_ hHeld rfl (by rintro w' ⟨s0, s1, s2, s3, s4, s5⟩; go_simp; with_reducible rfl) ?_
           refine tk_ 12 67 (bm_ 35 8191) HT_ HW_ hHeld rfl (by rintro w' ⟨s0, s1, s2, s3, s4, s5⟩; go_simp; with_reducible rfl) ?_
           refine pu_ 13 68 (bm_ 35 16383) HT_ ?_
           refine pu_ 14 69 (bm_ 35 32767) HT_ ?_
           refine pu_ 15 70 (bm_ 35 65535) HT_ ?_
           refine pn_ 16 71 (bm_ 35 131071) HT_ ?_
           refine pn_ 17 72 (bm_ 35 262143) HT_ ?_
           refine pn_ 18 73 (bm_ 35 524287) HT_ ?_
           refine pn_ 19 74 (bm_ 35 1048575) HT_ ?_
           refine pn_ 20 75 (bm_ 35 2097151) HT_ ?_
           refine pn_ 21 76 (bm_ 35 4194303) HT_ ?_
           refine pn_ 22 77 (bm_ 35 8388607) HT_ ?_
           refine pu_ 23 78 (bm_ 35 16777215) HT_ ?_
           refine pu_ 24 79 (bm_ 35 33554431) HT_ ?_
           refine pn_ 25 80 (bm_ 35 67108863) HT_ ?_
           refine pn_ 26 81 (bm_ 35 134217727) HT_ ?_
           refine pn_ 27 82 (bm_ 35 268435455) HT_ ?_
           refine pn_ 28 83 (bm_ 35 536870911) HT_ ?_
           refine pn_ 29 84 (bm_ 35 1073741823) HT_ ?_
           refine pn_ 30 85 (bm_ 35 2147483647) HT_ ?_
           refine pn_ 31 86 (bm_ 35 4294967295) HT_ ?_
           refine pn_ 32 87 (bm_ 35 8589934591) HT_ ?_
           refine pu_ 33 88 (bm_ 35 17179869183) HT_ ?_
           refine pu_ 34 6 (bm_ 35 34359738367) HT_ ?_
           refine done_ (done_of HT_.out (by kernel_rfl)) ?_
           try go_wp2
           go_ret
           exact ⟨ew_, (bl_ HB).out⟩
         ·rw [if_neg c114] at H
          have c114b0 : (t583 == 0) = false := beq_eq_false_iff_ne.mpr c114
          have c114b1 : (t583 != 0) = true := bne_iff_ne.mpr c114
          obtain rfl := Option.some.inj H
          try go_wp2
          replace BK544 := Aside0.mk (blk_drew BK544.out)
          replace BK545 := Aside0.mk (blk_drew BK545.out)
          replace BK546 := Aside0.mk (blk_drew BK546.out)
          replace BK558 := Aside0.mk (blk_drew BK558.out)
          replace BK562 := Aside0.mk (blk_drew BK562.out)
          replace BK566 := Aside0.mk (blk_drew BK566.out)
          replace BK571 := Aside0.mk (blk_drew BK571.out)
          replace BK576 := Aside0.mk (blk_drew BK576.out)
          replace BK584 := Aside0.mk (blk_drew BK584.out)
          replace HB := Aside0.mk (below_drew1 HB.out)
          refine start_ (n := 35) (S := fun w' => True) (ds := []) #[false, false, false, false, false, false, false, false, false, false, false, false, false, false, false, false, false, false, false, false, false, false, false, false, false, false, false, false, false, false, false, false, false, false, false] (by kernel_rfl) rfl rfl trivial (fun hHeld => ?_); refine with_tabW florinlaw04_ShowAgain.tab12 florinlaw04_ShowAgain.bits12 (fun HT_ HW_ => ?_)
          generalize wc.drew = w134 at BK544 BK545 BK546 BK558 BK562 BK566 BK571 BK576 BK584 HB hHeld ⊢
          refine pu_ 0 55 (bm_ 35 1) HT_ ?_
          refine pu_ 1 56 (bm_ 35 3) HT_ ?_
          refine pu_ 2 57 (bm_ 35 7) HT_ ?_
          refine pu_ 3 58 (bm_ 35 15) HT_ ?_
          refine pu_ 4 59 (bm_ 35 31) HT_ ?_
          refine pu_ 5 60 (bm_ 35 63) HT_ ?_
          refine pu_ 6 61 (bm_ 35 127) HT_ ?_
          refine pu_ 7 62 (bm_ 35 255) HT_ ?_
          refine pu_ 8 63 (bm_ 35 511) HT_ ?_
          refine pu_ 9 64 (bm_ 35 1023) HT_ ?_
          refine pu_ 10 65 (bm_ 35 2047) HT_ ?_
          refine pn_ 11 66 (bm_ 35 4095) HT_ ?_
          refine pn_ 12 67 (bm_ 35 8191) HT_ ?_
          refine pn_ 13 68 (bm_ 35 16383) HT_ ?_
          refine pu_ 14 69 (bm_ 35 32767) HT_ ?_
          refine pu_ 15 70 (bm_ 35 65535) HT_ ?_
          refine pn_ 16 71 (bm_ 35 131071) HT_ ?_
          refine pn_ 17 72 (bm_ 35 262143) HT_ ?_
          refine pn_ 18 73 (bm_ 35 524287) HT_ ?_
          refine pn_ 19 74 (bm_ 35 1048575) HT_ ?_
          refine pn_ 20 75 (bm_ 35 2097151) HT_ ?_
          refine pn_ 21 76 (bm_ 35 4194303) HT_ ?_
          refine pn_ 22 77 (bm_ 35 8388607) HT_ ?_
          refine pu_ 23 78 (bm_ 35 16777215) HT_ ?_
          refine pu_ 24 79 (bm_ 35 33554431) HT_ ?_
          refine pn_ 25 80 (bm_ 35 67108863) HT_ ?_
          refine pn_ 26 81 (bm_ 35 134217727) HT_ ?_
          refine pn_ 27 82 (bm_ 35 268435455) HT_ ?_
          refine pn_ 28 83 (bm_ 35 536870911) HT_ ?_
          refine pn_ 29 84 (bm_ 35 1073741823) HT_ ?_
          refine pn_ 30 85 (bm_ 35 2147483647) HT_ ?_
          refine pn_ 31 86 (bm_ 35 4294967295) HT_ ?_
          refine pn_ 32 87 (bm_ 35 8589934591) HT_ ?_
          refine pu_ 33 88 (bm_ 35 17179869183) HT_ ?_
          refine pu_ 34 6 (bm_ 35 34359738367) HT_ ?_
          refine done_ (done_of HT_.out (by kernel_rfl)) ?_
          try go_wp2
          go_ret
          exact ⟨ew_, (bl_ HB).out⟩
        ·rw [if_neg c113] at H
         have c113b0 : (t575 == 0) = false := beq_eq_false_iff_ne.mpr c113
         have c113b1 : (t575 != 0) = true := bne_iff_ne.mpr c113
         obtain rfl := Option.some.inj H
         try go_wp2
         replace BK544 := Aside0.mk (blk_drew BK544.out)
         replace BK545 := Aside0.mk (blk_drew BK545.out)
         replace BK546 := Aside0.mk (blk_drew BK546.out)
         replace BK558 := Aside0.mk (blk_drew BK558.out)
         replace BK562 := Aside0.mk (blk_drew BK562.out)
         replace BK566 := Aside0.mk (blk_drew BK566.out)
         replace BK571 := Aside0.mk (blk_drew BK571.out)
         replace BK576 := Aside0.mk (blk_drew BK576.out)
         replace BK584 := Aside0.mk (blk_drew BK584.out)
         replace HB := Aside0.mk (below_drew1 HB.out)
         refine start_ (n := 35) (S := fun w' => True) (ds := []) #[false, false, false, false, false, false, false, false, false, false, false, false, false, false, false, false, false, false, false, false, false, false, false, false, false, false, false, false, false, false, false, false, false, false, false] (by kernel_rfl) rfl rfl trivial (fun hHeld => ?_); refine with_tabW florinlaw04_ShowAgain.tab12 florinlaw04_ShowAgain.bits12 (fun HT_ HW_ => ?_)
         generalize wc.drew = w135 at BK544 BK545 BK546 BK558 BK562 BK566 BK571 BK576 BK584 HB hHeld ⊢
         refine pu_ 0 55 (bm_ 35 1) HT_ ?_
         refine pu_ 1 56 (bm_ 35 3) HT_ ?_
         refine pu_ 2 57 (bm_ 35 7) HT_ ?_
         refine pu_ 3 58 (bm_ 35 15) HT_ ?_
         refine pu_ 4 59 (bm_ 35 31) HT_ ?_
         refine pu_ 5 60 (bm_ 35 63) HT_ ?_
         refine pu_ 6 61 (bm_ 35 127) HT_ ?_
         refine pn_ 7 62 (bm_ 35 255) HT_ ?_
         refine pn_ 8 63 (bm_ 35 511) HT_ ?_
         refine pu_ 9 64 (bm_ 35 1023) HT_ ?_
         refine pu_ 10 65 (bm_ 35 2047) HT_ ?_
         refine pn_ 11 66 (bm_ 35 4095) HT_ ?_
         refine pn_ 12 67 (bm_ 35 8191) HT_ ?_
         refine pn_ 13 68 (bm_ 35 16383) HT_ ?_
         refine pu_ 14 69 (bm_ 35 32767) HT_ ?_
         refine pu_ 15 70 (bm_ 35 65535) HT_ ?_
         refine pn_ 16 71 (bm_ 35 131071) HT_ ?_
         refine pn_ 17 72 (bm_ 35 262143) HT_ ?_
         refine pn_ 18 73 (bm_ 35 524287) HT_ ?_
         refine pn_ 19 74 (bm_ 35 1048575) HT_ ?_
         refine pn_ 20 75 (bm_ 35 2097151) HT_ ?_
         refine pn_ 21 76 (bm_ 35 4194303) HT_ ?_
         refine pn_ 22 77 (bm_ 35 8388607) HT_ ?_
         refine pu_ 23 78 (bm_ 35 16777215) HT_ ?_
         refine pu_ 24 79 (bm_ 35 33554431) HT_ ?_
         refine pn_ 25 80 (bm_ 35 67108863) HT_ ?_
         refine pn_ 26 81 (bm_ 35 134217727) HT_ ?_
         refine pn_ 27 82 (bm_ 35 268435455) HT_ ?_
         refine pn_ 28 83 (bm_ 35 536870911) HT_ ?_
         refine pn_ 29 84 (bm_ 35 1073741823) HT_ ?_
         refine pn_ 30 85 (bm_ 35 2147483647) HT_ ?_
         refine pn_ 31 86 (bm_ 35 4294967295) HT_ ?_
         refine pn_ 32 87 (bm_ 35 8589934591) HT_ ?_
         refine pu_ 33 88 (bm_ 35 17179869183) HT_ ?_
         refine pu_ 34 6 (bm_ 35 34359738367) HT_ ?_
         refine done_ (done_of HT_.out (by kernel_rfl)) ?_
         try go_wp2
         go_ret
         exact ⟨ew_, (bl_ HB).out⟩
       ·rw [if_neg c112] at H
        have c112b0 : (t570 == 0) = false := beq_eq_false_iff_ne.mpr c112
        have c112b1 : (t570 != 0) = true := bne_iff_ne.mpr c112
        obtain rfl := Option.some.inj H
        try go_wp2
        replace BK544 := Aside0.mk (blk_drew BK544.out)
        replace BK545 := Aside0.mk (blk_drew BK545.out)
        replace BK546 := Aside0.mk (blk_drew BK546.out)
        replace BK558 := Aside0.mk (blk_drew BK558.out)
        replace BK562 := Aside0.mk (blk_drew BK562.out)
        replace BK566 := Aside0.mk (blk_drew BK566.out)
        replace BK571 := Aside0.mk (blk_drew BK571.out)
        replace BK576 := Aside0.mk (blk_drew BK576.out)
        replace BK584 := Aside0.mk (blk_drew BK584.out)
        replace HB := Aside0.mk (below_drew1 HB.out)
        refine start_ (n := 35) (S := fun w' => True) (ds := []) #[false, false, false, false, false, false, false, false, false, false, false, false, false, false, false, false, false, false, false, false, false, false, false, false, false, false, false, false, false, false, false, false, false, false, false] (by kernel_rfl) rfl rfl trivial (fun hHeld => ?_); refine with_tabW florinlaw04_ShowAgain.tab12 florinlaw04_ShowAgain.bits12 (fun HT_ HW_ => ?_)
        generalize wc.drew = w136 at BK544 BK545 BK546 BK558 BK562 BK566 BK571 BK576 BK584 HB hHeld ⊢
        refine pu_ 0 55 (bm_ 35 1) HT_ ?_
        refine pu_ 1 56 (bm_ 35 3) HT_ ?_
        refine pu_ 2 57 (bm_ 35 7) HT_ ?_
        refine pn_ 3 58 (bm_ 35 15) HT_ ?_
        refine pn_ 4 59 (bm_ 35 31) HT_ ?_
        refine pu_ 5 60 (bm_ 35 63) HT_ ?_
        refine pu_ 6 61 (bm_ 35 127) HT_ ?_
        refine pn_ 7 62 (bm_ 35 255) HT_ ?_
        refine pn_ 8 63 (bm_ 35 511) HT_ ?_
        refine pu_ 9 64 (bm_ 35 1023) HT_ ?_
        refine pu_ 10 65 (bm_ 35 2047) HT_ ?_
        refine pn_ 11 66 (bm_ 35 4095) HT_ ?_
        refine pn_ 12 67 (bm_ 35 8191) HT_ ?_
        refine pn_ 13 68 (bm_ 35 16383) HT_ ?_
        refine pu_ 14 69 (bm_ 35 32767) HT_ ?_
        refine pu_ 15 70 (bm_ 35 65535) HT_ ?_
        refine pn_ 16 71 (bm_ 35 131071) HT_ ?_
        refine pn_ 17 72 (bm_ 35 262143) HT_ ?_
        refine pn_ 18 73 (bm_ 35 524287) HT_ ?_
        refine pn_ 19 74 (bm_ 35 1048575) HT_ ?_
        refine pn_ 20 75 (bm_ 35 2097151) HT_ ?_
        refine pn_ 21 76 (bm_ 35 4194303) HT_ ?_
        refine pn_ 22 77 (bm_ 35 8388607) HT_ ?_
        refine pu_ 23 78 (bm_ 35 16777215) HT_ ?_
        refine pu_ 24 79 (bm_ 35 33554431) HT_ ?_
        refine pn_ 25 80 (bm_ 35 67108863) HT_ ?_
        refine pn_ 26 81 (bm_ 35 134217727) HT_ ?_
        refine pn_ 27 82 (bm_ 35 268435455) HT_ ?_
        refine pn_ 28 83 (bm_ 35 536870911) HT_ ?_
        refine pn_ 29 84 (bm_ 35 1073741823) HT_ ?_
        refine pn_ 30 85 (bm_ 35 2147483647) HT_ ?_
        refine pn_ 31 86 (bm_ 35 4294967295) HT_ ?_
        refine pn_ 32 87 (bm_ 35 8589934591) HT_ ?_
        refine pu_ 33 88 (bm_ 35 17179869183) HT_ ?_
        refine pu_ 34 6 (bm_ 35 34359738367) HT_ ?_
        refine done_ (done_of HT_.out (by kernel_rfl)) ?_
        try go_wp2
        go_ret
        exact ⟨ew_, (bl_ HB).out⟩
 ·replace c5 := Bool.eq_false_iff.mpr c5
  subst c5
  have H1 : (some false) = some r := by rw [if_neg (show ¬ (false = true) by decide)] at H; exact H
  clear H
  have H := H1
  clear H1
  obtain rfl := Option.some.inj H
  go_enter Tryd.func7, Tryd.ntmps7
  go_wp2_with (first | ((with_reducible refine gate_dst (N := 3) rfl ?_); refine be_ 3 #[.bool a0_0, .slice A0_1 l0_1.length c0_1, .int .i64 a0_2] 24 ?_; intro gb544 hg w137 hbox hb; have BK544 := Aside0.mk (hbox); have GW544 := sz_ HB hg; have GE544 := sz_ HB hg; replace HB := Aside0.mk (below_step (bl_ HB).out hb); clear hb hbox hg) | ((with_reducible refine gate_dst (N := 4) rfl ?_); refine be_ 4 #[.bool a1_0, .slice A1_1 l1_1.length c1_1, .int .i64 a1_2] 24 ?_; intro gb545 hg w138 hbox hb; have BK545 := Aside0.mk (hbox); have GW545 := sz_ HB hg; have GE545 := sz_ HB hg; have NB544_545 := na_ BK544 hg; have NB545_544 := nb_ BK544 hg; replace BK544 := bb_ BK544 hb; replace HB := Aside0.mk (below_step (bl_ HB).out hb); clear hb hbox hg) | ((with_reducible refine gate_dst (N := 5) rfl ?_); refine be_ 5 #[.int .i64 a2_0, .int .i64 a2_1, .int .i64 a2_2, .int .i64 a2_3, .int .i64 a2_4, .int .i64 a2_5, .int .i64 a2_6] 42 ?_; intro gb546 hg w139 hbox hb; have BK546 := Aside0.mk (hbox); have GW546 := sz_ HB hg; have GE546 := sz_ HB hg; have NB544_546 := na_ BK544 hg; have NB546_544 := nb_ BK544 hg; have NB545_546 := na_ BK545 hg; have NB546_545 := nb_ BK545 hg; replace BK544 := bb_ BK544 hb; replace BK545 := bb_ BK545 hb; replace HB := Aside0.mk (below_step (bl_ HB).out hb); clear hb hbox hg) | ((with_reducible refine gate_callee (f := 8) rfl ?_); refine gl_ (some 17) Tryd.func8 #[] ?_; (with_reducible refine (florinlaw04_head.calls k  false _ A4.out).mono ?_); rintro e w140 ⟨rfl, hb⟩; refine ⟨_, rfl, ?_⟩; replace BK544 := bb_ BK544 hb; replace BK545 := bb_ BK545 hb; replace BK546 := bb_ BK546 hb; replace HB := Aside0.mk (below_step (bl_ HB).out hb); (try clear hb); (try clear hb2); (try clear hk); (try clear hi)))
  go_ret
  exact ⟨ew_, (bl_ HB).out⟩

end Go.Proofs.YthkpmiajcmihjaaDoor.P
