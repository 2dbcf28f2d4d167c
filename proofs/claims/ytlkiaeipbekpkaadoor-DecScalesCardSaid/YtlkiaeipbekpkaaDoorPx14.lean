-- written by a program of this session (wip/p2)
import Derived.Test.YtlkiaeipbekpkaaDoorPx0
import Derived.Test.YtlkiaeipbekpkaaDoorPx1
import Derived.Test.YtlkiaeipbekpkaaDoorPx2
import Derived.Test.YtlkiaeipbekpkaaDoorPx3
import Derived.Test.YtlkiaeipbekpkaaDoorPx4
import Derived.Test.YtlkiaeipbekpkaaDoorPx9
import Derived.Test.YtlkiaeipbekpkaaDoorPx11
import Derived.Test.YtlkiaeipbekpkaaDoorPx13
namespace Go.Proofs.YtlkiaeipbekpkaaDoor.P
open Go.RowKit Go.Proofs.YtlkiaeipbekpkaaDoorW.PrintWords Go.Proofs.YtlkiaeipbekpkaaDoorW.PrintLast Go.Proofs.YtlkiaeipbekpkaaDoorW.PrintMore
attribute [local go_sem] max2_int min2_int max_two min_two max_three min_three max_four min_four   -- for this text's walks alone
set_option linter.unusedVariables false
set_option linter.unusedSimpArgs false

attribute [local go_sem high] eqA24
/-! ### florinlaw02_DecScales: function 5 -/
def florinlaw02_DecScales.j0 : Nat → Int → Bool → Option (Bool)
 | 0, _, _ => none
 | k + 1, x2, x62 => if x62 = true then (some false) else ((dec_Made.f k false (⟨#[49]⟩ : ByteArray) x2).bind fun bt299 => ((dec_Made.f k false (⟨#[49]⟩ : ByteArray) 0).bind fun bt303 => ((dec_Dec_Scale.f k bt303.1 bt303.2.1 bt303.2.2 x2).bind fun bt306 => (if (bt299.1 == bt306.1 && (bt299.2.1.toList == bt306.2.1.toList && (bt299.2.2 == bt306.2.2))) = true then (if bt299.2.2 = (mn (mx x2 (-30000)) 30000) then ((dec_Made.f k true (⟨#[48]⟩ : ByteArray) x2).bind fun bt310 => (if (!bt310.1 && (bt310.2.1.toList == ([] : List UInt8) && (bt310.2.2 == 0))) = true then ((dec_Dec_Norm.f k false (⟨#[53]⟩ : ByteArray) x2).bind fun bt313 => (some (bt313.2.2 == bt299.2.2))) else (some false))) else (some false)) else (some false)))))
def florinlaw02_DecScales.f (k : Nat) (a0_0 : Bool) (l0_1 : List Int) (a0_2 : Int) (a1 : Int) (a2 : Int) : Option (Bool) := (florinlaw02_head.f k).bind fun t279 => (if t279 = true then ((florinlaw02_Raw_Few.f a0_0 l0_1 a0_2 60).bind fun t280 => (if t280 = true then ((florinlaw02_Raw_Make.f k a0_0 l0_1 a0_2).bind fun bt281 => ((dec_Dec_Scale.f k bt281.1 bt281.2.1 bt281.2.2 (wrap64 ((Int.tmod a1 1000) - (wrap64 (Int.tdiv (Int.tmod a1 1000) 2))))).bind fun bt285 => ((dec_Dec_Mag.f k bt281.1 bt281.2.1 bt281.2.2).bind fun bt289 => ((dec_Dec_Mag.f k bt285.1 bt285.2.1 bt285.2.2).bind fun bt291 => ((dec_Dec_Scale.f k bt285.1 bt285.2.1 bt285.2.2 (wrap64 (-(wrap64 ((Int.tmod a1 1000) - (wrap64 (Int.tdiv (Int.tmod a1 1000) 2))))))).bind fun bt293 => ((dec_Dec_Norm.f k bt281.1 bt281.2.1 bt281.2.2).bind fun bt296 => (if (!(bt293.1 == bt296.1) || (!(bt293.2.1.toList == bt296.2.1.toList) || (!(bt293.2.2 == bt296.2.2)))) = true then (florinlaw02_DecScales.j0 k a2 true) else (if (bt289.2 != bt291.2) = true then (florinlaw02_DecScales.j0 k a2 true) else (if bt289.2 = true then (florinlaw02_DecScales.j0 k a2 (bt291.1 != (wrap64 (bt289.1 + (wrap64 ((Int.tmod a1 1000) - (wrap64 (Int.tdiv (Int.tmod a1 1000) 2)))))))) else (florinlaw02_DecScales.j0 k a2 false)))))))))) else (some true))) else (some false))
theorem florinlaw02_DecScales.mono_l : ∀ k, (∀ y0 y1, LeO (florinlaw02_DecScales.j0 k y0 y1) (florinlaw02_DecScales.j0 (k + 1) y0 y1))
 | 0 => fun _ _ r h => by simp [florinlaw02_DecScales.j0] at h
 | k + 1 => by
  have ih0 := florinlaw02_DecScales.mono_l k
  ·intro y0 y1
   unfold florinlaw02_DecScales.j0
   repeat' first
   | (with_reducible exact ih0 _ _)
   | (with_reducible exact dec_Dec_Mag.mono _ _ _ _)
   | (with_reducible exact dec_Dec_Norm.mono _ _ _ _)
   | (with_reducible exact dec_Dec_Scale.mono _ _ _ _ _)
   | (with_reducible exact dec_Made.mono _ _ _ _)
   | (with_reducible exact florinlaw02_Raw_Make.mono _ _ _ _)
   | (with_reducible exact florinlaw02_head.mono _)
   | (with_reducible exact LeO.refl _)
   | (with_reducible exact LeO.none _)
   | (with_reducible refine LeO.ite ?_ ?_)
   | (with_reducible refine LeO.bind ?_ (fun _ => ?_))
   | exact ih0 _ _
   | exact dec_Dec_Mag.mono _ _ _ _
   | exact dec_Dec_Norm.mono _ _ _ _
   | exact dec_Dec_Scale.mono _ _ _ _ _
   | exact dec_Made.mono _ _ _ _
   | exact florinlaw02_Raw_Make.mono _ _ _ _
   | exact florinlaw02_head.mono _
   | exact LeO.none _
   | refine LeO.ite ?_ ?_
   | refine LeO.bind ?_ (fun _ => ?_)
theorem florinlaw02_DecScales.mono : ∀ a0 a1 a2 a3 a4 k, LeO (florinlaw02_DecScales.f k a0 a1 a2 a3 a4) (florinlaw02_DecScales.f (k + 1) a0 a1 a2 a3 a4) := by
 intro a0 a1 a2 a3 a4 k
 have ih0 := florinlaw02_DecScales.mono_l k
 unfold florinlaw02_DecScales.f
 repeat' first
   | (with_reducible exact ih0 _ _)
   | (with_reducible exact dec_Dec_Mag.mono _ _ _ _)
   | (with_reducible exact dec_Dec_Norm.mono _ _ _ _)
   | (with_reducible exact dec_Dec_Scale.mono _ _ _ _ _)
   | (with_reducible exact dec_Made.mono _ _ _ _)
   | (with_reducible exact florinlaw02_Raw_Make.mono _ _ _ _)
   | (with_reducible exact florinlaw02_head.mono _)
   | (with_reducible exact LeO.refl _)
   | (with_reducible exact LeO.none _)
   | (with_reducible refine LeO.ite ?_ ?_)
   | (with_reducible refine LeO.bind ?_ (fun _ => ?_))
   | exact ih0 _ _
   | exact dec_Dec_Mag.mono _ _ _ _
   | exact dec_Dec_Norm.mono _ _ _ _
   | exact dec_Dec_Scale.mono _ _ _ _ _
   | exact dec_Made.mono _ _ _ _
   | exact florinlaw02_Raw_Make.mono _ _ _ _
   | exact florinlaw02_head.mono _
   | exact LeO.none _
   | refine LeO.ite ?_ ?_
   | refine LeO.bind ?_ (fun _ => ?_)
def florinlaw02_DecScales.T10 : Bool × List (List Nat × List Nat) := (true, [([], []), ([], []), ([1], [1]), ([0, 2], [0, 2]), ([], []), ([4, 3], [4]), ([3, 5], [3, 5]), ([6, 5], [6]), ([7], [7]), ([7], [7]), ([8, 9, 7], [7, 8, 9]), ([7, 10], [7, 10]), ([11, 7], [11]), ([12], [12]), ([13, 12, 12], [12, 13]), ([14], [14]), ([14], [14]), ([14], [14]), ([16, 17, 14], [14, 16, 17]), ([15, 18, 14], [14, 15, 18]), ([14, 19, 12], [12, 14, 19]), ([12, 20], [12, 20])])
def florinlaw02_DecScales.B10 : List Nat := [0, 0, 2, 7, 0, 31, 63, 127, 255, 255, 1023, 2047, 4095, 8191, 16383, 32767, 32767, 32767, 229375, 524287, 1048575, 2097151]
theorem florinlaw02_DecScales.tab10 : rtab .any (opsOf Tryd.f5 10) = florinlaw02_DecScales.T10 := by kernel_rfl
theorem florinlaw02_DecScales.bits10 : waitsOk florinlaw02_DecScales.T10.2 florinlaw02_DecScales.B10 = true := by kernel_rfl
def florinlaw02_DecScales.T14 : Bool × List (List Nat × List Nat) := (true, [([], []), ([], []), ([0, 1], [0, 1]), ([2], [2]), ([3], [3]), ([4, 3], [3, 4]), ([3], [3]), ([6, 3], [3, 6]), ([7, 3], [3, 7]), ([5, 8, 3], [3, 5, 8]), ([3, 9], [3, 9]), ([10, 3], [10]), ([11], [11]), ([12, 11, 11], [11, 12]), ([11], [11]), ([13, 14, 11], [11, 13, 14]), ([11, 15], [11, 15]), ([16, 13], [16]), ([17], [17]), ([18, 17], [17, 18]), ([19, 17, 17], [17, 19]), ([20, 17], [17, 20]), ([17], [17]), ([22, 17], [17, 22]), ([21, 23, 17], [17, 21, 23]), ([17, 24], [17, 24]), ([25, 20, 0, 1, 2, 3, 4, 5, 6, 7, 8, 9, 10, 11, 12, 13, 14, 15, 16, 17, 18, 19, 20, 21, 22, 23, 24, 25], [25])])
def florinlaw02_DecScales.B14 : List Nat := [0, 0, 3, 7, 15, 31, 15, 79, 207, 511, 1023, 2047, 4095, 8191, 4095, 32767, 65535, 131071, 262143, 524287, 1048575, 2097151, 262143, 4456447, 16777215, 33554431, 67108863]
theorem florinlaw02_DecScales.tab14 : rtab .any (opsOf Tryd.f5 14) = florinlaw02_DecScales.T14 := by kernel_rfl
theorem florinlaw02_DecScales.bits14 : waitsOk florinlaw02_DecScales.T14.2 florinlaw02_DecScales.B14 = true := by kernel_rfl
set_option maxHeartbeats 8000000 in
set_option maxRecDepth 100000 in
theorem florinlaw02_DecScales.calls (k : Nat) (a0_0 : Bool) (A0_1 : Option Addr) (c0_1 : Nat) (l0_1 : List Int) (a0_2 : Int) (a1 : Int) (a2 : Int) (r : Bool) (w : World) (hr0_1 : Kd.C (Kd.int .u8) w A0_1 l0_1.length l0_1) (hc0_1 : l0_1.length ≤ c0_1) (h : florinlaw02_DecScales.f k a0_0 l0_1 a0_2 a1 a2 = some r) (ht : Lib.TabIs Tryd.prog w "internal/strconv.uint64pow10" .u64 Lib.pow10Tab := by first | assumption | exact tb_ (by assumption) (bl_ (by assumption)).out) :
  Calls Tryd.prog 5 #[.agg #[.bool a0_0, .slice A0_1 l0_1.length c0_1, .int .i64 a0_2], .int .i64 a1, .int .i64 a2] w fun e w' => e = .returned (.bool r) ∧ Below w.heap.size w w' := by
 have hu33 := Tryd.underlying33
 have hu24 := Tryd.underlying24
 have HR0_1 := Aside0.mk hr0_1
 have HC0_1 := Aside0.mk hc0_1
 clear hr0_1 hc0_1
 have HB := Aside0.mk (Below.refl w.heap.size w)
 have H : ((florinlaw02_head.f k).bind fun t279 => (if t279 = true then ((florinlaw02_Raw_Few.f a0_0 l0_1 a0_2 60).bind fun t280 => (if t280 = true then ((florinlaw02_Raw_Make.f k a0_0 l0_1 a0_2).bind fun bt281 => ((dec_Dec_Scale.f k bt281.1 bt281.2.1 bt281.2.2 (wrap64 ((Int.tmod a1 1000) - (wrap64 (Int.tdiv (Int.tmod a1 1000) 2))))).bind fun bt285 => ((dec_Dec_Mag.f k bt281.1 bt281.2.1 bt281.2.2).bind fun bt289 => ((dec_Dec_Mag.f k bt285.1 bt285.2.1 bt285.2.2).bind fun bt291 => ((dec_Dec_Scale.f k bt285.1 bt285.2.1 bt285.2.2 (wrap64 (-(wrap64 ((Int.tmod a1 1000) - (wrap64 (Int.tdiv (Int.tmod a1 1000) 2))))))).bind fun bt293 => ((dec_Dec_Norm.f k bt281.1 bt281.2.1 bt281.2.2).bind fun bt296 => (if (!(bt293.1 == bt296.1) || (!(bt293.2.1.toList == bt296.2.1.toList) || (!(bt293.2.2 == bt296.2.2)))) = true then (florinlaw02_DecScales.j0 k a2 true) else (if (bt289.2 != bt291.2) = true then (florinlaw02_DecScales.j0 k a2 true) else (if bt289.2 = true then (florinlaw02_DecScales.j0 k a2 (bt291.1 != (wrap64 (bt289.1 + (wrap64 ((Int.tmod a1 1000) - (wrap64 (Int.tdiv (Int.tmod a1 1000) 2)))))))) else (florinlaw02_DecScales.j0 k a2 false)))))))))) else (some true))) else (some false))) = some r := h
 clear h
 replace H := Option.bind_eq_some_iff.mp H
 obtain ⟨t279, A40, H⟩ := H
 replace H : (if t279 = true then ((florinlaw02_Raw_Few.f a0_0 l0_1 a0_2 60).bind fun t280 => (if t280 = true then ((florinlaw02_Raw_Make.f k a0_0 l0_1 a0_2).bind fun bt281 => ((dec_Dec_Scale.f k bt281.1 bt281.2.1 bt281.2.2 (wrap64 ((Int.tmod a1 1000) - (wrap64 (Int.tdiv (Int.tmod a1 1000) 2))))).bind fun bt285 => ((dec_Dec_Mag.f k bt281.1 bt281.2.1 bt281.2.2).bind fun bt289 => ((dec_Dec_Mag.f k bt285.1 bt285.2.1 bt285.2.2).bind fun bt291 => ((dec_Dec_Scale.f k bt285.1 bt285.2.1 bt285.2.2 (wrap64 (-(wrap64 ((Int.tmod a1 1000) - (wrap64 (Int.tdiv (Int.tmod a1 1000) 2))))))).bind fun bt293 => ((dec_Dec_Norm.f k bt281.1 bt281.2.1 bt281.2.2).bind fun bt296 => (if (!(bt293.1 == bt296.1) || (!(bt293.2.1.toList == bt296.2.1.toList) || (!(bt293.2.2 == bt296.2.2)))) = true then (florinlaw02_DecScales.j0 k a2 true) else (if (bt289.2 != bt291.2) = true then (florinlaw02_DecScales.j0 k a2 true) else (if bt289.2 = true then (florinlaw02_DecScales.j0 k a2 (bt291.1 != (wrap64 (bt289.1 + (wrap64 ((Int.tmod a1 1000) - (wrap64 (Int.tdiv (Int.tmod a1 1000) 2)))))))) else (florinlaw02_DecScales.j0 k a2 false)))))))))) else (some true))) else (some false)) = some r := H
 have A4 := Aside0.mk A40
 clear A40
 by_cases c5 : t279 = true
 ·subst c5
  have H1 : ((florinlaw02_Raw_Few.f a0_0 l0_1 a0_2 60).bind fun t280 => (if t280 = true then ((florinlaw02_Raw_Make.f k a0_0 l0_1 a0_2).bind fun bt281 => ((dec_Dec_Scale.f k bt281.1 bt281.2.1 bt281.2.2 (wrap64 ((Int.tmod a1 1000) - (wrap64 (Int.tdiv (Int.tmod a1 1000) 2))))).bind fun bt285 => ((dec_Dec_Mag.f k bt281.1 bt281.2.1 bt281.2.2).bind fun bt289 => ((dec_Dec_Mag.f k bt285.1 bt285.2.1 bt285.2.2).bind fun bt291 => ((dec_Dec_Scale.f k bt285.1 bt285.2.1 bt285.2.2 (wrap64 (-(wrap64 ((Int.tmod a1 1000) - (wrap64 (Int.tdiv (Int.tmod a1 1000) 2))))))).bind fun bt293 => ((dec_Dec_Norm.f k bt281.1 bt281.2.1 bt281.2.2).bind fun bt296 => (if (!(bt293.1 == bt296.1) || (!(bt293.2.1.toList == bt296.2.1.toList) || (!(bt293.2.2 == bt296.2.2)))) = true then (florinlaw02_DecScales.j0 k a2 true) else (if (bt289.2 != bt291.2) = true then (florinlaw02_DecScales.j0 k a2 true) else (if bt289.2 = true then (florinlaw02_DecScales.j0 k a2 (bt291.1 != (wrap64 (bt289.1 + (wrap64 ((Int.tmod a1 1000) - (wrap64 (Int.tdiv (Int.tmod a1 1000) 2)))))))) else (florinlaw02_DecScales.j0 k a2 false)))))))))) else (some true))) = some r := by rw [if_pos rfl] at H; exact H
  clear H
  have H := H1
  clear H1
  replace H := Option.bind_eq_some_iff.mp H
  obtain ⟨t280, A60, H⟩ := H
  replace H : (if t280 = true then ((florinlaw02_Raw_Make.f k a0_0 l0_1 a0_2).bind fun bt281 => ((dec_Dec_Scale.f k bt281.1 bt281.2.1 bt281.2.2 (wrap64 ((Int.tmod a1 1000) - (wrap64 (Int.tdiv (Int.tmod a1 1000) 2))))).bind fun bt285 => ((dec_Dec_Mag.f k bt281.1 bt281.2.1 bt281.2.2).bind fun bt289 => ((dec_Dec_Mag.f k bt285.1 bt285.2.1 bt285.2.2).bind fun bt291 => ((dec_Dec_Scale.f k bt285.1 bt285.2.1 bt285.2.2 (wrap64 (-(wrap64 ((Int.tmod a1 1000) - (wrap64 (Int.tdiv (Int.tmod a1 1000) 2))))))).bind fun bt293 => ((dec_Dec_Norm.f k bt281.1 bt281.2.1 bt281.2.2).bind fun bt296 => (if (!(bt293.1 == bt296.1) || (!(bt293.2.1.toList == bt296.2.1.toList) || (!(bt293.2.2 == bt296.2.2)))) = true then (florinlaw02_DecScales.j0 k a2 true) else (if (bt289.2 != bt291.2) = true then (florinlaw02_DecScales.j0 k a2 true) else (if bt289.2 = true then (florinlaw02_DecScales.j0 k a2 (bt291.1 != (wrap64 (bt289.1 + (wrap64 ((Int.tmod a1 1000) - (wrap64 (Int.tdiv (Int.tmod a1 1000) 2)))))))) else (florinlaw02_DecScales.j0 k a2 false)))))))))) else (some true)) = some r := H
  have A6 := Aside0.mk A60
  clear A60
  by_cases c7 : t280 = true
  ·subst c7
   have H1 : ((florinlaw02_Raw_Make.f k a0_0 l0_1 a0_2).bind fun bt281 => ((dec_Dec_Scale.f k bt281.1 bt281.2.1 bt281.2.2 (wrap64 ((Int.tmod a1 1000) - (wrap64 (Int.tdiv (Int.tmod a1 1000) 2))))).bind fun bt285 => ((dec_Dec_Mag.f k bt281.1 bt281.2.1 bt281.2.2).bind fun bt289 => ((dec_Dec_Mag.f k bt285.1 bt285.2.1 bt285.2.2).bind fun bt291 => ((dec_Dec_Scale.f k bt285.1 bt285.2.1 bt285.2.2 (wrap64 (-(wrap64 ((Int.tmod a1 1000) - (wrap64 (Int.tdiv (Int.tmod a1 1000) 2))))))).bind fun bt293 => ((dec_Dec_Norm.f k bt281.1 bt281.2.1 bt281.2.2).bind fun bt296 => (if (!(bt293.1 == bt296.1) || (!(bt293.2.1.toList == bt296.2.1.toList) || (!(bt293.2.2 == bt296.2.2)))) = true then (florinlaw02_DecScales.j0 k a2 true) else (if (bt289.2 != bt291.2) = true then (florinlaw02_DecScales.j0 k a2 true) else (if bt289.2 = true then (florinlaw02_DecScales.j0 k a2 (bt291.1 != (wrap64 (bt289.1 + (wrap64 ((Int.tmod a1 1000) - (wrap64 (Int.tdiv (Int.tmod a1 1000) 2)))))))) else (florinlaw02_DecScales.j0 k a2 false)))))))))) = some r := by rw [if_pos rfl] at H; exact H
   clear H
   have H := H1
   clear H1
   replace H := Option.bind_eq_some_iff.mp H
   obtain ⟨⟨t281, t282, t283⟩, A80, H⟩ := H
   replace H : ((dec_Dec_Scale.f k t281 t282 t283 (wrap64 ((Int.tmod a1 1000) - (wrap64 (Int.tdiv (Int.tmod a1 1000) 2))))).bind fun bt285 => ((dec_Dec_Mag.f k t281 t282 t283).bind fun bt289 => ((dec_Dec_Mag.f k bt285.1 bt285.2.1 bt285.2.2).bind fun bt291 => ((dec_Dec_Scale.f k bt285.1 bt285.2.1 bt285.2.2 (wrap64 (-(wrap64 ((Int.tmod a1 1000) - (wrap64 (Int.tdiv (Int.tmod a1 1000) 2))))))).bind fun bt293 => ((dec_Dec_Norm.f k t281 t282 t283).bind fun bt296 => (if (!(bt293.1 == bt296.1) || (!(bt293.2.1.toList == bt296.2.1.toList) || (!(bt293.2.2 == bt296.2.2)))) = true then (florinlaw02_DecScales.j0 k a2 true) else (if (bt289.2 != bt291.2) = true then (florinlaw02_DecScales.j0 k a2 true) else (if bt289.2 = true then (florinlaw02_DecScales.j0 k a2 (bt291.1 != (wrap64 (bt289.1 + (wrap64 ((Int.tmod a1 1000) - (wrap64 (Int.tdiv (Int.tmod a1 1000) 2)))))))) else (florinlaw02_DecScales.j0 k a2 false))))))))) = some r := H
   have A8 := Aside0.mk A80
   clear A80
   replace H := Option.bind_eq_some_iff.mp H
   obtain ⟨⟨t285, t286, t287⟩, A90, H⟩ := H
   replace H : ((dec_Dec_Mag.f k t281 t282 t283).bind fun bt289 => ((dec_Dec_Mag.f k t285 t286 t287).bind fun bt291 => ((dec_Dec_Scale.f k t285 t286 t287 (wrap64 (-(wrap64 ((Int.tmod a1 1000) - (wrap64 (Int.tdiv (Int.tmod a1 1000) 2))))))).bind fun bt293 => ((dec_Dec_Norm.f k t281 t282 t283).bind fun bt296 => (if (!(bt293.1 == bt296.1) || (!(bt293.2.1.toList == bt296.2.1.toList) || (!(bt293.2.2 == bt296.2.2)))) = true then (florinlaw02_DecScales.j0 k a2 true) else (if (bt289.2 != bt291.2) = true then (florinlaw02_DecScales.j0 k a2 true) else (if bt289.2 = true then (florinlaw02_DecScales.j0 k a2 (bt291.1 != (wrap64 (bt289.1 + (wrap64 ((Int.tmod a1 1000) - (wrap64 (Int.tdiv (Int.tmod a1 1000) 2)))))))) else (florinlaw02_DecScales.j0 k a2 false)))))))) = some r := H
   have A9 := Aside0.mk A90
   clear A90
   replace H := Option.bind_eq_some_iff.mp H
   obtain ⟨⟨t289, t290⟩, A100, H⟩ := H
   replace H : ((dec_Dec_Mag.f k t285 t286 t287).bind fun bt291 => ((dec_Dec_Scale.f k t285 t286 t287 (wrap64 (-(wrap64 ((Int.tmod a1 1000) - (wrap64 (Int.tdiv (Int.tmod a1 1000) 2))))))).bind fun bt293 => ((dec_Dec_Norm.f k t281 t282 t283).bind fun bt296 => (if (!(bt293.1 == bt296.1) || (!(bt293.2.1.toList == bt296.2.1.toList) || (!(bt293.2.2 == bt296.2.2)))) = true then (florinlaw02_DecScales.j0 k a2 true) else (if (t290 != bt291.2) = true then (florinlaw02_DecScales.j0 k a2 true) else (if t290 = true then (florinlaw02_DecScales.j0 k a2 (bt291.1 != (wrap64 (t289 + (wrap64 ((Int.tmod a1 1000) - (wrap64 (Int.tdiv (Int.tmod a1 1000) 2)))))))) else (florinlaw02_DecScales.j0 k a2 false))))))) = some r := H
   have A10 := Aside0.mk A100
   clear A100
   replace H := Option.bind_eq_some_iff.mp H
   obtain ⟨⟨t291, t292⟩, A110, H⟩ := H
   replace H : ((dec_Dec_Scale.f k t285 t286 t287 (wrap64 (-(wrap64 ((Int.tmod a1 1000) - (wrap64 (Int.tdiv (Int.tmod a1 1000) 2))))))).bind fun bt293 => ((dec_Dec_Norm.f k t281 t282 t283).bind fun bt296 => (if (!(bt293.1 == bt296.1) || (!(bt293.2.1.toList == bt296.2.1.toList) || (!(bt293.2.2 == bt296.2.2)))) = true then (florinlaw02_DecScales.j0 k a2 true) else (if (t290 != t292) = true then (florinlaw02_DecScales.j0 k a2 true) else (if t290 = true then (florinlaw02_DecScales.j0 k a2 (t291 != (wrap64 (t289 + (wrap64 ((Int.tmod a1 1000) - (wrap64 (Int.tdiv (Int.tmod a1 1000) 2)))))))) else (florinlaw02_DecScales.j0 k a2 false)))))) = some r := H
   have A11 := Aside0.mk A110
   clear A110
   have HC12 := Aside0.mk H
   clear H
   go_enter Tryd.func5, Tryd.ntmps5
   go_upto_region 10 with (first | ((with_reducible refine gate_dst (N := 3) rfl ?_); (try (refine gate_guard (by rfl) ?_; dsimp only)); refine box_event ?hg (N := 3) ?hd (cs := #[.bool a0_0, .slice A0_1 l0_1.length c0_1, .int .i64 a0_2]) (t := 33) ?hr ?_; (case hd => rfl); (case hg => rfl); (case hr => first | (go_simp; done) | (go_simp; rfl)); intro gb278 hg w13 hbox hb; have n0_ := Aside0.mk (below_step (bl_ HB).out hb); have n1_ := Aside0.mk (hbox); have n2_ := Aside0.mk ((by rw [hg]; exact (below_size (bl_ HB).out) : w.heap.size ≤ gb278)); have n3_ := Aside0.mk ((by rw [hg]; exact (below_size (bl_ HB).out) : w.heap.size ≤ gb278)); clear HB; have HB := n0_; have BK278 := n1_; have GW278 := n2_; have GE278 := n3_; clear n0_ n1_ n2_ n3_; clear hb hbox hg) | ((with_reducible refine gate_callee (f := 11) rfl ?_); refine goesL_ (some 15) rfl rfl Tryd.func11 (by kernel_rfl) rfl #[] rfl (by (try simp only [List.map_toArray, List.map_cons, List.map_nil]); first | done | rfl | (simp only [List.length_drop, List.length_take]; rfl) | (have z_ : ∀ s_ : ByteArray, s_.size ≤ 9223372036854775807 → -(s_.size : Int) = wrap64 (-(s_.size : Int)) := (fun s_ h_ => by unfold wrap64; omega); rw [← z_ _ (by omega)]; rfl)) ?_; (with_reducible refine (florinlaw02_head.calls k  true _ A4.out).mono ?_); rintro e w14 ⟨rfl, hb⟩; refine ⟨_, rfl, ?_⟩; have n0_ := bb_ BK278 hb; have n1_ := Aside0.mk (below_step (bl_ HB).out hb); clear BK278; clear HB; have BK278 := n0_; have HB := n1_; clear n0_ n1_; (try clear hb); (try clear hb2); (try clear hk); (try clear hi); have hcz15_0 : w14.cell? ⟨gb278, 0, none⟩ = some (.bool a0_0) := (blk_cell BK278.out 0).trans rfl; have hcz15_1 : w14.cell? ⟨gb278, 1, none⟩ = some (.slice A0_1 l0_1.length c0_1) := (blk_cell BK278.out 1).trans rfl; have hcz15_2 : w14.cell? ⟨gb278, 2, none⟩ = some (.int .i64 a0_2) := (blk_cell BK278.out 2).trans rfl; have hfz15_0 := blk_frozen BK278.out 0; have hfz15_1 := blk_frozen BK278.out 1; have hfz15_2 := blk_frozen BK278.out 2) | ((with_reducible refine gate_callee (f := 17) rfl ?_); refine goesL_ (some 18) rfl rfl Tryd.func17 (by kernel_rfl) rfl #[.agg #[.bool a0_0, .slice A0_1 l0_1.length c0_1, .int .i64 a0_2], .int .i64 60] rfl (by (try simp only [List.map_toArray, List.map_cons, List.map_nil]); first | done | rfl | (simp only [List.length_drop, List.length_take]; rfl) | (have z_ : ∀ s_ : ByteArray, s_.size ≤ 9223372036854775807 → -(s_.size : Int) = wrap64 (-(s_.size : Int)) := (fun s_ h_ => by unfold wrap64; omega); rw [← z_ _ (by omega)]; rfl)) ?_; (with_reducible refine (florinlaw02_Raw_Few.calls a0_0 _ _ l0_1 a0_2 60 true _ ?side1 ?side2 A6.out).mono ?_); (case side1 => repeat (first | exact (Kd.C_below HR0_1.out HB.out) | (with_reducible refine Kd.C_alloc ?_ _) | (with_reducible refine Kd.C_drewN ?_ _) | (with_reducible refine Kd.C_drew ?_))); (case side2 => exact HC0_1.out); rintro e w16 ⟨rfl, hb⟩; refine ⟨_, rfl, ?_⟩; have n0_ := bb_ BK278 hb; have n1_ := Aside0.mk (below_step (bl_ HB).out hb); clear BK278; clear HB; have BK278 := n0_; have HB := n1_; clear n0_ n1_; (try clear hb); (try clear hb2); (try clear hk); (try clear hi); have hcz17_0 : w16.cell? ⟨gb278, 0, none⟩ = some (.bool a0_0) := (blk_cell BK278.out 0).trans rfl; have hcz17_1 : w16.cell? ⟨gb278, 1, none⟩ = some (.slice A0_1 l0_1.length c0_1) := (blk_cell BK278.out 1).trans rfl; have hcz17_2 : w16.cell? ⟨gb278, 2, none⟩ = some (.int .i64 a0_2) := (blk_cell BK278.out 2).trans rfl; have hfz17_0 := blk_frozen BK278.out 0; have hfz17_1 := blk_frozen BK278.out 1; have hfz17_2 := blk_frozen BK278.out 2) | ((with_reducible refine gate_callee (f := 18) rfl ?_); refine goesL_ (some 27) rfl rfl Tryd.func18 (by kernel_rfl) rfl #[.agg #[.bool a0_0, .slice A0_1 l0_1.length c0_1, .int .i64 a0_2]] rfl (by (try simp only [List.map_toArray, List.map_cons, List.map_nil]); first | done | rfl | (simp only [List.length_drop, List.length_take]; rfl) | (have z_ : ∀ s_ : ByteArray, s_.size ≤ 9223372036854775807 → -(s_.size : Int) = wrap64 (-(s_.size : Int)) := (fun s_ h_ => by unfold wrap64; omega); rw [← z_ _ (by omega)]; rfl)) ?_; (with_reducible refine (florinlaw02_Raw_Make.calls k a0_0 _ _ l0_1 a0_2 t281 t282 t283 _ ?side1 ?side2 A8.out).mono ?_); (case side1 => repeat (first | exact (Kd.C_below HR0_1.out HB.out) | (with_reducible refine Kd.C_alloc ?_ _) | (with_reducible refine Kd.C_drewN ?_ _) | (with_reducible refine Kd.C_drew ?_))); (case side2 => exact HC0_1.out); rintro e w18 ⟨rfl, hb⟩; refine ⟨_, rfl, ?_⟩; have n0_ := bb_ BK278 hb; have n1_ := Aside0.mk (below_step (bl_ HB).out hb); clear BK278; clear HB; have BK278 := n0_; have HB := n1_; clear n0_ n1_; (try clear hb); (try clear hb2); (try clear hk); (try clear hi)) | ((with_reducible refine gate_dst (N := 7) rfl ?_); (try (refine gate_guard (by rfl) ?_; dsimp only)); refine box_event ?hg (N := 7) ?hd (cs := #[.bool false, .string (⟨#[]⟩ : ByteArray), .int .i64 0]) (t := 24) ?hr ?_; (case hd => rfl); (case hg => rfl); (case hr => first | (go_simp; done) | (go_simp; rfl)); intro gb284 hg w19 hbox hb; have n0_ := bb_ BK278 hb; have n1_ := Aside0.mk (below_step (bl_ HB).out hb); have n2_ := Aside0.mk (hbox); have n3_ := Aside0.mk ((by rw [hg]; exact (below_size (bl_ HB).out) : w.heap.size ≤ gb284)); have n4_ := Aside0.mk ((by rw [hg]; exact (below_size (bl_ HB).out) : w.heap.size ≤ gb284)); have n5_ := Aside0.mk ((by rw [hg]; exact Nat.ne_of_lt (blk_lt (g := gb278) (o := .cells #[.bool a0_0, .slice A0_1 l0_1.length c0_1, .int .i64 a0_2] 33 (0, 0)) (by (with_reducible repeat (first | refine blk_drewN ?_ _ | refine blk_drew ?_ | refine blk_alloc ?_ _)); exact BK278.out)) : gb278 ≠ gb284)); have n6_ := Aside0.mk ((by rw [hg]; exact Nat.ne_of_gt (blk_lt (g := gb278) (o := .cells #[.bool a0_0, .slice A0_1 l0_1.length c0_1, .int .i64 a0_2] 33 (0, 0)) (by (with_reducible repeat (first | refine blk_drewN ?_ _ | refine blk_drew ?_ | refine blk_alloc ?_ _)); exact BK278.out)) : gb284 ≠ gb278)); clear BK278; clear HB; have BK278 := n0_; have HB := n1_; have BK284 := n2_; have GW284 := n3_; have GE284 := n4_; have NB278_284 := n5_; have NB284_278 := n6_; clear n0_ n1_ n2_ n3_ n4_ n5_ n6_; clear hb hbox hg; have hnb20 := NB284_278.out; have hnc20 := NB278_284.out; have hcz21_0 : w19.cell? ⟨gb284, 0, none⟩ = some (.bool false) := (blk_cell BK284.out 0).trans rfl; have hcz21_1 : w19.cell? ⟨gb284, 1, none⟩ = some (.string (⟨#[]⟩ : ByteArray)) := (blk_cell BK284.out 1).trans rfl; have hcz21_2 : w19.cell? ⟨gb284, 2, none⟩ = some (.int .i64 0) := (blk_cell BK284.out 2).trans rfl; have hfz21_0 := blk_frozen BK284.out 0; have hfz21_1 := blk_frozen BK284.out 1; have hfz21_2 := blk_frozen BK284.out 2) | ((with_reducible refine gate_callee (f := 25) rfl ?_); refine goesL_ (some 30) rfl rfl Tryd.func25 (by kernel_rfl) rfl #[.agg #[.bool t281, .string t282, .int .i64 t283], .int .i64 (wrap64 ((Int.tmod a1 1000) - (wrap64 (Int.tdiv (Int.tmod a1 1000) 2))))] rfl (by (try simp only [List.map_toArray, List.map_cons, List.map_nil]); first | done | rfl | (simp only [List.length_drop, List.length_take]; rfl) | (have z_ : ∀ s_ : ByteArray, s_.size ≤ 9223372036854775807 → -(s_.size : Int) = wrap64 (-(s_.size : Int)) := (fun s_ h_ => by unfold wrap64; omega); rw [← z_ _ (by omega)]; rfl)) ?_; (with_reducible refine (dec_Dec_Scale.calls k t281 t282 t283 (wrap64 ((Int.tmod a1 1000) - (wrap64 (Int.tdiv (Int.tmod a1 1000) 2)))) t285 t286 t287 _ A9.out).mono ?_); rintro e w22 ⟨rfl, hb⟩; refine ⟨_, rfl, ?_⟩; have n0_ := Aside0.mk (blk_below (g := gb278) (o := .cells #[.bool a0_0, .slice A0_1 l0_1.length c0_1, .int .i64 a0_2] 33 (0, 0)) (by (with_reducible repeat (first | refine blk_drewN ?_ _ | refine blk_drew ?_ | refine blk_alloc ?_ _)); refine blk_far ?_ NB278_284.out _; (with_reducible repeat (first | refine blk_drewN ?_ _ | refine blk_drew ?_ | refine blk_alloc ?_ _)); refine blk_far ?_ NB278_284.out _; (with_reducible repeat (first | refine blk_drewN ?_ _ | refine blk_drew ?_ | refine blk_alloc ?_ _)); refine blk_far ?_ NB278_284.out _; (with_reducible repeat (first | refine blk_drewN ?_ _ | refine blk_drew ?_ | refine blk_alloc ?_ _)); exact BK278.out) hb); have n1_ := Aside0.mk (blk_below (g := gb284) (o := .cells #[.bool t281, .string t282, .int .i64 t283] 24 (0, 0)) (by (with_reducible repeat (first | refine blk_drewN ?_ _ | refine blk_drew ?_ | refine blk_alloc ?_ _)); refine blk_put (cs := #[.bool t281, .string t282, .int .i64 0]) ?_ 2 _ rfl; (with_reducible repeat (first | refine blk_drewN ?_ _ | refine blk_drew ?_ | refine blk_alloc ?_ _)); refine blk_put (cs := #[.bool t281, .string (⟨#[]⟩ : ByteArray), .int .i64 0]) ?_ 1 _ rfl; (with_reducible repeat (first | refine blk_drewN ?_ _ | refine blk_drew ?_ | refine blk_alloc ?_ _)); refine blk_put (cs := #[.bool false, .string (⟨#[]⟩ : ByteArray), .int .i64 0]) ?_ 0 _ rfl; (with_reducible repeat (first | refine blk_drewN ?_ _ | refine blk_drew ?_ | refine blk_alloc ?_ _)); exact BK284.out) hb); have n2_ := Aside0.mk (below_step (bl_ HB).out hb); clear BK278; clear BK284; clear HB; have BK278 := n0_; have BK284 := n1_; have HB := n2_; clear n0_ n1_ n2_; (try clear hb); (try clear hb2); (try clear hk); (try clear hi)) | ((with_reducible refine gate_dst (N := 8) rfl ?_); (try (refine gate_guard (by rfl) ?_; dsimp only)); refine box_event ?hg (N := 8) ?hd (cs := #[.bool false, .string (⟨#[]⟩ : ByteArray), .int .i64 0]) (t := 24) ?hr ?_; (case hd => rfl); (case hg => rfl); (case hr => first | (go_simp; done) | (go_simp; rfl)); intro gb288 hg w23 hbox hb; have n0_ := bb_ BK278 hb; have n1_ := bb_ BK284 hb; have n2_ := Aside0.mk (below_step (bl_ HB).out hb); have n3_ := Aside0.mk (hbox); have n4_ := Aside0.mk ((by rw [hg]; exact (below_size (bl_ HB).out) : w.heap.size ≤ gb288)); have n5_ := Aside0.mk ((by rw [hg]; exact (below_size (bl_ HB).out) : w.heap.size ≤ gb288)); have n6_ := Aside0.mk ((by rw [hg]; exact Nat.ne_of_lt (blk_lt (g := gb278) (o := .cells #[.bool a0_0, .slice A0_1 l0_1.length c0_1, .int .i64 a0_2] 33 (0, 0)) (by (with_reducible repeat (first | refine blk_drewN ?_ _ | refine blk_drew ?_ | refine blk_alloc ?_ _)); exact BK278.out)) : gb278 ≠ gb288)); have n7_ := Aside0.mk ((by rw [hg]; exact Nat.ne_of_gt (blk_lt (g := gb278) (o := .cells #[.bool a0_0, .slice A0_1 l0_1.length c0_1, .int .i64 a0_2] 33 (0, 0)) (by (with_reducible repeat (first | refine blk_drewN ?_ _ | refine blk_drew ?_ | refine blk_alloc ?_ _)); exact BK278.out)) : gb288 ≠ gb278)); have n8_ := Aside0.mk ((by rw [hg]; exact Nat.ne_of_lt (blk_lt (g := gb284) (o := .cells #[.bool t281, .string t282, .int .i64 t283] 24 (0, 0)) (by (with_reducible repeat (first | refine blk_drewN ?_ _ | refine blk_drew ?_ | refine blk_alloc ?_ _)); exact BK284.out)) : gb284 ≠ gb288)); have n9_ := Aside0.mk ((by rw [hg]; exact Nat.ne_of_gt (blk_lt (g := gb284) (o := .cells #[.bool t281, .string t282, .int .i64 t283] 24 (0, 0)) (by (with_reducible repeat (first | refine blk_drewN ?_ _ | refine blk_drew ?_ | refine blk_alloc ?_ _)); exact BK284.out)) : gb288 ≠ gb284)); clear BK278; clear BK284; clear HB; have BK278 := n0_; have BK284 := n1_; have HB := n2_; have BK288 := n3_; have GW288 := n4_; have GE288 := n5_; have NB278_288 := n6_; have NB288_278 := n7_; have NB284_288 := n8_; have NB288_284 := n9_; clear n0_ n1_ n2_ n3_ n4_ n5_ n6_ n7_ n8_ n9_; clear hb hbox hg; have hnb24 := NB288_278.out; have hnc24 := NB278_288.out; have hnb25 := NB288_284.out; have hnc25 := NB284_288.out; have hcz26_0 : w23.cell? ⟨gb288, 0, none⟩ = some (.bool false) := (blk_cell BK288.out 0).trans rfl; have hcz26_1 : w23.cell? ⟨gb288, 1, none⟩ = some (.string (⟨#[]⟩ : ByteArray)) := (blk_cell BK288.out 1).trans rfl; have hcz26_2 : w23.cell? ⟨gb288, 2, none⟩ = some (.int .i64 0) := (blk_cell BK288.out 2).trans rfl; have hfz26_0 := blk_frozen BK288.out 0; have hfz26_1 := blk_frozen BK288.out 1; have hfz26_2 := blk_frozen BK288.out 2; have hcz27_0 : w23.cell? ⟨gb284, 0, none⟩ = some (.bool t281) := (blk_cell BK284.out 0).trans rfl; have hcz27_1 : w23.cell? ⟨gb284, 1, none⟩ = some (.string t282) := (blk_cell BK284.out 1).trans rfl; have hcz27_2 : w23.cell? ⟨gb284, 2, none⟩ = some (.int .i64 t283) := (blk_cell BK284.out 2).trans rfl; have hfz27_0 := blk_frozen BK284.out 0; have hfz27_1 := blk_frozen BK284.out 1; have hfz27_2 := blk_frozen BK284.out 2) | ((with_reducible refine gate_callee (f := 23) rfl ?_); refine goesL_ (some 33) rfl rfl Tryd.func23 (by kernel_rfl) rfl #[.agg #[.bool t281, .string t282, .int .i64 t283]] rfl (by (try simp only [List.map_toArray, List.map_cons, List.map_nil]); first | done | rfl | (simp only [List.length_drop, List.length_take]; rfl) | (have z_ : ∀ s_ : ByteArray, s_.size ≤ 9223372036854775807 → -(s_.size : Int) = wrap64 (-(s_.size : Int)) := (fun s_ h_ => by unfold wrap64; omega); rw [← z_ _ (by omega)]; rfl)) ?_; (with_reducible refine (dec_Dec_Mag.calls k t281 t282 t283 t289 t290 _ A10.out).mono ?_); rintro e w28 ⟨rfl, hb⟩; refine ⟨_, rfl, ?_⟩; have n0_ := Aside0.mk (blk_below (g := gb278) (o := .cells #[.bool a0_0, .slice A0_1 l0_1.length c0_1, .int .i64 a0_2] 33 (0, 0)) (by (with_reducible repeat (first | refine blk_drewN ?_ _ | refine blk_drew ?_ | refine blk_alloc ?_ _)); refine blk_far ?_ NB278_288.out _; (with_reducible repeat (first | refine blk_drewN ?_ _ | refine blk_drew ?_ | refine blk_alloc ?_ _)); refine blk_far ?_ NB278_288.out _; (with_reducible repeat (first | refine blk_drewN ?_ _ | refine blk_drew ?_ | refine blk_alloc ?_ _)); refine blk_far ?_ NB278_288.out _; (with_reducible repeat (first | refine blk_drewN ?_ _ | refine blk_drew ?_ | refine blk_alloc ?_ _)); exact BK278.out) hb); have n1_ := Aside0.mk (blk_below (g := gb284) (o := .cells #[.bool t281, .string t282, .int .i64 t283] 24 (0, 0)) (by (with_reducible repeat (first | refine blk_drewN ?_ _ | refine blk_drew ?_ | refine blk_alloc ?_ _)); refine blk_far ?_ NB284_288.out _; (with_reducible repeat (first | refine blk_drewN ?_ _ | refine blk_drew ?_ | refine blk_alloc ?_ _)); refine blk_far ?_ NB284_288.out _; (with_reducible repeat (first | refine blk_drewN ?_ _ | refine blk_drew ?_ | refine blk_alloc ?_ _)); refine blk_far ?_ NB284_288.out _; (with_reducible repeat (first | refine blk_drewN ?_ _ | refine blk_drew ?_ | refine blk_alloc ?_ _)); exact BK284.out) hb); have n2_ := Aside0.mk (blk_below (g := gb288) (o := .cells #[.bool t285, .string t286, .int .i64 t287] 24 (0, 0)) (by (with_reducible repeat (first | refine blk_drewN ?_ _ | refine blk_drew ?_ | refine blk_alloc ?_ _)); refine blk_put (cs := #[.bool t285, .string t286, .int .i64 0]) ?_ 2 _ rfl; (with_reducible repeat (first | refine blk_drewN ?_ _ | refine blk_drew ?_ | refine blk_alloc ?_ _)); refine blk_put (cs := #[.bool t285, .string (⟨#[]⟩ : ByteArray), .int .i64 0]) ?_ 1 _ rfl; (with_reducible repeat (first | refine blk_drewN ?_ _ | refine blk_drew ?_ | refine blk_alloc ?_ _)); refine blk_put (cs := #[.bool false, .string (⟨#[]⟩ : ByteArray), .int .i64 0]) ?_ 0 _ rfl; (with_reducible repeat (first | refine blk_drewN ?_ _ | refine blk_drew ?_ | refine blk_alloc ?_ _)); exact BK288.out) hb); have n3_ := Aside0.mk (below_step (bl_ HB).out hb); clear BK278; clear BK284; clear BK288; clear HB; have BK278 := n0_; have BK284 := n1_; have BK288 := n2_; have HB := n3_; clear n0_ n1_ n2_ n3_; (try clear hb); (try clear hb2); (try clear hk); (try clear hi); have hcz29_0 : w28.cell? ⟨gb288, 0, none⟩ = some (.bool t285) := (blk_cell BK288.out 0).trans rfl; have hcz29_1 : w28.cell? ⟨gb288, 1, none⟩ = some (.string t286) := (blk_cell BK288.out 1).trans rfl; have hcz29_2 : w28.cell? ⟨gb288, 2, none⟩ = some (.int .i64 t287) := (blk_cell BK288.out 2).trans rfl; have hfz29_0 := blk_frozen BK288.out 0; have hfz29_1 := blk_frozen BK288.out 1; have hfz29_2 := blk_frozen BK288.out 2) | ((with_reducible refine gate_callee (f := 23) rfl ?_); refine goesL_ (some 38) rfl rfl Tryd.func23 (by kernel_rfl) rfl #[.agg #[.bool t285, .string t286, .int .i64 t287]] rfl (by (try simp only [List.map_toArray, List.map_cons, List.map_nil]); first | done | rfl | (simp only [List.length_drop, List.length_take]; rfl) | (have z_ : ∀ s_ : ByteArray, s_.size ≤ 9223372036854775807 → -(s_.size : Int) = wrap64 (-(s_.size : Int)) := (fun s_ h_ => by unfold wrap64; omega); rw [← z_ _ (by omega)]; rfl)) ?_; (with_reducible refine (dec_Dec_Mag.calls k t285 t286 t287 t291 t292 _ A11.out).mono ?_); rintro e w30 ⟨rfl, hb⟩; refine ⟨_, rfl, ?_⟩; have n0_ := bb_ BK278 hb; have n1_ := bb_ BK284 hb; have n2_ := bb_ BK288 hb; have n3_ := Aside0.mk (below_step (bl_ HB).out hb); clear BK278; clear BK284; clear BK288; clear HB; have BK278 := n0_; have BK284 := n1_; have BK288 := n2_; have HB := n3_; clear n0_ n1_ n2_ n3_; (try clear hb); (try clear hb2); (try clear hk); (try clear hi)))
   (try simp only [Act.put, List.setIfInBounds_toArray, List.set_cons_zero, List.set_cons_succ])
   go_cut [62] (fun v62 wc => ∃ (kq : Nat) (x62_11 : Bool), v62 = .bool x62_11 ∧ Aside0 (florinlaw02_DecScales.j0 kq a2 x62_11 = some r) ∧ Aside0 (kq ≤ k) ∧ Aside0 (wc.heap[gb278]? = some (.cells #[.bool a0_0, (.slice A0_1 l0_1.length c0_1), .int .i64 a0_2] 33 (0, 0))) ∧ Aside0 (wc.heap[gb284]? = some (.cells #[.bool t281, .string t282, .int .i64 t283] 24 (0, 0))) ∧ Aside0 (wc.heap[gb288]? = some (.cells #[.bool t285, .string t286, .int .i64 t287] 24 (0, 0))) ∧ Aside0 (Below w.heap.size w wc))
   case first =>
    have H := HC12.out
    clear HC12
    replace H := Option.bind_eq_some_iff.mp H
    obtain ⟨⟨t293, t294, t295⟩, A310, H⟩ := H
    replace H : ((dec_Dec_Norm.f k t281 t282 t283).bind fun bt296 => (if (!(t293 == bt296.1) || (!(t294.toList == bt296.2.1.toList) || (!(t295 == bt296.2.2)))) = true then (florinlaw02_DecScales.j0 k a2 true) else (if (t290 != t292) = true then (florinlaw02_DecScales.j0 k a2 true) else (if t290 = true then (florinlaw02_DecScales.j0 k a2 (t291 != (wrap64 (t289 + (wrap64 ((Int.tmod a1 1000) - (wrap64 (Int.tdiv (Int.tmod a1 1000) 2)))))))) else (florinlaw02_DecScales.j0 k a2 false))))) = some r := H
    have A31 := Aside0.mk A310
    clear A310
    replace H := Option.bind_eq_some_iff.mp H
    obtain ⟨⟨t296, t297, t298⟩, A320, H⟩ := H
    replace H : (if (!(t293 == t296) || (!(t294.toList == t297.toList) || (!(t295 == t298)))) = true then (florinlaw02_DecScales.j0 k a2 true) else (if (t290 != t292) = true then (florinlaw02_DecScales.j0 k a2 true) else (if t290 = true then (florinlaw02_DecScales.j0 k a2 (t291 != (wrap64 (t289 + (wrap64 ((Int.tmod a1 1000) - (wrap64 (Int.tdiv (Int.tmod a1 1000) 2)))))))) else (florinlaw02_DecScales.j0 k a2 false)))) = some r := H
    have A32 := Aside0.mk A320
    clear A320
    by_cases c33 : (!(t293 == t296) || (!(t294.toList == t297.toList) || (!(t295 == t298)))) = true
    ·rw [if_pos c33] at H
     have c33b0 : (!(t293 == t296) || (!(t294.toList == t297.toList) || (!(t295 == t298)))) = true := c33
     clear c33
     (first | rw [c33b0] | (simp only [i64_w, i32_w]; rw [c33b0]) | skip)
     have H' := Aside0.mk H
     clear H
     try go_wp2
     have n0_ := Aside0.mk (blk_drew BK278.out)
     have n1_ := Aside0.mk (blk_drew BK284.out)
     have n2_ := Aside0.mk (blk_drew BK288.out)
     have n3_ := Aside0.mk (below_drew1 HB.out)
     clear BK278
     clear BK284
     clear BK288
     clear HB
     have BK278 := n0_
     have BK284 := n1_
     have BK288 := n2_
     have HB := n3_
     clear n0_ n1_ n2_ n3_
     refine start_ (n := 22) (S := fun w' => w'.cell? ⟨gb288, 0, none⟩ = some (.bool t285) ∧ w'.cell? ⟨gb288, 1, none⟩ = some (.string t286) ∧ w'.cell? ⟨gb288, 2, none⟩ = some (.int .i64 t287) ∧ w'.cell? ⟨gb284, 0, none⟩ = some (.bool t281) ∧ w'.cell? ⟨gb284, 1, none⟩ = some (.string t282) ∧ w'.cell? ⟨gb284, 2, none⟩ = some (.int .i64 t283)) (ds := []) #[false, false, false, false, false, false, false, false, false, false, false, false, false, false, false, false, false, false, false, false, false, false] (by kernel_rfl) rfl rfl ⟨(blk_cell BK288.out 0).trans rfl, (blk_cell BK288.out 1).trans rfl, (blk_cell BK288.out 2).trans rfl, (blk_cell BK284.out 0).trans rfl, (blk_cell BK284.out 1).trans rfl, (blk_cell BK284.out 2).trans rfl⟩ (fun hHeld => ?_); refine with_tabW florinlaw02_DecScales.tab10 florinlaw02_DecScales.bits10 (fun HT_ HW_ => ?_)
     generalize w30.drew = w34 at BK278 BK284 BK288 HB hHeld ⊢
     refine pu_ 1 42 (bm_ 22 2) HT_ ?_
     refine pu_ 2 43 (bm_ 22 6) HT_ ?_
     refine tk_ 0 41 (bm_ 22 7) HT_ HW_ hHeld rfl (by rintro w' ⟨s0, s1, s2, s3, s4, s5⟩; go_simp; with_reducible rfl) ?_
     refine tk_ 4 45 (bm_ 22 23) HT_ HW_ hHeld rfl (by rintro w' ⟨s0, s1, s2, s3, s4, s5⟩; go_simp; with_reducible rfl) ?_
     refine one_ (i := 3) (N := some 44) (bm_ 22 31) rfl rfl (one_of HT_.out (by kernel_rfl)) (by decide) (fun K hK => ?_)
     refine goes_ Tryd.func25 (by kernel_rfl) rfl #[.agg #[.bool t285, .string t286, .int .i64 t287], .int .i64 (wrap64 (-(wrap64 ((Int.tmod a1 1000) - (wrap64 (Int.tdiv (Int.tmod a1 1000) 2))))))] (by rfl) rfl rfl (by (try simp only [List.map_toArray, List.map_cons, List.map_nil]); first | done | rfl | (simp only [List.length_drop, List.length_take]; rfl) | (have z_ : ∀ s_ : ByteArray, s_.size ≤ 9223372036854775807 → -(s_.size : Int) = wrap64 (-(s_.size : Int)) := (fun s_ h_ => by unfold wrap64; omega); rw [← z_ _ (by omega)]; rfl)) ?_
     with_reducible refine (dec_Dec_Scale.calls k t285 t286 t287 (wrap64 (-(wrap64 ((Int.tmod a1 1000) - (wrap64 (Int.tdiv (Int.tmod a1 1000) 2)))))) t293 t294 t295 _ A31.out).mono ?_
     rintro e w35 ⟨rfl, hb⟩
     refine ⟨_, rfl, ?_⟩
     have n0_ := bb_ BK278 hb
     have n1_ := bb_ BK284 hb
     have n2_ := bb_ BK288 hb
     have n3_ := Aside0.mk (below_step (bl_ HB).out hb)
     clear BK278
     clear BK284
     clear BK288
     clear HB
     have BK278 := n0_
     have BK284 := n1_
     have BK288 := n2_
     have HB := n3_
     clear n0_ n1_ n2_ n3_
     (try clear hb)
     (try clear hb2)
     (try clear hk)
     (try clear hi)
     refine hK.out _ _ ⟨(blk_cell BK288.out 0).trans rfl, (blk_cell BK288.out 1).trans rfl, (blk_cell BK288.out 2).trans rfl, (blk_cell BK284.out 0).trans rfl, (blk_cell BK284.out 1).trans rfl, (blk_cell BK284.out 2).trans rfl⟩ (fun hHeld => ?_)
     clear hK K
     refine norm_ (a' := ?_) ?_ ?_
     rotate_left
     ·show Act.put _ (some 44) _ = _
      simp only [Act.put, List.setIfInBounds_toArray, List.set_cons_zero, List.set_cons_succ, i64_w, i32_w]
      rfl
     refine one_ (i := 5) (N := some 46) (bm_ 22 63) rfl rfl (one_of HT_.out (by kernel_rfl)) (by decide) (fun K hK => ?_)
     refine goes_ Tryd.func19 (by kernel_rfl) rfl #[.agg #[.bool t281, .string t282, .int .i64 t283]] (by rfl) rfl rfl (by (try simp only [List.map_toArray, List.map_cons, List.map_nil]); first | done | rfl | (simp only [List.length_drop, List.length_take]; rfl) | (have z_ : ∀ s_ : ByteArray, s_.size ≤ 9223372036854775807 → -(s_.size : Int) = wrap64 (-(s_.size : Int)) := (fun s_ h_ => by unfold wrap64; omega); rw [← z_ _ (by omega)]; rfl)) ?_
     with_reducible refine (dec_Dec_Norm.calls k t281 t282 t283 t296 t297 t298 _ A32.out).mono ?_
     rintro e w36 ⟨rfl, hb⟩
     refine ⟨_, rfl, ?_⟩
     have n0_ := bb_ BK278 hb
     have n1_ := bb_ BK284 hb
     have n2_ := bb_ BK288 hb
     have n3_ := Aside0.mk (below_step (bl_ HB).out hb)
     clear BK278
     clear BK284
     clear BK288
     clear HB
     have BK278 := n0_
     have BK284 := n1_
     have BK288 := n2_
     have HB := n3_
     clear n0_ n1_ n2_ n3_
     (try clear hb)
     (try clear hb2)
     (try clear hk)
     (try clear hi)
     refine hK.out _ _ ⟨(blk_cell BK288.out 0).trans rfl, (blk_cell BK288.out 1).trans rfl, (blk_cell BK288.out 2).trans rfl, (blk_cell BK284.out 0).trans rfl, (blk_cell BK284.out 1).trans rfl, (blk_cell BK284.out 2).trans rfl⟩ (fun hHeld => ?_)
     clear hK K
     refine norm_ (a' := ?_) ?_ ?_
     rotate_left
     ·show Act.put _ (some 46) _ = _
      simp only [Act.put, List.setIfInBounds_toArray, List.set_cons_zero, List.set_cons_succ, i64_w, i32_w]
      rfl
     refine pu_ 6 47 (bm_ 22 127) HT_ ?_
     refine pu_ 7 48 (bm_ 22 255) HT_ ?_
     refine pn_ 8 49 (bm_ 22 511) HT_ ?_
     refine pn_ 9 50 (bm_ 22 1023) HT_ ?_
     refine pn_ 10 51 (bm_ 22 2047) HT_ ?_
     refine pu_ 11 52 (bm_ 22 4095) HT_ ?_
     refine pu_ 12 53 (bm_ 22 8191) HT_ ?_
     refine pn_ 13 54 (bm_ 22 16383) HT_ ?_
     refine pn_ 14 55 (bm_ 22 32767) HT_ ?_
     refine pn_ 15 56 (bm_ 22 65535) HT_ ?_
     refine pn_ 16 57 (bm_ 22 131071) HT_ ?_
     refine pn_ 17 58 (bm_ 22 262143) HT_ ?_
     refine pn_ 18 59 (bm_ 22 524287) HT_ ?_
     refine pn_ 19 60 (bm_ 22 1048575) HT_ ?_
     refine pn_ 20 61 (bm_ 22 2097151) HT_ ?_
     refine pu_ 21 62 (bm_ 22 4194303) HT_ ?_
     refine done_ (done_of HT_.out (by kernel_rfl)) ?_
     try go_wp2
     go_meet
     case rel => exact ⟨_, (true), eq_, H', ⟨by first | omega | exact Nat.le_refl _⟩, (bk_ BK278), (bk_ BK284), (bk_ BK288), (bl_ HB)⟩
    ·rw [if_neg c33] at H
     have c33b0 : (!(t293 == t296) || (!(t294.toList == t297.toList) || (!(t295 == t298)))) = false := by simpa using c33
     clear c33
     (first | rw [c33b0] | (simp only [i64_w, i32_w]; rw [c33b0]) | skip)
     by_cases c37 : (t290 != t292) = true
     ·rw [if_pos c37] at H
      have c37b0 : (t290 != t292) = true := c37
      (try (have c37b1 : decide (t290 = t292) = false := by simpa using c37))
      (try (have c37b2 : (t290 == t292) = false := by simpa using c37))
      (try (have c37b3 : ¬ (t290 = t292) := by simpa using c37))
      clear c37
      have H' := Aside0.mk H
      clear H
      try go_wp2
      have n0_ := Aside0.mk (blk_drew BK278.out)
      have n1_ := Aside0.mk (blk_drew BK284.out)
      have n2_ := Aside0.mk (blk_drew BK288.out)
      have n3_ := Aside0.mk (below_drew1 HB.out)
      clear BK278
      clear BK284
      clear BK288
      clear HB
      have BK278 := n0_
      have BK284 := n1_
      have BK288 := n2_
      have HB := n3_
      clear n0_ n1_ n2_ n3_
      refine start_ (n := 22) (S := fun w' => w'.cell? ⟨gb288, 0, none⟩ = some (.bool t285) ∧ w'.cell? ⟨gb288, 1, none⟩ = some (.string t286) ∧ w'.cell? ⟨gb288, 2, none⟩ = some (.int .i64 t287) ∧ w'.cell? ⟨gb284, 0, none⟩ = some (.bool t281) ∧ w'.cell? ⟨gb284, 1, none⟩ = some (.string t282) ∧ w'.cell? ⟨gb284, 2, none⟩ = some (.int .i64 t283)) (ds := []) #[false, false, false, false, false, false, false, false, false, false, false, false, false, false, false, false, false, false, false, false, false, false] (by kernel_rfl) rfl rfl ⟨(blk_cell BK288.out 0).trans rfl, (blk_cell BK288.out 1).trans rfl, (blk_cell BK288.out 2).trans rfl, (blk_cell BK284.out 0).trans rfl, (blk_cell BK284.out 1).trans rfl, (blk_cell BK284.out 2).trans rfl⟩ (fun hHeld => ?_); refine with_tabW florinlaw02_DecScales.tab10 florinlaw02_DecScales.bits10 (fun HT_ HW_ => ?_)
      generalize w30.drew = w38 at BK278 BK284 BK288 HB hHeld ⊢
      refine pu_ 1 42 (bm_ 22 2) HT_ ?_
      refine pu_ 2 43 (bm_ 22 6) HT_ ?_
      refine tk_ 0 41 (bm_ 22 7) HT_ HW_ hHeld rfl (by rintro w' ⟨s0, s1, s2, s3, s4, s5⟩; go_simp; with_reducible rfl) ?_
      refine tk_ 4 45 (bm_ 22 23) HT_ HW_ hHeld rfl (by rintro w' ⟨s0, s1, s2, s3, s4, s5⟩; go_simp; with_reducible rfl) ?_
      refine one_ (i := 3) (N := some 44) (bm_ 22 31) rfl rfl (one_of HT_.out (by kernel_rfl)) (by decide) (fun K hK => ?_)
      refine goes_ Tryd.func25 (by kernel_rfl) rfl #[.agg #[.bool t285, .string t286, .int .i64 t287], .int .i64 (wrap64 (-(wrap64 ((Int.tmod a1 1000) - (wrap64 (Int.tdiv (Int.tmod a1 1000) 2))))))] (by rfl) rfl rfl (by (try simp only [List.map_toArray, List.map_cons, List.map_nil]); first | done | rfl | (simp only [List.length_drop, List.length_take]; rfl) | (have z_ : ∀ s_ : ByteArray, s_.size ≤ 9223372036854775807 → -(s_.size : Int) = wrap64 (-(s_.size : Int)) := (fun s_ h_ => by unfold wrap64; omega); rw [← z_ _ (by omega)]; rfl)) ?_
      with_reducible refine (dec_Dec_Scale.calls k t285 t286 t287 (wrap64 (-(wrap64 ((Int.tmod a1 1000) - (wrap64 (Int.tdiv (Int.tmod a1 1000) 2)))))) t293 t294 t295 _ A31.out).mono ?_
      rintro e w39 ⟨rfl, hb⟩
      refine ⟨_, rfl, ?_⟩
      have n0_ := bb_ BK278 hb
      have n1_ := bb_ BK284 hb
      have n2_ := bb_ BK288 hb
      have n3_ := Aside0.mk (below_step (bl_ HB).out hb)
      clear BK278
      clear BK284
      clear BK288
      clear HB
      have BK278 := n0_
      have BK284 := n1_
      have BK288 := n2_
      have HB := n3_
      clear n0_ n1_ n2_ n3_
      (try clear hb)
      (try clear hb2)
      (try clear hk)
      (try clear hi)
      refine hK.out _ _ ⟨(blk_cell BK288.out 0).trans rfl, (blk_cell BK288.out 1).trans rfl, (blk_cell BK288.out 2).trans rfl, (blk_cell BK284.out 0).trans rfl, (blk_cell BK284.out 1).trans rfl, (blk_cell BK284.out 2).trans rfl⟩ (fun hHeld => ?_)
      clear hK K
      refine norm_ (a' := ?_) ?_ ?_
      rotate_left
      ·show Act.put _ (some 44) _ = _
       simp only [Act.put, List.setIfInBounds_toArray, List.set_cons_zero, List.set_cons_succ, i64_w, i32_w]
       rfl
      refine one_ (i := 5) (N := some 46) (bm_ 22 63) rfl rfl (one_of HT_.out (by kernel_rfl)) (by decide) (fun K hK => ?_)
      refine goes_ Tryd.func19 (by kernel_rfl) rfl #[.agg #[.bool t281, .string t282, .int .i64 t283]] (by rfl) rfl rfl (by (try simp only [List.map_toArray, List.map_cons, List.map_nil]); first | done | rfl | (simp only [List.length_drop, List.length_take]; rfl) | (have z_ : ∀ s_ : ByteArray, s_.size ≤ 9223372036854775807 → -(s_.size : Int) = wrap64 (-(s_.size : Int)) := (fun s_ h_ => by unfold wrap64; omega); rw [← z_ _ (by omega)]; rfl)) ?_
      with_reducible refine (dec_Dec_Norm.calls k t281 t282 t283 t296 t297 t298 _ A32.out).mono ?_
      rintro e w40 ⟨rfl, hb⟩
      refine ⟨_, rfl, ?_⟩
      have n0_ := bb_ BK278 hb
      have n1_ := bb_ BK284 hb
      have n2_ := bb_ BK288 hb
      have n3_ := Aside0.mk (below_step (bl_ HB).out hb)
      clear BK278
      clear BK284
      clear BK288
      clear HB
      have BK278 := n0_
      have BK284 := n1_
      have BK288 := n2_
      have HB := n3_
      clear n0_ n1_ n2_ n3_
      (try clear hb)
      (try clear hb2)
      (try clear hk)
      (try clear hi)
      refine hK.out _ _ ⟨(blk_cell BK288.out 0).trans rfl, (blk_cell BK288.out 1).trans rfl, (blk_cell BK288.out 2).trans rfl, (blk_cell BK284.out 0).trans rfl, (blk_cell BK284.out 1).trans rfl, (blk_cell BK284.out 2).trans rfl⟩ (fun hHeld => ?_)
      clear hK K
      refine norm_ (a' := ?_) ?_ ?_
      rotate_left
      ·show Act.put _ (some 46) _ = _
       simp only [Act.put, List.setIfInBounds_toArray, List.set_cons_zero, List.set_cons_succ, i64_w, i32_w]
       rfl
      refine pu_ 6 47 (bm_ 22 127) HT_ ?_
      refine pu_ 7 48 (bm_ 22 255) HT_ ?_
      refine pu_ 8 49 (bm_ 22 511) HT_ ?_
      refine pu_ 9 50 (bm_ 22 1023) HT_ ?_
      refine pu_ 10 51 (bm_ 22 2047) HT_ ?_
      refine pu_ 11 52 (bm_ 22 4095) HT_ ?_
      refine pu_ 12 53 (bm_ 22 8191) HT_ ?_
      refine pn_ 13 54 (bm_ 22 16383) HT_ ?_
      refine pn_ 14 55 (bm_ 22 32767) HT_ ?_
      refine pn_ 15 56 (bm_ 22 65535) HT_ ?_
      refine pn_ 16 57 (bm_ 22 131071) HT_ ?_
      refine pn_ 17 58 (bm_ 22 262143) HT_ ?_
      refine pn_ 18 59 (bm_ 22 524287) HT_ ?_
      refine pn_ 19 60 (bm_ 22 1048575) HT_ ?_
      refine pn_ 20 61 (bm_ 22 2097151) HT_ ?_
      refine pu_ 21 62 (bm_ 22 4194303) HT_ ?_
      refine done_ (done_of HT_.out (by kernel_rfl)) ?_
      try go_wp2
      go_meet
      case rel => exact ⟨_, (true), eq_, H', ⟨by first | omega | exact Nat.le_refl _⟩, (bk_ BK278), (bk_ BK284), (bk_ BK288), (bl_ HB)⟩
     ·rw [if_neg c37] at H
      have c37b0 : (t290 != t292) = false := by simpa using c37
      (try (have c37b1 : decide (t290 = t292) = true := by simpa using c37))
      (try (have c37b2 : (t290 == t292) = true := by simpa using c37))
      clear c37
      by_cases c41 : t290 = true
      ·subst c41
       have H1 : (florinlaw02_DecScales.j0 k a2 (t291 != (wrap64 (t289 + (wrap64 ((Int.tmod a1 1000) - (wrap64 (Int.tdiv (Int.tmod a1 1000) 2)))))))) = some r := by rw [if_pos rfl] at H; exact H
       clear H
       have H := H1
       clear H1
       have H' := Aside0.mk H
       clear H
       try go_wp2
       have n0_ := Aside0.mk (blk_drew BK278.out)
       have n1_ := Aside0.mk (blk_drew BK284.out)
       have n2_ := Aside0.mk (blk_drew BK288.out)
       have n3_ := Aside0.mk (below_drew1 HB.out)
       clear BK278
       clear BK284
       clear BK288
       clear HB
       have BK278 := n0_
       have BK284 := n1_
       have BK288 := n2_
       have HB := n3_
       clear n0_ n1_ n2_ n3_
       refine start_ (n := 22) (S := fun w' => w'.cell? ⟨gb288, 0, none⟩ = some (.bool t285) ∧ w'.cell? ⟨gb288, 1, none⟩ = some (.string t286) ∧ w'.cell? ⟨gb288, 2, none⟩ = some (.int .i64 t287) ∧ w'.cell? ⟨gb284, 0, none⟩ = some (.bool t281) ∧ w'.cell? ⟨gb284, 1, none⟩ = some (.string t282) ∧ w'.cell? ⟨gb284, 2, none⟩ = some (.int .i64 t283)) (ds := []) #[false, false, false, false, false, false, false, false, false, false, false, false, false, false, false, false, false, false, false, false, false, false] (by kernel_rfl) rfl rfl ⟨(blk_cell BK288.out 0).trans rfl, (blk_cell BK288.out 1).trans rfl, (blk_cell BK288.out 2).trans rfl, (blk_cell BK284.out 0).trans rfl, (blk_cell BK284.out 1).trans rfl, (blk_cell BK284.out 2).trans rfl⟩ (fun hHeld => ?_); refine with_tabW florinlaw02_DecScales.tab10 florinlaw02_DecScales.bits10 (fun HT_ HW_ => ?_)
       generalize w30.drew = w42 at BK278 BK284 BK288 HB hHeld ⊢
       refine pu_ 1 42 (bm_ 22 2) HT_ ?_
       refine pu_ 2 43 (bm_ 22 6) HT_ ?_
       refine tk_ 0 41 (bm_ 22 7) HT_ HW_ hHeld rfl (by rintro w' ⟨s0, s1, s2, s3, s4, s5⟩; go_simp; with_reducible rfl) ?_
       refine tk_ 4 45 (bm_ 22 23) HT_ HW_ hHeld rfl (by rintro w' ⟨s0, s1, s2, s3, s4, s5⟩; go_simp; with_reducible rfl) ?_
       refine one_ (i := 3) (N := some 44) (bm_ 22 31) rfl rfl (one_of HT_.out (by kernel_rfl)) (by decide) (fun K hK => ?_)
       refine goes_ Tryd.func25 (by kernel_rfl) rfl #[.agg #[.bool t285, .string t286, .int .i64 t287], .int .i64 (wrap64 (-(wrap64 ((Int.tmod a1 1000) - (wrap64 (Int.tdiv (Int.tmod a1 1000) 2))))))] (by rfl) rfl rfl (by (try simp only [List.map_toArray, List.map_cons, List.map_nil]); first | done | rfl | (simp only [List.length_drop, List.length_take]; rfl) | (have z_ : ∀ s_ : ByteArray, s_.size ≤ 9223372036854775807 → -(s_.size : Int) = wrap64 (-(s_.size : Int)) := (fun s_ h_ => by unfold wrap64; omega); rw [← z_ _ (by omega)]; rfl)) ?_
       with_reducible refine (dec_Dec_Scale.calls k t285 t286 t287 (wrap64 (-(wrap64 ((Int.tmod a1 1000) - (wrap64 (Int.tdiv (Int.tmod a1 1000) 2)))))) t293 t294 t295 _ A31.out).mono ?_
       rintro e w43 ⟨rfl, hb⟩
       refine ⟨_, rfl, ?_⟩
       have n0_ := bb_ BK278 hb
       have n1_ := bb_ BK284 hb
       have n2_ := bb_ BK288 hb
       have n3_ := Aside0.mk (below_step (bl_ HB).out hb)
       clear BK278
       clear BK284
       clear BK288
       clear HB
       have BK278 := n0_
       have BK284 := n1_
       have BK288 := n2_
       have HB := n3_
       clear n0_ n1_ n2_ n3_
       (try clear hb)
       (try clear hb2)
       (try clear hk)
       (try clear hi)
       refine hK.out _ _ ⟨(blk_cell BK288.out 0).trans rfl, (blk_cell BK288.out 1).trans rfl, (blk_cell BK288.out 2).trans rfl, (blk_cell BK284.out 0).trans rfl, (blk_cell BK284.out 1).trans rfl, (blk_cell BK284.out 2).trans rfl⟩ (fun hHeld => ?_)
       clear hK K
       refine norm_ (a' := ?_) ?_ ?_
       rotate_left
       ·show Act.put _ (some 44) _ = _
        simp only [Act.put, List.setIfInBounds_toArray, List.set_cons_zero, List.set_cons_succ, i64_w, i32_w]
        rfl
       refine one_ (i := 5) (N := some 46) (bm_ 22 63) rfl rfl (one_of HT_.out (by kernel_rfl)) (by decide) (fun K hK => ?_)
       refine goes_ Tryd.func19 (by kernel_rfl) rfl #[.agg #[.bool t281, .string t282, .int .i64 t283]] (by rfl) rfl rfl (by (try simp only [List.map_toArray, List.map_cons, List.map_nil]); first | done | rfl | (simp only [List.length_drop, List.length_take]; rfl) | (have z_ : ∀ s_ : ByteArray, s_.size ≤ 9223372036854775807 → -(s_.size : Int) = wrap64 (-(s_.size : Int)) := (fun s_ h_ => by unfold wrap64; omega); rw [← z_ _ (by omega)]; rfl)) ?_
       with_reducible refine (dec_Dec_Norm.calls k t281 t282 t283 t296 t297 t298 _ A32.out).mono ?_
       rintro e w44 ⟨rfl, hb⟩
       refine ⟨_, rfl, ?_⟩
       have n0_ := bb_ BK278 hb
       have n1_ := bb_ BK284 hb
       have n2_ := bb_ BK288 hb
       have n3_ := Aside0.mk (below_step (bl_ HB).out hb)
       clear BK278
       clear BK284
       clear BK288
       clear HB
       have BK278 := n0_
       have BK284 := n1_
       have BK288 := n2_
       have HB := n3_
       clear n0_ n1_ n2_ n3_
       (try clear hb)
       (try clear hb2)
       (try clear hk)
       (try clear hi)
       refine hK.out _ _ ⟨(blk_cell BK288.out 0).trans rfl, (blk_cell BK288.out 1).trans rfl, (blk_cell BK288.out 2).trans rfl, (blk_cell BK284.out 0).trans rfl, (blk_cell BK284.out 1).trans rfl, (blk_cell BK284.out 2).trans rfl⟩ (fun hHeld => ?_)
       clear hK K
       refine norm_ (a' := ?_) ?_ ?_
       rotate_left
       ·show Act.put _ (some 46) _ = _
        simp only [Act.put, List.setIfInBounds_toArray, List.set_cons_zero, List.set_cons_succ, i64_w, i32_w]
        rfl
       refine pu_ 6 47 (bm_ 22 127) HT_ ?_
       refine pu_ 7 48 (bm_ 22 255) HT_ ?_
       refine pu_ 8 49 (bm_ 22 511) HT_ ?_
       refine pu_ 9 50 (bm_ 22 1023) HT_ ?_
       refine pu_ 10 51 (bm_ 22 2047) HT_ ?_
       refine pu_ 11 52 (bm_ 22 4095) HT_ ?_
       refine pu_ 12 53 (bm_ 22 8191) HT_ ?_
       refine pu_ 13 54 (bm_ 22 16383) HT_ ?_
       refine pu_ 14 55 (bm_ 22 32767) HT_ ?_
       refine pu_ 15 56 (bm_ 22 65535) HT_ ?_
       refine pu_ 16 57 (bm_ 22 131071) HT_ ?_
       refine pu_ 17 58 (bm_ 22 262143) HT_ ?_
       refine pu_ 18 59 (bm_ 22 524287) HT_ ?_
       refine pu_ 19 60 (bm_ 22 1048575) HT_ ?_
       refine pu_ 20 61 (bm_ 22 2097151) HT_ ?_
       refine pu_ 21 62 (bm_ 22 4194303) HT_ ?_
       refine done_ (done_of HT_.out (by kernel_rfl)) ?_
       try go_wp2
       go_meet
       case rel => exact ⟨_, ((t291 != (wrap64 (t289 + (wrap64 ((Int.tmod a1 1000) - (wrap64 (Int.tdiv (Int.tmod a1 1000) 2)))))))), eq_, H', ⟨by first | omega | exact Nat.le_refl _⟩, (bk_ BK278), (bk_ BK284), (bk_ BK288), (bl_ HB)⟩
      ·replace c41 := Bool.eq_false_iff.mpr c41
       subst c41
       have H1 : (florinlaw02_DecScales.j0 k a2 false) = some r := by rw [if_neg (show ¬ (false = true) by decide)] at H; exact H
       clear H
       have H := H1
       clear H1
       have H' := Aside0.mk H
       clear H
       try go_wp2
       have n0_ := Aside0.mk (blk_drew BK278.out)
       have n1_ := Aside0.mk (blk_drew BK284.out)
       have n2_ := Aside0.mk (blk_drew BK288.out)
       have n3_ := Aside0.mk (below_drew1 HB.out)
       clear BK278
       clear BK284
       clear BK288
       clear HB
       have BK278 := n0_
       have BK284 := n1_
       have BK288 := n2_
       have HB := n3_
       clear n0_ n1_ n2_ n3_
       refine start_ (n := 22) (S := fun w' => w'.cell? ⟨gb288, 0, none⟩ = some (.bool t285) ∧ w'.cell? ⟨gb288, 1, none⟩ = some (.string t286) ∧ w'.cell? ⟨gb288, 2, none⟩ = some (.int .i64 t287) ∧ w'.cell? ⟨gb284, 0, none⟩ = some (.bool t281) ∧ w'.cell? ⟨gb284, 1, none⟩ = some (.string t282) ∧ w'.cell? ⟨gb284, 2, none⟩ = some (.int .i64 t283)) (ds := []) #[false, false, false, false, false, false, false, false, false, false, false, false, false, false, false, false, false, false, false, false, false, false] (by kernel_rfl) rfl rfl ⟨(blk_cell BK288.out 0).trans rfl, (blk_cell BK288.out 1).trans rfl, (blk_cell BK288.out 2).trans rfl, (blk_cell BK284.out 0).trans rfl, (blk_cell BK284.out 1).trans rfl, (blk_cell BK284.out 2).trans rfl⟩ (fun hHeld => ?_); refine with_tabW florinlaw02_DecScales.tab10 florinlaw02_DecScales.bits10 (fun HT_ HW_ => ?_)
       generalize w30.drew = w45 at BK278 BK284 BK288 HB hHeld ⊢
       refine pu_ 1 42 (bm_ 22 2) HT_ ?_
       refine pu_ 2 43 (bm_ 22 6) HT_ ?_
       refine tk_ 0 41 (bm_ 22 7) HT_ HW_ hHeld rfl (by rintro w' ⟨s0, s1, s2, s3, s4, s5⟩; go_simp; with_reducible rfl) ?_
       refine tk_ 4 45 (bm_ 22 23) HT_ HW_ hHeld rfl (by rintro w' ⟨s0, s1, s2, s3, s4, s5⟩; go_simp; with_reducible rfl) ?_
       refine one_ (i := 3) (N := some 44) (bm_ 22 31) rfl rfl (one_of HT_.out (by kernel_rfl)) (by decide) (fun K hK => ?_)
       refine goes_ Tryd.func25 (by kernel_rfl) rfl #[.agg #[.bool t285, .string t286, .int .i64 t287], .int .i64 (wrap64 (-(wrap64 ((Int.tmod a1 1000) - (wrap64 (Int.tdiv (Int.tmod a1 1000) 2))))))] (by rfl) rfl rfl (by (try simp only [List.map_toArray, List.map_cons, List.map_nil]); first | done | rfl | (simp only [List.length_drop, List.length_take]; rfl) | (have z_ : ∀ s_ : ByteArray, s_.size ≤ 9223372036854775807 → -(s_.size : Int) = wrap64 (-(s_.size : Int)) := (fun s_ h_ => by unfold wrap64; omega); rw [← z_ _ (by omega)]; rfl)) ?_
       with_reducible refine (dec_Dec_Scale.calls k t285 t286 t287 (wrap64 (-(wrap64 ((Int.tmod a1 1000) - (wrap64 (Int.tdiv (Int.tmod a1 1000) 2)))))) t293 t294 t295 _ A31.out).mono ?_
       rintro e w46 ⟨rfl, hb⟩
       refine ⟨_, rfl, ?_⟩
       have n0_ := bb_ BK278 hb
       have n1_ := bb_ BK284 hb
       have n2_ := bb_ BK288 hb
       have n3_ := Aside0.mk (below_step (bl_ HB).out hb)
       clear BK278
       clear BK284
       clear BK288
       clear HB
       have BK278 := n0_
       have BK284 := n1_
       have BK288 := n2_
       have HB := n3_
       clear n0_ n1_ n2_ n3_
       (try clear hb)
       (try clear hb2)
       (try clear hk)
       (try clear hi)
       refine hK.out _ _ ⟨(blk_cell BK288.out 0).trans rfl, (blk_cell BK288.out 1).trans rfl, (blk_cell BK288.out 2).trans rfl, (blk_cell BK284.out 0).trans rfl, (blk_cell BK284.out 1).trans rfl, (blk_cell BK284.out 2).trans rfl⟩ (fun hHeld => ?_)
       clear hK K
       refine norm_ (a' := ?_) ?_ ?_
       rotate_left
       ·show Act.put _ (some 44) _ = _
        simp only [Act.put, List.setIfInBounds_toArray, List.set_cons_zero, List.set_cons_succ, i64_w, i32_w]
        rfl
       refine one_ (i := 5) (N := some 46) (bm_ 22 63) rfl rfl (one_of HT_.out (by kernel_rfl)) (by decide) (fun K hK => ?_)
       refine goes_ Tryd.func19 (by kernel_rfl) rfl #[.agg #[.bool t281, .string t282, .int .i64 t283]] (by rfl) rfl rfl (by (try simp only [List.map_toArray, List.map_cons, List.map_nil]); first | done | rfl | (simp only [List.length_drop, List.length_take]; rfl) | (have z_ : ∀ s_ : ByteArray, s_.size ≤ 9223372036854775807 → -(s_.size : Int) = wrap64 (-(s_.size : Int)) := (fun s_ h_ => by unfold wrap64; omega); rw [← z_ _ (by omega)]; rfl)) ?_
       with_reducible refine (dec_Dec_Norm.calls k t281 t282 t283 t296 t297 t298 _ A32.out).mono ?_
       rintro e w47 ⟨rfl, hb⟩
       refine ⟨_, rfl, ?_⟩
       have n0_ := bb_ BK278 hb
       have n1_ := bb_ BK284 hb
       have n2_ := bb_ BK288 hb
       have n3_ := Aside0.mk (below_step (bl_ HB).out hb)
       clear BK278
       clear BK284
       clear BK288
       clear HB
       have BK278 := n0_
       have BK284 := n1_
       have BK288 := n2_
       have HB := n3_
       clear n0_ n1_ n2_ n3_
       (try clear hb)
       (try clear hb2)
       (try clear hk)
       (try clear hi)
       refine hK.out _ _ ⟨(blk_cell BK288.out 0).trans rfl, (blk_cell BK288.out 1).trans rfl, (blk_cell BK288.out 2).trans rfl, (blk_cell BK284.out 0).trans rfl, (blk_cell BK284.out 1).trans rfl, (blk_cell BK284.out 2).trans rfl⟩ (fun hHeld => ?_)
       clear hK K
       refine norm_ (a' := ?_) ?_ ?_
       rotate_left
       ·show Act.put _ (some 46) _ = _
        simp only [Act.put, List.setIfInBounds_toArray, List.set_cons_zero, List.set_cons_succ, i64_w, i32_w]
        rfl
       refine pu_ 6 47 (bm_ 22 127) HT_ ?_
       refine pu_ 7 48 (bm_ 22 255) HT_ ?_
       refine pu_ 8 49 (bm_ 22 511) HT_ ?_
       refine pu_ 9 50 (bm_ 22 1023) HT_ ?_
       refine pu_ 10 51 (bm_ 22 2047) HT_ ?_
       refine pu_ 11 52 (bm_ 22 4095) HT_ ?_
       refine pu_ 12 53 (bm_ 22 8191) HT_ ?_
       refine pu_ 13 54 (bm_ 22 16383) HT_ ?_
       refine pu_ 14 55 (bm_ 22 32767) HT_ ?_
       refine pn_ 15 56 (bm_ 22 65535) HT_ ?_
       refine pn_ 16 57 (bm_ 22 131071) HT_ ?_
       refine pn_ 17 58 (bm_ 22 262143) HT_ ?_
       refine pn_ 18 59 (bm_ 22 524287) HT_ ?_
       refine pn_ 19 60 (bm_ 22 1048575) HT_ ?_
       refine pu_ 20 61 (bm_ 22 2097151) HT_ ?_
       refine pu_ 21 62 (bm_ 22 4194303) HT_ ?_
       refine done_ (done_of HT_.out (by kernel_rfl)) ?_
       try go_wp2
       go_meet
       case rel => exact ⟨_, (false), eq_, H', ⟨by first | omega | exact Nat.le_refl _⟩, (bk_ BK278), (bk_ BK284), (bk_ BK288), (bl_ HB)⟩
   case rest =>
    clear HC12
    try clear c1
    try clear c2
    try clear p2
    try clear c3
    try clear c4
    try clear p6
    try clear c19
    try clear c25
    try clear c37
    try clear c37b0
    try clear c37b1
    try clear c37b2
    try clear c41
    obtain ⟨kq, x62_11, rfl, HA, HJ11, BK278, BK284, BK288, HB⟩ := hcut
    cases kq with
    | zero => exact absurd HA.out (by simp [florinlaw02_DecScales.j0])
    | succ kj11 =>
     have H := HA.out
     clear HA
     simp only [florinlaw02_DecScales.j0] at H
     by_cases c48 : x62_11 = true
     ·subst c48
      have H1 : (some false) = some r := by rw [if_pos rfl] at H; exact H
      clear H
      have H := H1
      clear H1
      obtain rfl := Option.some.inj H
      go_wp2
      go_ret
      exact ⟨by first | rfl | (simp [errW_none, errW_some] <;> rfl) | (simp [*, errW_none, errW_some] <;> first | rfl | exact given_isEmpty _ | exact (given_isEmpty _).symm), by repeat (first | (with_reducible first | exact HB.out | apply below_alloc | apply pw_below_drewN | apply below_drew1 | refine below_set ?_ GE278.out | refine below_set ?_ GE284.out | refine below_set ?_ GE288.out) | exact HB.out)⟩
     ·replace c48 := Bool.eq_false_iff.mpr c48
      subst c48
      have H1 : ((dec_Made.f kj11 false (⟨#[49]⟩ : ByteArray) a2).bind fun bt299 => ((dec_Made.f kj11 false (⟨#[49]⟩ : ByteArray) 0).bind fun bt303 => ((dec_Dec_Scale.f kj11 bt303.1 bt303.2.1 bt303.2.2 a2).bind fun bt306 => (if (bt299.1 == bt306.1 && (bt299.2.1.toList == bt306.2.1.toList && (bt299.2.2 == bt306.2.2))) = true then (if bt299.2.2 = (mn (mx a2 (-30000)) 30000) then ((dec_Made.f kj11 true (⟨#[48]⟩ : ByteArray) a2).bind fun bt310 => (if (!bt310.1 && (bt310.2.1.toList == ([] : List UInt8) && (bt310.2.2 == 0))) = true then ((dec_Dec_Norm.f kj11 false (⟨#[53]⟩ : ByteArray) a2).bind fun bt313 => (some (bt313.2.2 == bt299.2.2))) else (some false))) else (some false)) else (some false))))) = some r := by rw [if_neg (show ¬ (false = true) by decide)] at H; exact H
      clear H
      have H := H1
      clear H1
      replace H := Option.bind_eq_some_iff.mp H
      obtain ⟨⟨t299, t300, t301⟩, A490, H⟩ := H
      replace H : ((dec_Made.f kj11 false (⟨#[49]⟩ : ByteArray) 0).bind fun bt303 => ((dec_Dec_Scale.f kj11 bt303.1 bt303.2.1 bt303.2.2 a2).bind fun bt306 => (if (t299 == bt306.1 && (t300.toList == bt306.2.1.toList && (t301 == bt306.2.2))) = true then (if t301 = (mn (mx a2 (-30000)) 30000) then ((dec_Made.f kj11 true (⟨#[48]⟩ : ByteArray) a2).bind fun bt310 => (if (!bt310.1 && (bt310.2.1.toList == ([] : List UInt8) && (bt310.2.2 == 0))) = true then ((dec_Dec_Norm.f kj11 false (⟨#[53]⟩ : ByteArray) a2).bind fun bt313 => (some (bt313.2.2 == t301))) else (some false))) else (some false)) else (some false)))) = some r := H
      have A49 := Aside0.mk A490
      clear A490
      replace H := Option.bind_eq_some_iff.mp H
      obtain ⟨⟨t303, t304, t305⟩, A500, H⟩ := H
      replace H : ((dec_Dec_Scale.f kj11 t303 t304 t305 a2).bind fun bt306 => (if (t299 == bt306.1 && (t300.toList == bt306.2.1.toList && (t301 == bt306.2.2))) = true then (if t301 = (mn (mx a2 (-30000)) 30000) then ((dec_Made.f kj11 true (⟨#[48]⟩ : ByteArray) a2).bind fun bt310 => (if (!bt310.1 && (bt310.2.1.toList == ([] : List UInt8) && (bt310.2.2 == 0))) = true then ((dec_Dec_Norm.f kj11 false (⟨#[53]⟩ : ByteArray) a2).bind fun bt313 => (some (bt313.2.2 == t301))) else (some false))) else (some false)) else (some false))) = some r := H
      have A50 := Aside0.mk A500
      clear A500
      replace H := Option.bind_eq_some_iff.mp H
      obtain ⟨⟨t306, t307, t308⟩, A510, H⟩ := H
      replace H : (if (t299 == t306 && (t300.toList == t307.toList && (t301 == t308))) = true then (if t301 = (mn (mx a2 (-30000)) 30000) then ((dec_Made.f kj11 true (⟨#[48]⟩ : ByteArray) a2).bind fun bt310 => (if (!bt310.1 && (bt310.2.1.toList == ([] : List UInt8) && (bt310.2.2 == 0))) = true then ((dec_Dec_Norm.f kj11 false (⟨#[53]⟩ : ByteArray) a2).bind fun bt313 => (some (bt313.2.2 == t301))) else (some false))) else (some false)) else (some false)) = some r := H
      have A51 := Aside0.mk A510
      clear A510
      by_cases c52 : (t299 == t306 && (t300.toList == t307.toList && (t301 == t308))) = true
      ·rw [if_pos c52] at H
       have c52b0 : (t299 == t306 && (t300.toList == t307.toList && (t301 == t308))) = true := c52
       (try (have c52b1 : decide (t299 = t306 && (t300.toList == t307.toList && (t301 == t308))) = true := by simpa using c52))
       (try (have c52b2 : (t299 == t306 && (t300.toList == t307.toList && (t301 == t308))) = true := by simpa using c52))
       clear c52
       obtain ⟨ji53, hji53⟩ : ∃ j_ : Int, (mx a2 (-30000)) = j_ := ⟨_, rfl⟩
       replace H : (if t301 = (mn (ji53) 30000) then ((dec_Made.f kj11 true (⟨#[48]⟩ : ByteArray) a2).bind fun bt310 => (if (!bt310.1 && (bt310.2.1.toList == ([] : List UInt8) && (bt310.2.2 == 0))) = true then ((dec_Dec_Norm.f kj11 false (⟨#[53]⟩ : ByteArray) a2).bind fun bt313 => (some (bt313.2.2 == t301))) else (some false))) else (some false)) = some r := by first | (rw [hji53] at H; exact H) | (simp only [hji53] at H ⊢; exact H)
       (try rw [hji53] at A49)
       (try rw [hji53] at A50)
       (try rw [hji53] at A51)
       have hji53_ : (if a2 < (-30000) then (-30000) else a2) = ji53 := hji53
       obtain ⟨ji54, hji54⟩ : ∃ j_ : Int, (mn (ji53) 30000) = j_ := ⟨_, rfl⟩
       replace H : (if t301 = (ji54) then ((dec_Made.f kj11 true (⟨#[48]⟩ : ByteArray) a2).bind fun bt310 => (if (!bt310.1 && (bt310.2.1.toList == ([] : List UInt8) && (bt310.2.2 == 0))) = true then ((dec_Dec_Norm.f kj11 false (⟨#[53]⟩ : ByteArray) a2).bind fun bt313 => (some (bt313.2.2 == t301))) else (some false))) else (some false)) = some r := by first | (rw [hji54] at H; exact H) | (simp only [hji54] at H ⊢; exact H)
       (try rw [hji54] at A49)
       (try rw [hji54] at A50)
       (try rw [hji54] at A51)
       have hji54_ : (if 30000 < (ji53) then 30000 else (ji53)) = ji54 := hji54
       by_cases c55 : t301 = (ji54)
       ·rw [if_pos c55] at H
        have c55b0 : (t301 == (ji54)) = true := beq_iff_eq.mpr c55
        have c55b1 : (t301 != (ji54)) = false := bne_eq_false_iff_eq.mpr c55
        clear c55
        replace H := Option.bind_eq_some_iff.mp H
        obtain ⟨⟨t310, t311, t312⟩, A560, H⟩ := H
        replace H : (if (!t310 && (t311.toList == ([] : List UInt8) && (t312 == 0))) = true then ((dec_Dec_Norm.f kj11 false (⟨#[53]⟩ : ByteArray) a2).bind fun bt313 => (some (bt313.2.2 == t301))) else (some false)) = some r := H
        have A56 := Aside0.mk A560
        clear A560
        by_cases c57 : (!t310 && (t311.toList == ([] : List UInt8) && (t312 == 0))) = true
        ·rw [if_pos c57] at H
         have c57b0 : (!t310 && (t311.toList == ([] : List UInt8) && (t312 == 0))) = true := c57
         (try (have c57b1 : (!t310 && (t311.toList.isEmpty && (t312 == 0))) = true := by have z_ := c57; simp only [show ∀ l_ : List UInt8, (l_ == ([] : List UInt8)) = l_.isEmpty from fun l_ => by cases l_ <;> rfl] at z_; first | exact z_ | exact Bool.eq_false_iff.mpr z_))
         clear c57
         replace H := Option.bind_eq_some_iff.mp H
         obtain ⟨⟨t313, t314, t315⟩, A580, H⟩ := H
         replace H : (some (t315 == t301)) = some r := H
         have A58 := Aside0.mk A580
         clear A580
         obtain rfl := Option.some.inj H
         try go_wp2_with (first | ((with_reducible refine gate_callee (f := 22) rfl ?_); refine goesL_ (some 64) rfl rfl Tryd.func22 (by kernel_rfl) rfl #[.bool false, .string (⟨#[49]⟩ : ByteArray), .int .i64 a2] rfl (by (try simp only [List.map_toArray, List.map_cons, List.map_nil]); first | done | rfl | (simp only [List.length_drop, List.length_take]; rfl) | (have z_ : ∀ s_ : ByteArray, s_.size ≤ 9223372036854775807 → -(s_.size : Int) = wrap64 (-(s_.size : Int)) := (fun s_ h_ => by unfold wrap64; omega); rw [← z_ _ (by omega)]; rfl)) ?_; (with_reducible refine (dec_Made.calls kj11 false (⟨#[49]⟩ : ByteArray) a2 t299 t300 t301 _ A49.out).mono ?_); rintro e w59 ⟨rfl, hb⟩; refine ⟨_, rfl, ?_⟩; have n0_ := bb_ BK278 hb; have n1_ := bb_ BK284 hb; have n2_ := bb_ BK288 hb; have n3_ := Aside0.mk (below_step (bl_ HB).out hb); clear BK278; clear BK284; clear BK288; clear HB; have BK278 := n0_; have BK284 := n1_; have BK288 := n2_; have HB := n3_; clear n0_ n1_ n2_ n3_; (try clear hb); (try clear hb2); (try clear hk); (try clear hi)) | ((with_reducible refine gate_dst (N := 13) rfl ?_); (try (refine gate_guard (by rfl) ?_; dsimp only)); refine box_event ?hg (N := 13) ?hd (cs := #[.bool false, .string (⟨#[]⟩ : ByteArray), .int .i64 0]) (t := 24) ?hr ?_; (case hd => rfl); (case hg => rfl); (case hr => first | (go_simp; done) | (go_simp; rfl)); intro gb302 hg w60 hbox hb; have n0_ := bb_ BK278 hb; have n1_ := bb_ BK284 hb; have n2_ := bb_ BK288 hb; have n3_ := Aside0.mk (below_step (bl_ HB).out hb); have n4_ := Aside0.mk (hbox); have n5_ := Aside0.mk ((by rw [hg]; exact (below_size (bl_ HB).out) : w.heap.size ≤ gb302)); have n6_ := Aside0.mk ((by rw [hg]; exact (below_size (bl_ HB).out) : w.heap.size ≤ gb302)); have n7_ := Aside0.mk ((by rw [hg]; exact Nat.ne_of_lt (blk_lt (g := gb278) (o := .cells #[.bool a0_0, .slice A0_1 l0_1.length c0_1, .int .i64 a0_2] 33 (0, 0)) (by (with_reducible repeat (first | refine blk_drewN ?_ _ | refine blk_drew ?_ | refine blk_alloc ?_ _)); exact BK278.out)) : gb278 ≠ gb302)); have n8_ := Aside0.mk ((by rw [hg]; exact Nat.ne_of_gt (blk_lt (g := gb278) (o := .cells #[.bool a0_0, .slice A0_1 l0_1.length c0_1, .int .i64 a0_2] 33 (0, 0)) (by (with_reducible repeat (first | refine blk_drewN ?_ _ | refine blk_drew ?_ | refine blk_alloc ?_ _)); exact BK278.out)) : gb302 ≠ gb278)); have n9_ := Aside0.mk ((by rw [hg]; exact Nat.ne_of_lt (blk_lt (g := gb284) (o := .cells #[.bool t281, .string t282, .int .i64 t283] 24 (0, 0)) (by (with_reducible repeat (first | refine blk_drewN ?_ _ | refine blk_drew ?_ | refine blk_alloc ?_ _)); exact BK284.out)) : gb284 ≠ gb302)); have n10_ := Aside0.mk ((by rw [hg]; exact Nat.ne_of_gt (blk_lt (g := gb284) (o := .cells #[.bool t281, .string t282, .int .i64 t283] 24 (0, 0)) (by (with_reducible repeat (first | refine blk_drewN ?_ _ | refine blk_drew ?_ | refine blk_alloc ?_ _)); exact BK284.out)) : gb302 ≠ gb284)); have n11_ := Aside0.mk ((by rw [hg]; exact Nat.ne_of_lt (blk_lt (g := gb288) (o := .cells #[.bool t285, .string t286, .int .i64 t287] 24 (0, 0)) (by (with_reducible repeat (first | refine blk_drewN ?_ _ | refine blk_drew ?_ | refine blk_alloc ?_ _)); exact BK288.out)) : gb288 ≠ gb302)); have n12_ := Aside0.mk ((by rw [hg]; exact Nat.ne_of_gt (blk_lt (g := gb288) (o := .cells #[.bool t285, .string t286, .int .i64 t287] 24 (0, 0)) (by (with_reducible repeat (first | refine blk_drewN ?_ _ | refine blk_drew ?_ | refine blk_alloc ?_ _)); exact BK288.out)) : gb302 ≠ gb288)); clear BK278; clear BK284; clear BK288; clear HB; have BK278 := n0_; have BK284 := n1_; have BK288 := n2_; have HB := n3_; have BK302 := n4_; have GW302 := n5_; have GE302 := n6_; have NB278_302 := n7_; have NB302_278 := n8_; have NB284_302 := n9_; have NB302_284 := n10_; have NB288_302 := n11_; have NB302_288 := n12_; clear n0_ n1_ n2_ n3_ n4_ n5_ n6_ n7_ n8_ n9_ n10_ n11_ n12_; clear hb hbox hg; have hnb61 := NB302_278.out; have hnc61 := NB278_302.out; have hnb62 := NB302_284.out; have hnc62 := NB284_302.out; have hnb63 := NB302_288.out; have hnc63 := NB288_302.out; have hcz64_0 : w60.cell? ⟨gb302, 0, none⟩ = some (.bool false) := (blk_cell BK302.out 0).trans rfl; have hcz64_1 : w60.cell? ⟨gb302, 1, none⟩ = some (.string (⟨#[]⟩ : ByteArray)) := (blk_cell BK302.out 1).trans rfl; have hcz64_2 : w60.cell? ⟨gb302, 2, none⟩ = some (.int .i64 0) := (blk_cell BK302.out 2).trans rfl; have hfz64_0 := blk_frozen BK302.out 0; have hfz64_1 := blk_frozen BK302.out 1; have hfz64_2 := blk_frozen BK302.out 2) | ((with_reducible refine gate_callee (f := 22) rfl ?_); refine goesL_ (some 65) rfl rfl Tryd.func22 (by kernel_rfl) rfl #[.bool false, .string (⟨#[49]⟩ : ByteArray), .int .i64 0] rfl (by (try simp only [List.map_toArray, List.map_cons, List.map_nil]); first | done | rfl | (simp only [List.length_drop, List.length_take]; rfl) | (have z_ : ∀ s_ : ByteArray, s_.size ≤ 9223372036854775807 → -(s_.size : Int) = wrap64 (-(s_.size : Int)) := (fun s_ h_ => by unfold wrap64; omega); rw [← z_ _ (by omega)]; rfl)) ?_; (with_reducible refine (dec_Made.calls kj11 false (⟨#[49]⟩ : ByteArray) 0 t303 t304 t305 _ A50.out).mono ?_); rintro e w65 ⟨rfl, hb⟩; refine ⟨_, rfl, ?_⟩; have n0_ := Aside0.mk (blk_below (g := gb278) (o := .cells #[.bool a0_0, .slice A0_1 l0_1.length c0_1, .int .i64 a0_2] 33 (0, 0)) (by (with_reducible repeat (first | refine blk_drewN ?_ _ | refine blk_drew ?_ | refine blk_alloc ?_ _)); refine blk_far ?_ NB278_302.out _; (with_reducible repeat (first | refine blk_drewN ?_ _ | refine blk_drew ?_ | refine blk_alloc ?_ _)); refine blk_far ?_ NB278_302.out _; (with_reducible repeat (first | refine blk_drewN ?_ _ | refine blk_drew ?_ | refine blk_alloc ?_ _)); refine blk_far ?_ NB278_302.out _; (with_reducible repeat (first | refine blk_drewN ?_ _ | refine blk_drew ?_ | refine blk_alloc ?_ _)); exact BK278.out) hb); have n1_ := Aside0.mk (blk_below (g := gb284) (o := .cells #[.bool t281, .string t282, .int .i64 t283] 24 (0, 0)) (by (with_reducible repeat (first | refine blk_drewN ?_ _ | refine blk_drew ?_ | refine blk_alloc ?_ _)); refine blk_far ?_ NB284_302.out _; (with_reducible repeat (first | refine blk_drewN ?_ _ | refine blk_drew ?_ | refine blk_alloc ?_ _)); refine blk_far ?_ NB284_302.out _; (with_reducible repeat (first | refine blk_drewN ?_ _ | refine blk_drew ?_ | refine blk_alloc ?_ _)); refine blk_far ?_ NB284_302.out _; (with_reducible repeat (first | refine blk_drewN ?_ _ | refine blk_drew ?_ | refine blk_alloc ?_ _)); exact BK284.out) hb); have n2_ := Aside0.mk (blk_below (g := gb288) (o := .cells #[.bool t285, .string t286, .int .i64 t287] 24 (0, 0)) (by (with_reducible repeat (first | refine blk_drewN ?_ _ | refine blk_drew ?_ | refine blk_alloc ?_ _)); refine blk_far ?_ NB288_302.out _; (with_reducible repeat (first | refine blk_drewN ?_ _ | refine blk_drew ?_ | refine blk_alloc ?_ _)); refine blk_far ?_ NB288_302.out _; (with_reducible repeat (first | refine blk_drewN ?_ _ | refine blk_drew ?_ | refine blk_alloc ?_ _)); refine blk_far ?_ NB288_302.out _; (with_reducible repeat (first | refine blk_drewN ?_ _ | refine blk_drew ?_ | refine blk_alloc ?_ _)); exact BK288.out) hb); have n3_ := Aside0.mk (blk_below (g := gb302) (o := .cells #[.bool t299, .string t300, .int .i64 t301] 24 (0, 0)) (by (with_reducible repeat (first | refine blk_drewN ?_ _ | refine blk_drew ?_ | refine blk_alloc ?_ _)); refine blk_put (cs := #[.bool t299, .string t300, .int .i64 0]) ?_ 2 _ rfl; (with_reducible repeat (first | refine blk_drewN ?_ _ | refine blk_drew ?_ | refine blk_alloc ?_ _)); refine blk_put (cs := #[.bool t299, .string (⟨#[]⟩ : ByteArray), .int .i64 0]) ?_ 1 _ rfl; (with_reducible repeat (first | refine blk_drewN ?_ _ | refine blk_drew ?_ | refine blk_alloc ?_ _)); refine blk_put (cs := #[.bool false, .string (⟨#[]⟩ : ByteArray), .int .i64 0]) ?_ 0 _ rfl; (with_reducible repeat (first | refine blk_drewN ?_ _ | refine blk_drew ?_ | refine blk_alloc ?_ _)); exact BK302.out) hb); have n4_ := Aside0.mk (below_step (bl_ HB).out hb); clear BK278; clear BK284; clear BK288; clear BK302; clear HB; have BK278 := n0_; have BK284 := n1_; have BK288 := n2_; have BK302 := n3_; have HB := n4_; clear n0_ n1_ n2_ n3_ n4_; (try clear hb); (try clear hb2); (try clear hk); (try clear hi)) | ((with_reducible refine gate_callee (f := 25) rfl ?_); refine goesL_ (some 67) rfl rfl Tryd.func25 (by kernel_rfl) rfl #[.agg #[.bool t303, .string t304, .int .i64 t305], .int .i64 a2] rfl (by (try simp only [List.map_toArray, List.map_cons, List.map_nil]); first | done | rfl | (simp only [List.length_drop, List.length_take]; rfl) | (have z_ : ∀ s_ : ByteArray, s_.size ≤ 9223372036854775807 → -(s_.size : Int) = wrap64 (-(s_.size : Int)) := (fun s_ h_ => by unfold wrap64; omega); rw [← z_ _ (by omega)]; rfl)) ?_; (with_reducible refine (dec_Dec_Scale.calls kj11 t303 t304 t305 a2 t306 t307 t308 _ A51.out).mono ?_); rintro e w66 ⟨rfl, hb⟩; refine ⟨_, rfl, ?_⟩; have n0_ := bb_ BK278 hb; have n1_ := bb_ BK284 hb; have n2_ := bb_ BK288 hb; have n3_ := bb_ BK302 hb; have n4_ := Aside0.mk (below_step (bl_ HB).out hb); clear BK278; clear BK284; clear BK288; clear BK302; clear HB; have BK278 := n0_; have BK284 := n1_; have BK288 := n2_; have BK302 := n3_; have HB := n4_; clear n0_ n1_ n2_ n3_ n4_; (try clear hb); (try clear hb2); (try clear hk); (try clear hi)) | ((with_reducible refine gate_dst (N := 14) rfl ?_); (try (refine gate_guard (by rfl) ?_; dsimp only)); refine box_event ?hg (N := 14) ?hd (cs := #[.bool false, .string (⟨#[]⟩ : ByteArray), .int .i64 0]) (t := 24) ?hr ?_; (case hd => rfl); (case hg => rfl); (case hr => first | (go_simp; done) | (go_simp; rfl)); intro gb309 hg w67 hbox hb; have n0_ := bb_ BK278 hb; have n1_ := bb_ BK284 hb; have n2_ := bb_ BK288 hb; have n3_ := bb_ BK302 hb; have n4_ := Aside0.mk (below_step (bl_ HB).out hb); have n5_ := Aside0.mk (hbox); have n6_ := Aside0.mk ((by rw [hg]; exact (below_size (bl_ HB).out) : w.heap.size ≤ gb309)); have n7_ := Aside0.mk ((by rw [hg]; exact (below_size (bl_ HB).out) : w.heap.size ≤ gb309)); have n8_ := Aside0.mk ((by rw [hg]; exact Nat.ne_of_lt (blk_lt (g := gb278) (o := .cells #[.bool a0_0, .slice A0_1 l0_1.length c0_1, .int .i64 a0_2] 33 (0, 0)) (by (with_reducible repeat (first | refine blk_drewN ?_ _ | refine blk_drew ?_ | refine blk_alloc ?_ _)); exact BK278.out)) : gb278 ≠ gb309)); have n9_ := Aside0.mk ((by rw [hg]; exact Nat.ne_of_gt (blk_lt (g := gb278) (o := .cells #[.bool a0_0, .slice A0_1 l0_1.length c0_1, .int .i64 a0_2] 33 (0, 0)) (by (with_reducible repeat (first | refine blk_drewN ?_ _ | refine blk_drew ?_ | refine blk_alloc ?_ _)); exact BK278.out)) : gb309 ≠ gb278)); have n10_ := Aside0.mk ((by rw [hg]; exact Nat.ne_of_lt (blk_lt (g := gb284) (o := .cells #[.bool t281, .string t282, .int .i64 t283] 24 (0, 0)) (by (with_reducible repeat (first | refine blk_drewN ?_ _ | refine blk_drew ?_ | refine blk_alloc ?_ _)); exact BK284.out)) : gb284 ≠ gb309)); have n11_ := Aside0.mk ((by rw [hg]; exact Nat.ne_of_gt (blk_lt (g := gb284) (o := .cells #[.bool t281, .string t282, .int .i64 t283] 24 (0, 0)) (by (with_reducible repeat (first | refine blk_drewN ?_ _ | refine blk_drew ?_ | refine blk_alloc ?_ _)); exact BK284.out)) : gb309 ≠ gb284)); have n12_ := Aside0.mk ((by rw [hg]; exact Nat.ne_of_lt (blk_lt (g := gb288) (o := .cells #[.bool t285, .string t286, .int .i64 t287] 24 (0, 0)) (by (with_reducible repeat (first | refine blk_drewN ?_ _ | refine blk_drew ?_ | refine blk_alloc ?_ _)); exact BK288.out)) : gb288 ≠ gb309)); have n13_ := Aside0.mk ((by rw [hg]; exact Nat.ne_of_gt (blk_lt (g := gb288) (o := .cells #[.bool t285, .string t286, .int .i64 t287] 24 (0, 0)) (by (with_reducible repeat (first | refine blk_drewN ?_ _ | refine blk_drew ?_ | refine blk_alloc ?_ _)); exact BK288.out)) : gb309 ≠ gb288)); have n14_ := Aside0.mk ((by rw [hg]; exact Nat.ne_of_lt (blk_lt (g := gb302) (o := .cells #[.bool t299, .string t300, .int .i64 t301] 24 (0, 0)) (by (with_reducible repeat (first | refine blk_drewN ?_ _ | refine blk_drew ?_ | refine blk_alloc ?_ _)); exact BK302.out)) : gb302 ≠ gb309)); have n15_ := Aside0.mk ((by rw [hg]; exact Nat.ne_of_gt (blk_lt (g := gb302) (o := .cells #[.bool t299, .string t300, .int .i64 t301] 24 (0, 0)) (by (with_reducible repeat (first | refine blk_drewN ?_ _ | refine blk_drew ?_ | refine blk_alloc ?_ _)); exact BK302.out)) : gb309 ≠ gb302)); clear BK278; clear BK284; clear BK288; clear BK302; clear HB; have BK278 := n0_; have BK284 := n1_; have BK288 := n2_; have BK302 := n3_; have HB := n4_; have BK309 := n5_; have GW309 := n6_; have GE309 := n7_; have NB278_309 := n8_; have NB309_278 := n9_; have NB284_309 := n10_; have NB309_284 := n11_; have NB288_309 := n12_; have NB309_288 := n13_; have NB302_309 := n14_; have NB309_302 := n15_; clear n0_ n1_ n2_ n3_ n4_ n5_ n6_ n7_ n8_ n9_ n10_ n11_ n12_ n13_ n14_ n15_; clear hb hbox hg; have hnb68 := NB309_278.out; have hnc68 := NB278_309.out; have hnb69 := NB309_284.out; have hnc69 := NB284_309.out; have hnb70 := NB309_288.out; have hnc70 := NB288_309.out; have hnb71 := NB309_302.out; have hnc71 := NB302_309.out; have hcz72_0 : w67.cell? ⟨gb309, 0, none⟩ = some (.bool false) := (blk_cell BK309.out 0).trans rfl; have hcz72_1 : w67.cell? ⟨gb309, 1, none⟩ = some (.string (⟨#[]⟩ : ByteArray)) := (blk_cell BK309.out 1).trans rfl; have hcz72_2 : w67.cell? ⟨gb309, 2, none⟩ = some (.int .i64 0) := (blk_cell BK309.out 2).trans rfl; have hfz72_0 := blk_frozen BK309.out 0; have hfz72_1 := blk_frozen BK309.out 1; have hfz72_2 := blk_frozen BK309.out 2))
         have n0_ : Aside0 ((((w67.setCell ⟨gb309, 0, none⟩ (.bool t306)).setCell ⟨gb309, 1, none⟩ (.string t307)).setCell ⟨gb309, 2, none⟩ (.int .i64 t308)).heap[gb278]? = _) := bf_ BK278
         have n1_ : Aside0 ((((w67.setCell ⟨gb309, 0, none⟩ (.bool t306)).setCell ⟨gb309, 1, none⟩ (.string t307)).setCell ⟨gb309, 2, none⟩ (.int .i64 t308)).heap[gb284]? = _) := bf_ BK284
         have n2_ : Aside0 ((((w67.setCell ⟨gb309, 0, none⟩ (.bool t306)).setCell ⟨gb309, 1, none⟩ (.string t307)).setCell ⟨gb309, 2, none⟩ (.int .i64 t308)).heap[gb288]? = _) := bf_ BK288
         have n3_ : Aside0 ((((w67.setCell ⟨gb309, 0, none⟩ (.bool t306)).setCell ⟨gb309, 1, none⟩ (.string t307)).setCell ⟨gb309, 2, none⟩ (.int .i64 t308)).heap[gb302]? = _) := bf_ BK302
         have n4_ : Aside0 ((((w67.setCell ⟨gb309, 0, none⟩ (.bool t306)).setCell ⟨gb309, 1, none⟩ (.string t307)).setCell ⟨gb309, 2, none⟩ (.int .i64 t308)).heap[gb309]? = some (.cells #[.bool t306, .string t307, .int .i64 t308] 24 (0, 0))) := ⟨by (with_reducible repeat (first | refine blk_drewN ?_ _ | refine blk_drew ?_ | refine blk_alloc ?_ _)); refine blk_put (cs := #[.bool t306, .string t307, .int .i64 0]) ?_ 2 _ rfl; (with_reducible repeat (first | refine blk_drewN ?_ _ | refine blk_drew ?_ | refine blk_alloc ?_ _)); refine blk_put (cs := #[.bool t306, .string (⟨#[]⟩ : ByteArray), .int .i64 0]) ?_ 1 _ rfl; (with_reducible repeat (first | refine blk_drewN ?_ _ | refine blk_drew ?_ | refine blk_alloc ?_ _)); refine blk_put (cs := #[.bool false, .string (⟨#[]⟩ : ByteArray), .int .i64 0]) ?_ 0 _ rfl; (with_reducible repeat (first | refine blk_drewN ?_ _ | refine blk_drew ?_ | refine blk_alloc ?_ _)); exact BK309.out⟩
         have n5_ : Aside0 (Below w.heap.size w (((w67.setCell ⟨gb309, 0, none⟩ (.bool t306)).setCell ⟨gb309, 1, none⟩ (.string t307)).setCell ⟨gb309, 2, none⟩ (.int .i64 t308))) := (bl_ HB)
         (try clear BK278)
         (try clear BK284)
         (try clear BK288)
         (try clear BK302)
         (try clear BK309)
         (try clear HB)
         generalize (((w67.setCell ⟨gb309, 0, none⟩ (.bool t306)).setCell ⟨gb309, 1, none⟩ (.string t307)).setCell ⟨gb309, 2, none⟩ (.int .i64 t308)) = w73 at n0_ n1_ n2_ n3_ n4_ n5_ ⊢
         have BK278 := n0_
         have BK284 := n1_
         have BK288 := n2_
         have BK302 := n3_
         have BK309 := n4_
         have HB := n5_
         clear n0_ n1_ n2_ n3_ n4_ n5_
         have n0_ := Aside0.mk (blk_drew BK278.out)
         have n1_ := Aside0.mk (blk_drew BK284.out)
         have n2_ := Aside0.mk (blk_drew BK288.out)
         have n3_ := Aside0.mk (blk_drew BK302.out)
         have n4_ := Aside0.mk (blk_drew BK309.out)
         have n5_ := Aside0.mk (below_drew1 HB.out)
         clear BK278
         clear BK284
         clear BK288
         clear BK302
         clear BK309
         clear HB
         have BK278 := n0_
         have BK284 := n1_
         have BK288 := n2_
         have BK302 := n3_
         have BK309 := n4_
         have HB := n5_
         clear n0_ n1_ n2_ n3_ n4_ n5_
         refine start_ (n := 27) (S := fun w' => w'.cell? ⟨gb302, 0, none⟩ = some (.bool t299) ∧ w'.cell? ⟨gb302, 1, none⟩ = some (.string t300) ∧ w'.cell? ⟨gb302, 2, none⟩ = some (.int .i64 t301) ∧ w'.cell? ⟨gb309, 0, none⟩ = some (.bool t306) ∧ w'.cell? ⟨gb309, 1, none⟩ = some (.string t307) ∧ w'.cell? ⟨gb309, 2, none⟩ = some (.int .i64 t308)) (ds := []) #[false, false, false, false, false, false, false, false, false, false, false, false, false, false, false, false, false, false, false, false, false, false, false, false, false, false, false] (by kernel_rfl) rfl rfl ⟨(blk_cell BK302.out 0).trans rfl, (blk_cell BK302.out 1).trans rfl, (blk_cell BK302.out 2).trans rfl, (blk_cell BK309.out 0).trans rfl, (blk_cell BK309.out 1).trans rfl, (blk_cell BK309.out 2).trans rfl⟩ (fun hHeld => ?_); refine with_tabW florinlaw02_DecScales.tab14 florinlaw02_DecScales.bits14 (fun HT_ HW_ => ?_)
         generalize w73.drew = w74 at BK278 BK284 BK288 BK302 BK309 HB hHeld ⊢
         refine tk_ 0 68 (bm_ 27 1) HT_ HW_ hHeld rfl (by rintro w' ⟨s0, s1, s2, s3, s4, s5⟩; go_simp; with_reducible rfl) ?_
         refine tk_ 1 69 (bm_ 27 3) HT_ HW_ hHeld rfl (by rintro w' ⟨s0, s1, s2, s3, s4, s5⟩; go_simp; with_reducible rfl) ?_
         refine pu_ 2 70 (bm_ 27 7) HT_ ?_
         refine pu_ 3 71 (bm_ 27 15) HT_ ?_
         refine pu_ 4 72 (bm_ 27 31) HT_ ?_
         refine pu_ 6 74 (bm_ 27 95) HT_ ?_
         refine pu_ 7 75 (bm_ 27 223) HT_ ?_
         refine pu_ 8 76 (bm_ 27 479) HT_ ?_
         refine tk_ 5 73 (bm_ 27 511) HT_ HW_ hHeld rfl (by rintro w' ⟨s0, s1, s2, s3, s4, s5⟩; go_simp; with_reducible rfl) ?_
         refine pu_ 9 77 (bm_ 27 1023) HT_ ?_
         refine pu_ 10 78 (bm_ 27 2047) HT_ ?_
         refine pu_ 11 79 (bm_ 27 4095) HT_ ?_
         refine pu_ 12 80 (bm_ 27 8191) HT_ ?_
         refine pu_ 14 82 (bm_ 27 24575) HT_ ?_
         refine one_ (i := 13) (N := some 81) (bm_ 27 32767) rfl rfl (one_of HT_.out (by kernel_rfl)) (by decide) (fun K hK => ?_)
         refine goes_ Tryd.func22 (by kernel_rfl) rfl #[.bool true, .string (⟨#[48]⟩ : ByteArray), .int .i64 a2] (by rfl) rfl rfl (by (try simp only [List.map_toArray, List.map_cons, List.map_nil]); first | done | rfl | (simp only [List.length_drop, List.length_take]; rfl) | (have z_ : ∀ s_ : ByteArray, s_.size ≤ 9223372036854775807 → -(s_.size : Int) = wrap64 (-(s_.size : Int)) := (fun s_ h_ => by unfold wrap64; omega); rw [← z_ _ (by omega)]; rfl)) ?_
         with_reducible refine (dec_Made.calls kj11 true (⟨#[48]⟩ : ByteArray) a2 t310 t311 t312 _ A56.out).mono ?_
         rintro e w75 ⟨rfl, hb⟩
         refine ⟨_, rfl, ?_⟩
         have n0_ := bb_ BK278 hb
         have n1_ := bb_ BK284 hb
         have n2_ := bb_ BK288 hb
         have n3_ := bb_ BK302 hb
         have n4_ := bb_ BK309 hb
         have n5_ := Aside0.mk (below_step (bl_ HB).out hb)
         clear BK278
         clear BK284
         clear BK288
         clear BK302
         clear BK309
         clear HB
         have BK278 := n0_
         have BK284 := n1_
         have BK288 := n2_
         have BK302 := n3_
         have BK309 := n4_
         have HB := n5_
         clear n0_ n1_ n2_ n3_ n4_ n5_
         (try clear hb)
         (try clear hb2)
         (try clear hk)
         (try clear hi)
         refine hK.out _ _ ⟨(blk_cell BK302.out 0).trans rfl, (blk_cell BK302.out 1).trans rfl, (blk_cell BK302.out 2).trans rfl, (blk_cell BK309.out 0).trans rfl, (blk_cell BK309.out 1).trans rfl, (blk_cell BK309.out 2).trans rfl⟩ (fun hHeld => ?_)
         clear hK K
         refine norm_ (a' := ?_) ?_ ?_
         rotate_left
         ·show Act.put _ (some 81) _ = _
          simp only [Act.put, List.setIfInBounds_toArray, List.set_cons_zero, List.set_cons_succ, i64_w, i32_w]
          rfl
         refine pu_ 15 83 (bm_ 27 65535) HT_ ?_
         refine pu_ 16 84 (bm_ 27 131071) HT_ ?_
         refine pu_ 17 85 (bm_ 27 262143) HT_ ?_
         refine pu_ 18 86 (bm_ 27 524287) HT_ ?_
         refine pu_ 19 87 (bm_ 27 1048575) HT_ ?_
         refine pu_ 22 90 (bm_ 27 5242879) HT_ ?_
         refine tk_ 23 91 (bm_ 27 13631487) HT_ HW_ hHeld rfl (by rintro w' ⟨s0, s1, s2, s3, s4, s5⟩; go_simp; with_reducible rfl) ?_
         refine one_ (i := 20) (N := some 88) (bm_ 27 14680063) rfl rfl (one_of HT_.out (by kernel_rfl)) (by decide) (fun K hK => ?_)
         refine goes_ Tryd.func19 (by kernel_rfl) rfl #[.agg #[.bool false, .string (⟨#[53]⟩ : ByteArray), .int .i64 a2]] (by rfl) rfl rfl (by (try simp only [List.map_toArray, List.map_cons, List.map_nil]); first | done | rfl | (simp only [List.length_drop, List.length_take]; rfl) | (have z_ : ∀ s_ : ByteArray, s_.size ≤ 9223372036854775807 → -(s_.size : Int) = wrap64 (-(s_.size : Int)) := (fun s_ h_ => by unfold wrap64; omega); rw [← z_ _ (by omega)]; rfl)) ?_
         with_reducible refine (dec_Dec_Norm.calls kj11 false (⟨#[53]⟩ : ByteArray) a2 t313 t314 t315 _ A58.out).mono ?_
         rintro e w76 ⟨rfl, hb⟩
         refine ⟨_, rfl, ?_⟩
         have n0_ := bb_ BK278 hb
         have n1_ := bb_ BK284 hb
         have n2_ := bb_ BK288 hb
         have n3_ := bb_ BK302 hb
         have n4_ := bb_ BK309 hb
         have n5_ := Aside0.mk (below_step (bl_ HB).out hb)
         clear BK278
         clear BK284
         clear BK288
         clear BK302
         clear BK309
         clear HB
         have BK278 := n0_
         have BK284 := n1_
         have BK288 := n2_
         have BK302 := n3_
         have BK309 := n4_
         have HB := n5_
         clear n0_ n1_ n2_ n3_ n4_ n5_
         (try clear hb)
         (try clear hb2)
         (try clear hk)
         (try clear hi)
         refine hK.out _ _ ⟨(blk_cell BK302.out 0).trans rfl, (blk_cell BK302.out 1).trans rfl, (blk_cell BK302.out 2).trans rfl, (blk_cell BK309.out 0).trans rfl, (blk_cell BK309.out 1).trans rfl, (blk_cell BK309.out 2).trans rfl⟩ (fun hHeld => ?_)
         clear hK K
         refine norm_ (a' := ?_) ?_ ?_
         rotate_left
         ·show Act.put _ (some 88) _ = _
          simp only [Act.put, List.setIfInBounds_toArray, List.set_cons_zero, List.set_cons_succ, i64_w, i32_w]
          rfl
         refine pure_ (i := 21) (N := some 89) (v := ?_) (a' := ?_) (bm_ 27 16777215) rfl rfl (any_of HT_.out (by kernel_rfl)) (fun _ _ _ h => h) (Or.inl ⟨by rfl, ?_⟩) ?_ ?_
         rotate_left
         ·intro w'
          go_simp
          first | with_reducible rfl | (refine (fld_ (by assumption) rfl (by kernel_rfl) (by simp <;> rfl)).trans ?_; with_reducible rfl)
         rotate_left; ·simp only [Act.put, List.setIfInBounds_toArray, List.set_cons_zero, List.set_cons_succ, i64_w, i32_w]; rfl
         refine pu_ 24 92 (bm_ 27 33554431) HT_ ?_
         refine pu_ 25 93 (bm_ 27 67108863) HT_ ?_
         refine pu_ 26 6 (bm_ 27 134217727) HT_ ?_
         refine done_ (done_of HT_.out (by kernel_rfl)) ?_
         try go_wp2
         go_ret
         exact ⟨by first | rfl | (simp [errW_none, errW_some] <;> rfl) | (simp only [← hji53, ← hji54]; first | rfl | (simp [errW_none, errW_some] <;> rfl)) | (simp [*, errW_none, errW_some] <;> first | rfl | exact given_isEmpty _ | exact (given_isEmpty _).symm), by repeat (first | (with_reducible first | exact HB.out | apply below_alloc | apply pw_below_drewN | apply below_drew1 | refine below_set ?_ GE278.out | refine below_set ?_ GE284.out | refine below_set ?_ GE288.out | refine below_set ?_ GE302.out | refine below_set ?_ GE309.out) | exact HB.out)⟩
        ·rw [if_neg c57] at H
         have c57b0 : (!t310 && (t311.toList == ([] : List UInt8) && (t312 == 0))) = false := by simpa using c57
         (try (have c57b1 : (!t310 && (t311.toList.isEmpty && (t312 == 0))) = false := by have z_ := c57; simp only [show ∀ l_ : List UInt8, (l_ == ([] : List UInt8)) = l_.isEmpty from fun l_ => by cases l_ <;> rfl] at z_; first | exact z_ | exact Bool.eq_false_iff.mpr z_))
         clear c57
         obtain rfl := Option.some.inj H
         try go_wp2_with (first | ((with_reducible refine gate_callee (f := 22) rfl ?_); refine goesL_ (some 64) rfl rfl Tryd.func22 (by kernel_rfl) rfl #[.bool false, .string (⟨#[49]⟩ : ByteArray), .int .i64 a2] rfl (by (try simp only [List.map_toArray, List.map_cons, List.map_nil]); first | done | rfl | (simp only [List.length_drop, List.length_take]; rfl) | (have z_ : ∀ s_ : ByteArray, s_.size ≤ 9223372036854775807 → -(s_.size : Int) = wrap64 (-(s_.size : Int)) := (fun s_ h_ => by unfold wrap64; omega); rw [← z_ _ (by omega)]; rfl)) ?_; (with_reducible refine (dec_Made.calls kj11 false (⟨#[49]⟩ : ByteArray) a2 t299 t300 t301 _ A49.out).mono ?_); rintro e w77 ⟨rfl, hb⟩; refine ⟨_, rfl, ?_⟩; have n0_ := bb_ BK278 hb; have n1_ := bb_ BK284 hb; have n2_ := bb_ BK288 hb; have n3_ := Aside0.mk (below_step (bl_ HB).out hb); clear BK278; clear BK284; clear BK288; clear HB; have BK278 := n0_; have BK284 := n1_; have BK288 := n2_; have HB := n3_; clear n0_ n1_ n2_ n3_; (try clear hb); (try clear hb2); (try clear hk); (try clear hi)) | ((with_reducible refine gate_dst (N := 13) rfl ?_); (try (refine gate_guard (by rfl) ?_; dsimp only)); refine box_event ?hg (N := 13) ?hd (cs := #[.bool false, .string (⟨#[]⟩ : ByteArray), .int .i64 0]) (t := 24) ?hr ?_; (case hd => rfl); (case hg => rfl); (case hr => first | (go_simp; done) | (go_simp; rfl)); intro gb302 hg w78 hbox hb; have n0_ := bb_ BK278 hb; have n1_ := bb_ BK284 hb; have n2_ := bb_ BK288 hb; have n3_ := Aside0.mk (below_step (bl_ HB).out hb); have n4_ := Aside0.mk (hbox); have n5_ := Aside0.mk ((by rw [hg]; exact (below_size (bl_ HB).out) : w.heap.size ≤ gb302)); have n6_ := Aside0.mk ((by rw [hg]; exact (below_size (bl_ HB).out) : w.heap.size ≤ gb302)); have n7_ := Aside0.mk ((by rw [hg]; exact Nat.ne_of_lt (blk_lt (g := gb278) (o := .cells #[.bool a0_0, .slice A0_1 l0_1.length c0_1, .int .i64 a0_2] 33 (0, 0)) (by (with_reducible repeat (first | refine blk_drewN ?_ _ | refine blk_drew ?_ | refine blk_alloc ?_ _)); exact BK278.out)) : gb278 ≠ gb302)); have n8_ := Aside0.mk ((by rw [hg]; exact Nat.ne_of_gt (blk_lt (g := gb278) (o := .cells #[.bool a0_0, .slice A0_1 l0_1.length c0_1, .int .i64 a0_2] 33 (0, 0)) (by (with_reducible repeat (first | refine blk_drewN ?_ _ | refine blk_drew ?_ | refine blk_alloc ?_ _)); exact BK278.out)) : gb302 ≠ gb278)); have n9_ := Aside0.mk ((by rw [hg]; exact Nat.ne_of_lt (blk_lt (g := gb284) (o := .cells #[.bool t281, .string t282, .int .i64 t283] 24 (0, 0)) (by (with_reducible repeat (first | refine blk_drewN ?_ _ | refine blk_drew ?_ | refine blk_alloc ?_ _)); exact BK284.out)) : gb284 ≠ gb302)); have n10_ := Aside0.mk ((by rw [hg]; exact Nat.ne_of_gt (blk_lt (g := gb284) (o := .cells #[.bool t281, .string t282, .int .i64 t283] 24 (0, 0)) (by (with_reducible repeat (first | refine blk_drewN ?_ _ | refine blk_drew ?_ | refine blk_alloc ?_ _)); exact BK284.out)) : gb302 ≠ gb284)); have n11_ := Aside0.mk ((by rw [hg]; exact Nat.ne_of_lt (blk_lt (g := gb288) (o := .cells #[.bool t285, .string t286, .int .i64 t287] 24 (0, 0)) (by (with_reducible repeat (first | refine blk_drewN ?_ _ | refine blk_drew ?_ | refine blk_alloc ?_ _)); exact BK288.out)) : gb288 ≠ gb302)); have n12_ := Aside0.mk ((by rw [hg]; exact Nat.ne_of_gt (blk_lt (g := gb288) (o := .cells #[.bool t285, .string t286, .int .i64 t287] 24 (0, 0)) (by (with_reducible repeat (first | refine blk_drewN ?_ _ | refine blk_drew ?_ | refine blk_alloc ?_ _)); exact BK288.out)) : gb302 ≠ gb288)); clear BK278; clear BK284; clear BK288; clear HB; have BK278 := n0_; have BK284 := n1_; have BK288 := n2_; have HB := n3_; have BK302 := n4_; have GW302 := n5_; have GE302 := n6_; have NB278_302 := n7_; have NB302_278 := n8_; have NB284_302 := n9_; have NB302_284 := n10_; have NB288_302 := n11_; have NB302_288 := n12_; clear n0_ n1_ n2_ n3_ n4_ n5_ n6_ n7_ n8_ n9_ n10_ n11_ n12_; clear hb hbox hg; have hnb79 := NB302_278.out; have hnc79 := NB278_302.out; have hnb80 := NB302_284.out; have hnc80 := NB284_302.out; have hnb81 := NB302_288.out; have hnc81 := NB288_302.out; have hcz82_0 : w78.cell? ⟨gb302, 0, none⟩ = some (.bool false) := (blk_cell BK302.out 0).trans rfl; have hcz82_1 : w78.cell? ⟨gb302, 1, none⟩ = some (.string (⟨#[]⟩ : ByteArray)) := (blk_cell BK302.out 1).trans rfl; have hcz82_2 : w78.cell? ⟨gb302, 2, none⟩ = some (.int .i64 0) := (blk_cell BK302.out 2).trans rfl; have hfz82_0 := blk_frozen BK302.out 0; have hfz82_1 := blk_frozen BK302.out 1; have hfz82_2 := blk_frozen BK302.out 2) | ((with_reducible refine gate_callee (f := 22) rfl ?_); refine goesL_ (some 65) rfl rfl Tryd.func22 (by kernel_rfl) rfl #[.bool false, .string (⟨#[49]⟩ : ByteArray), .int .i64 0] rfl (by (try simp only [List.map_toArray, List.map_cons, List.map_nil]); first | done | rfl | (simp only [List.length_drop, List.length_take]; rfl) | (have z_ : ∀ s_ : ByteArray, s_.size ≤ 9223372036854775807 → -(s_.size : Int) = wrap64 (-(s_.size : Int)) := (fun s_ h_ => by unfold wrap64; omega); rw [← z_ _ (by omega)]; rfl)) ?_; (with_reducible refine (dec_Made.calls kj11 false (⟨#[49]⟩ : ByteArray) 0 t303 t304 t305 _ A50.out).mono ?_); rintro e w83 ⟨rfl, hb⟩; refine ⟨_, rfl, ?_⟩; have n0_ := Aside0.mk (blk_below (g := gb278) (o := .cells #[.bool a0_0, .slice A0_1 l0_1.length c0_1, .int .i64 a0_2] 33 (0, 0)) (by (with_reducible repeat (first | refine blk_drewN ?_ _ | refine blk_drew ?_ | refine blk_alloc ?_ _)); refine blk_far ?_ NB278_302.out _; (with_reducible repeat (first | refine blk_drewN ?_ _ | refine blk_drew ?_ | refine blk_alloc ?_ _)); refine blk_far ?_ NB278_302.out _; (with_reducible repeat (first | refine blk_drewN ?_ _ | refine blk_drew ?_ | refine blk_alloc ?_ _)); refine blk_far ?_ NB278_302.out _; (with_reducible repeat (first | refine blk_drewN ?_ _ | refine blk_drew ?_ | refine blk_alloc ?_ _)); exact BK278.out) hb); have n1_ := Aside0.mk (blk_below (g := gb284) (o := .cells #[.bool t281, .string t282, .int .i64 t283] 24 (0, 0)) (by (with_reducible repeat (first | refine blk_drewN ?_ _ | refine blk_drew ?_ | refine blk_alloc ?_ _)); refine blk_far ?_ NB284_302.out _; (with_reducible repeat (first | refine blk_drewN ?_ _ | refine blk_drew ?_ | refine blk_alloc ?_ _)); refine blk_far ?_ NB284_302.out _; (with_reducible repeat (first | refine blk_drewN ?_ _ | refine blk_drew ?_ | refine blk_alloc ?_ _)); refine blk_far ?_ NB284_302.out _; (with_reducible repeat (first | refine blk_drewN ?_ _ | refine blk_drew ?_ | refine blk_alloc ?_ _)); exact BK284.out) hb); have n2_ := Aside0.mk (blk_below (g := gb288) (o := .cells #[.bool t285, .string t286, .int .i64 t287] 24 (0, 0)) (by (with_reducible repeat (first | refine blk_drewN ?_ _ | refine blk_drew ?_ | refine blk_alloc ?_ _)); refine blk_far ?_ NB288_302.out _; (with_reducible repeat (first | refine blk_drewN ?_ _ | refine blk_drew ?_ | refine blk_alloc ?_ _)); refine blk_far ?_ NB288_302.out _; (with_reducible repeat (first | refine blk_drewN ?_ _ | refine blk_drew ?_ | refine blk_alloc ?_ _)); refine blk_far ?_ NB288_302.out _; (with_reducible repeat (first | refine blk_drewN ?_ _ | refine blk_drew ?_ | refine blk_alloc ?_ _)); exact BK288.out) hb); have n3_ := Aside0.mk (blk_below (g := gb302) (o := .cells #[.bool t299, .string t300, .int .i64 t301] 24 (0, 0)) (by (with_reducible repeat (first | refine blk_drewN ?_ _ | refine blk_drew ?_ | refine blk_alloc ?_ _)); refine blk_put (cs := #[.bool t299, .string t300, .int .i64 0]) ?_ 2 _ rfl; (with_reducible repeat (first | refine blk_drewN ?_ _ | refine blk_drew ?_ | refine blk_alloc ?_ _)); refine blk_put (cs := #[.bool t299, .string (⟨#[]⟩ : ByteArray), .int .i64 0]) ?_ 1 _ rfl; (with_reducible repeat (first | refine blk_drewN ?_ _ | refine blk_drew ?_ | refine blk_alloc ?_ _)); refine blk_put (cs := #[.bool false, .string (⟨#[]⟩ : ByteArray), .int .i64 0]) ?_ 0 _ rfl; (with_reducible repeat (first | refine blk_drewN ?_ _ | refine blk_drew ?_ | refine blk_alloc ?_ _)); exact BK302.out) hb); have n4_ := Aside0.mk (below_step (bl_ HB).out hb); clear BK278; clear BK284; clear BK288; clear BK302; clear HB; have BK278 := n0_; have BK284 := n1_; have BK288 := n2_; have BK302 := n3_; have HB := n4_; clear n0_ n1_ n2_ n3_ n4_; (try clear hb); (try clear hb2); (try clear hk); (try clear hi)) | ((with_reducible refine gate_callee (f := 25) rfl ?_); refine goesL_ (some 67) rfl rfl Tryd.func25 (by kernel_rfl) rfl #[.agg #[.bool t303, .string t304, .int .i64 t305], .int .i64 a2] rfl (by (try simp only [List.map_toArray, List.map_cons, List.map_nil]); first | done | rfl | (simp only [List.length_drop, List.length_take]; rfl) | (have z_ : ∀ s_ : ByteArray, s_.size ≤ 9223372036854775807 → -(s_.size : Int) = wrap64 (-(s_.size : Int)) := (fun s_ h_ => by unfold wrap64; omega); rw [← z_ _ (by omega)]; rfl)) ?_; (with_reducible refine (dec_Dec_Scale.calls kj11 t303 t304 t305 a2 t306 t307 t308 _ A51.out).mono ?_); rintro e w84 ⟨rfl, hb⟩; refine ⟨_, rfl, ?_⟩; have n0_ := bb_ BK278 hb; have n1_ := bb_ BK284 hb; have n2_ := bb_ BK288 hb; have n3_ := bb_ BK302 hb; have n4_ := Aside0.mk (below_step (bl_ HB).out hb); clear BK278; clear BK284; clear BK288; clear BK302; clear HB; have BK278 := n0_; have BK284 := n1_; have BK288 := n2_; have BK302 := n3_; have HB := n4_; clear n0_ n1_ n2_ n3_ n4_; (try clear hb); (try clear hb2); (try clear hk); (try clear hi)) | ((with_reducible refine gate_dst (N := 14) rfl ?_); (try (refine gate_guard (by rfl) ?_; dsimp only)); refine box_event ?hg (N := 14) ?hd (cs := #[.bool false, .string (⟨#[]⟩ : ByteArray), .int .i64 0]) (t := 24) ?hr ?_; (case hd => rfl); (case hg => rfl); (case hr => first | (go_simp; done) | (go_simp; rfl)); intro gb309 hg w85 hbox hb; have n0_ := bb_ BK278 hb; have n1_ := bb_ BK284 hb; have n2_ := bb_ BK288 hb; have n3_ := bb_ BK302 hb; have n4_ := Aside0.mk (below_step (bl_ HB).out hb); have n5_ := Aside0.mk (hbox); have n6_ := Aside0.mk ((by rw [hg]; exact (below_size (bl_ HB).out) : w.heap.size ≤ gb309)); have n7_ := Aside0.mk ((by rw [hg]; exact (below_size (bl_ HB).out) : w.heap.size ≤ gb309)); have n8_ := Aside0.mk ((by rw [hg]; exact Nat.ne_of_lt (blk_lt (g := gb278) (o := .cells #[.bool a0_0, .slice A0_1 l0_1.length c0_1, .int .i64 a0_2] 33 (0, 0)) (by (with_reducible repeat (first | refine blk_drewN ?_ _ | refine blk_drew ?_ | refine blk_alloc ?_ _)); exact BK278.out)) : gb278 ≠ gb309)); have n9_ := Aside0.mk ((by rw [hg]; exact Nat.ne_of_gt (blk_lt (g := gb278) (o := .cells #[.bool a0_0, .slice A0_1 l0_1.length c0_1, .int .i64 a0_2] 33 (0, 0)) (by (with_reducible repeat (first | refine blk_drewN ?_ _ | refine blk_drew ?_ | refine blk_alloc ?_ _)); exact BK278.out)) : gb309 ≠ gb278)); have n10_ := Aside0.mk ((by rw [hg]; exact Nat.ne_of_lt (blk_lt (g := gb284) (o := .cells #[.bool t281, .string t282, .int .i64 t283] 24 (0, 0)) (by (with_reducible repeat (first | refine blk_drewN ?_ _ | refine blk_drew ?_ | refine blk_alloc ?_ _)); exact BK284.out)) : gb284 ≠ gb309)); have n11_ := Aside0.mk ((by rw [hg]; exact Nat.ne_of_gt (blk_lt (g := gb284) (o := .cells #[.bool t281, .string t282, .int .i64 t283] 24 (0, 0)) (by (with_reducible repeat (first | refine blk_drewN ?_ _ | refine blk_drew ?_ | refine blk_alloc ?_ _)); exact BK284.out)) : gb309 ≠ gb284)); have n12_ := Aside0.mk ((by rw [hg]; exact Nat.ne_of_lt (blk_lt (g := gb288) (o := .cells #[.bool t285, .string t286, .int .i64 t287] 24 (0, 0)) (by (with_reducible repeat (first | refine blk_drewN ?_ _ | refine blk_drew ?_ | refine blk_alloc ?_ _)); exact BK288.out)) : gb288 ≠ gb309)); have n13_ := Aside0.mk ((by rw [hg]; exact Nat.ne_of_gt (blk_lt (g := gb288) (o := .cells #[.bool t285, .string t286, .int .i64 t287] 24 (0, 0)) (by (with_reducible repeat (first | refine blk_drewN ?_ _ | refine blk_drew ?_ | refine blk_alloc ?_ _)); exact BK288.out)) : gb309 ≠ gb288)); have n14_ := Aside0.mk ((by rw [hg]; exact Nat.ne_of_lt (blk_lt (g := gb302) (o := .cells #[.bool t299, .string t300, .int .i64 t301] 24 (0, 0)) (by (with_reducible repeat (first | refine blk_drewN ?_ _ | refine blk_drew ?_ | refine blk_alloc ?_ _)); exact BK302.out)) : gb302 ≠ gb309)); have n15_ := Aside0.mk ((by rw [hg]; exact Nat.ne_of_gt (blk_lt (g := gb302) (o := .cells #[.bool t299, .string t300, .int .i64 t301] 24 (0, 0)) (by (with_reducible repeat (first | refine blk_drewN ?_ _ | refine blk_drew ?_ | refine blk_alloc ?_ _)); exact BK302.out)) : gb309 ≠ gb302)); clear BK278; clear BK284; clear BK288; clear BK302; clear HB; have BK278 := n0_; have BK284 := n1_; have BK288 := n2_; have BK302 := n3_; have HB := n4_; have BK309 := n5_; have GW309 := n6_; have GE309 := n7_; have NB278_309 := n8_; have NB309_278 := n9_; have NB284_309 := n10_; have NB309_284 := n11_; have NB288_309 := n12_; have NB309_288 := n13_; have NB302_309 := n14_; have NB309_302 := n15_; clear n0_ n1_ n2_ n3_ n4_ n5_ n6_ n7_ n8_ n9_ n10_ n11_ n12_ n13_ n14_ n15_; clear hb hbox hg; have hnb86 := NB309_278.out; have hnc86 := NB278_309.out; have hnb87 := NB309_284.out; have hnc87 := NB284_309.out; have hnb88 := NB309_288.out; have hnc88 := NB288_309.out; have hnb89 := NB309_302.out; have hnc89 := NB302_309.out; have hcz90_0 : w85.cell? ⟨gb309, 0, none⟩ = some (.bool false) := (blk_cell BK309.out 0).trans rfl; have hcz90_1 : w85.cell? ⟨gb309, 1, none⟩ = some (.string (⟨#[]⟩ : ByteArray)) := (blk_cell BK309.out 1).trans rfl; have hcz90_2 : w85.cell? ⟨gb309, 2, none⟩ = some (.int .i64 0) := (blk_cell BK309.out 2).trans rfl; have hfz90_0 := blk_frozen BK309.out 0; have hfz90_1 := blk_frozen BK309.out 1; have hfz90_2 := blk_frozen BK309.out 2))
         have n0_ : Aside0 ((((w85.setCell ⟨gb309, 0, none⟩ (.bool t306)).setCell ⟨gb309, 1, none⟩ (.string t307)).setCell ⟨gb309, 2, none⟩ (.int .i64 t308)).heap[gb278]? = _) := bf_ BK278
         have n1_ : Aside0 ((((w85.setCell ⟨gb309, 0, none⟩ (.bool t306)).setCell ⟨gb309, 1, none⟩ (.string t307)).setCell ⟨gb309, 2, none⟩ (.int .i64 t308)).heap[gb284]? = _) := bf_ BK284
         have n2_ : Aside0 ((((w85.setCell ⟨gb309, 0, none⟩ (.bool t306)).setCell ⟨gb309, 1, none⟩ (.string t307)).setCell ⟨gb309, 2, none⟩ (.int .i64 t308)).heap[gb288]? = _) := bf_ BK288
         have n3_ : Aside0 ((((w85.setCell ⟨gb309, 0, none⟩ (.bool t306)).setCell ⟨gb309, 1, none⟩ (.string t307)).setCell ⟨gb309, 2, none⟩ (.int .i64 t308)).heap[gb302]? = _) := bf_ BK302
         have n4_ : Aside0 ((((w85.setCell ⟨gb309, 0, none⟩ (.bool t306)).setCell ⟨gb309, 1, none⟩ (.string t307)).setCell ⟨gb309, 2, none⟩ (.int .i64 t308)).heap[gb309]? = some (.cells #[.bool t306, .string t307, .int .i64 t308] 24 (0, 0))) := ⟨by (with_reducible repeat (first | refine blk_drewN ?_ _ | refine blk_drew ?_ | refine blk_alloc ?_ _)); refine blk_put (cs := #[.bool t306, .string t307, .int .i64 0]) ?_ 2 _ rfl; (with_reducible repeat (first | refine blk_drewN ?_ _ | refine blk_drew ?_ | refine blk_alloc ?_ _)); refine blk_put (cs := #[.bool t306, .string (⟨#[]⟩ : ByteArray), .int .i64 0]) ?_ 1 _ rfl; (with_reducible repeat (first | refine blk_drewN ?_ _ | refine blk_drew ?_ | refine blk_alloc ?_ _)); refine blk_put (cs := #[.bool false, .string (⟨#[]⟩ : ByteArray), .int .i64 0]) ?_ 0 _ rfl; (with_reducible repeat (first | refine blk_drewN ?_ _ | refine blk_drew ?_ | refine blk_alloc ?_ _)); exact BK309.out⟩
         have n5_ : Aside0 (Below w.heap.size w (((w85.setCell ⟨gb309, 0, none⟩ (.bool t306)).setCell ⟨gb309, 1, none⟩ (.string t307)).setCell ⟨gb309, 2, none⟩ (.int .i64 t308))) := (bl_ HB)
         (try clear BK278)
         (try clear BK284)
         (try clear BK288)
         (try clear BK302)
         (try clear BK309)
         (try clear HB)
         generalize (((w85.setCell ⟨gb309, 0, none⟩ (.bool t306)).setCell ⟨gb309, 1, none⟩ (.string t307)).setCell ⟨gb309, 2, none⟩ (.int .i64 t308)) = w91 at n0_ n1_ n2_ n3_ n4_ n5_ ⊢
         have BK278 := n0_
         have BK284 := n1_
         have BK288 := n2_
         have BK302 := n3_
         have BK309 := n4_
         have HB := n5_
         clear n0_ n1_ n2_ n3_ n4_ n5_
         have n0_ := Aside0.mk (blk_drew BK278.out)
         have n1_ := Aside0.mk (blk_drew BK284.out)
         have n2_ := Aside0.mk (blk_drew BK288.out)
         have n3_ := Aside0.mk (blk_drew BK302.out)
         have n4_ := Aside0.mk (blk_drew BK309.out)
         have n5_ := Aside0.mk (below_drew1 HB.out)
         clear BK278
         clear BK284
         clear BK288
         clear BK302
         clear BK309
         clear HB
         have BK278 := n0_
         have BK284 := n1_
         have BK288 := n2_
         have BK302 := n3_
         have BK309 := n4_
         have HB := n5_
         clear n0_ n1_ n2_ n3_ n4_ n5_
         refine start_ (n := 27) (S := fun w' => w'.cell? ⟨gb302, 0, none⟩ = some (.bool t299) ∧ w'.cell? ⟨gb302, 1, none⟩ = some (.string t300) ∧ w'.cell? ⟨gb302, 2, none⟩ = some (.int .i64 t301) ∧ w'.cell? ⟨gb309, 0, none⟩ = some (.bool t306) ∧ w'.cell? ⟨gb309, 1, none⟩ = some (.string t307) ∧ w'.cell? ⟨gb309, 2, none⟩ = some (.int .i64 t308)) (ds := []) #[false, false, false, false, false, false, false, false, false, false, false, false, false, false, false, false, false, false, false, false, false, false, false, false, false, false, false] (by kernel_rfl) rfl rfl ⟨(blk_cell BK302.out 0).trans rfl, (blk_cell BK302.out 1).trans rfl, (blk_cell BK302.out 2).trans rfl, (blk_cell BK309.out 0).trans rfl, (blk_cell BK309.out 1).trans rfl, (blk_cell BK309.out 2).trans rfl⟩ (fun hHeld => ?_); refine with_tabW florinlaw02_DecScales.tab14 florinlaw02_DecScales.bits14 (fun HT_ HW_ => ?_)
         generalize w91.drew = w92 at BK278 BK284 BK288 BK302 BK309 HB hHeld ⊢
         refine tk_ 0 68 (bm_ 27 1) HT_ HW_ hHeld rfl (by rintro w' ⟨s0, s1, s2, s3, s4, s5⟩; go_simp; with_reducible rfl) ?_
         refine tk_ 1 69 (bm_ 27 3) HT_ HW_ hHeld rfl (by rintro w' ⟨s0, s1, s2, s3, s4, s5⟩; go_simp; with_reducible rfl) ?_
         refine pu_ 2 70 (bm_ 27 7) HT_ ?_
         refine pu_ 3 71 (bm_ 27 15) HT_ ?_
         refine pu_ 4 72 (bm_ 27 31) HT_ ?_
         refine pu_ 6 74 (bm_ 27 95) HT_ ?_
         refine pu_ 7 75 (bm_ 27 223) HT_ ?_
         refine pu_ 8 76 (bm_ 27 479) HT_ ?_
         refine tk_ 5 73 (bm_ 27 511) HT_ HW_ hHeld rfl (by rintro w' ⟨s0, s1, s2, s3, s4, s5⟩; go_simp; with_reducible rfl) ?_
         refine pu_ 9 77 (bm_ 27 1023) HT_ ?_
         refine pu_ 10 78 (bm_ 27 2047) HT_ ?_
         refine pu_ 11 79 (bm_ 27 4095) HT_ ?_
         refine pu_ 12 80 (bm_ 27 8191) HT_ ?_
         refine pu_ 14 82 (bm_ 27 24575) HT_ ?_
         refine one_ (i := 13) (N := some 81) (bm_ 27 32767) rfl rfl (one_of HT_.out (by kernel_rfl)) (by decide) (fun K hK => ?_)
         refine goes_ Tryd.func22 (by kernel_rfl) rfl #[.bool true, .string (⟨#[48]⟩ : ByteArray), .int .i64 a2] (by rfl) rfl rfl (by (try simp only [List.map_toArray, List.map_cons, List.map_nil]); first | done | rfl | (simp only [List.length_drop, List.length_take]; rfl) | (have z_ : ∀ s_ : ByteArray, s_.size ≤ 9223372036854775807 → -(s_.size : Int) = wrap64 (-(s_.size : Int)) := (fun s_ h_ => by unfold wrap64; omega); rw [← z_ _ (by omega)]; rfl)) ?_
         with_reducible refine (dec_Made.calls kj11 true (⟨#[48]⟩ : ByteArray) a2 t310 t311 t312 _ A56.out).mono ?_
         rintro e w93 ⟨rfl, hb⟩
         refine ⟨_, rfl, ?_⟩
         have n0_ := bb_ BK278 hb
         have n1_ := bb_ BK284 hb
         have n2_ := bb_ BK288 hb
         have n3_ := bb_ BK302 hb
         have n4_ := bb_ BK309 hb
         have n5_ := Aside0.mk (below_step (bl_ HB).out hb)
         clear BK278
         clear BK284
         clear BK288
         clear BK302
         clear BK309
         clear HB
         have BK278 := n0_
         have BK284 := n1_
         have BK288 := n2_
         have BK302 := n3_
         have BK309 := n4_
         have HB := n5_
         clear n0_ n1_ n2_ n3_ n4_ n5_
         (try clear hb)
         (try clear hb2)
         (try clear hk)
         (try clear hi)
         refine hK.out _ _ ⟨(blk_cell BK302.out 0).trans rfl, (blk_cell BK302.out 1).trans rfl, (blk_cell BK302.out 2).trans rfl, (blk_cell BK309.out 0).trans rfl, (blk_cell BK309.out 1).trans rfl, (blk_cell BK309.out 2).trans rfl⟩ (fun hHeld => ?_)
         clear hK K
         refine norm_ (a' := ?_) ?_ ?_
         rotate_left
         ·show Act.put _ (some 81) _ = _
          simp only [Act.put, List.setIfInBounds_toArray, List.set_cons_zero, List.set_cons_succ, i64_w, i32_w]
          rfl
         refine pu_ 15 83 (bm_ 27 65535) HT_ ?_
         refine pu_ 16 84 (bm_ 27 131071) HT_ ?_
         refine pu_ 17 85 (bm_ 27 262143) HT_ ?_
         refine pn_ 18 86 (bm_ 27 524287) HT_ ?_
         refine pn_ 19 87 (bm_ 27 1048575) HT_ ?_
         refine pn_ 20 88 (bm_ 27 2097151) HT_ ?_
         refine pn_ 21 89 (bm_ 27 4194303) HT_ ?_
         refine pn_ 22 90 (bm_ 27 8388607) HT_ ?_
         refine pn_ 23 91 (bm_ 27 16777215) HT_ ?_
         refine pn_ 24 92 (bm_ 27 33554431) HT_ ?_
         refine pu_ 25 93 (bm_ 27 67108863) HT_ ?_
         refine pu_ 26 6 (bm_ 27 134217727) HT_ ?_
         refine done_ (done_of HT_.out (by kernel_rfl)) ?_
         try go_wp2
         go_ret
         exact ⟨by first | rfl | (simp [errW_none, errW_some] <;> rfl) | (simp only [← hji53, ← hji54]; first | rfl | (simp [errW_none, errW_some] <;> rfl)) | (simp [*, errW_none, errW_some] <;> first | rfl | exact given_isEmpty _ | exact (given_isEmpty _).symm), by repeat (first | (with_reducible first | exact HB.out | apply below_alloc | apply pw_below_drewN | apply below_drew1 | refine below_set ?_ GE278.out | refine below_set ?_ GE284.out | refine below_set ?_ GE288.out | refine below_set ?_ GE302.out | refine below_set ?_ GE309.out) | exact HB.out)⟩
       ·rw [if_neg c55] at H
        have c55b0 : (t301 == (ji54)) = false := beq_eq_false_iff_ne.mpr c55
        have c55b1 : (t301 != (ji54)) = true := bne_iff_ne.mpr c55
        obtain rfl := Option.some.inj H
        try go_wp2_with (first | ((with_reducible refine gate_callee (f := 22) rfl ?_); refine goesL_ (some 64) rfl rfl Tryd.func22 (by kernel_rfl) rfl #[.bool false, .string (⟨#[49]⟩ : ByteArray), .int .i64 a2] rfl (by (try simp only [List.map_toArray, List.map_cons, List.map_nil]); first | done | rfl | (simp only [List.length_drop, List.length_take]; rfl) | (have z_ : ∀ s_ : ByteArray, s_.size ≤ 9223372036854775807 → -(s_.size : Int) = wrap64 (-(s_.size : Int)) := (fun s_ h_ => by unfold wrap64; omega); rw [← z_ _ (by omega)]; rfl)) ?_; (with_reducible refine (dec_Made.calls kj11 false (⟨#[49]⟩ : ByteArray) a2 t299 t300 t301 _ A49.out).mono ?_); rintro e w94 ⟨rfl, hb⟩; refine ⟨_, rfl, ?_⟩; have n0_ := bb_ BK278 hb; have n1_ := bb_ BK284 hb; have n2_ := bb_ BK288 hb; have n3_ := Aside0.mk (below_step (bl_ HB).out hb); clear BK278; clear BK284; clear BK288; clear HB; have BK278 := n0_; have BK284 := n1_; have BK288 := n2_; have HB := n3_; clear n0_ n1_ n2_ n3_; (try clear hb); (try clear hb2); (try clear hk); (try clear hi)) | ((with_reducible refine gate_dst (N := 13) rfl ?_); (try (refine gate_guard (by rfl) ?_; dsimp only)); refine box_event ?hg (N := 13) ?hd (cs := #[.bool false, .string (⟨#[]⟩ : ByteArray), .int .i64 0]) (t := 24) ?hr ?_; (case hd => rfl); (case hg => rfl); (case hr => first | (go_simp; done) | (go_simp; rfl)); intro gb302 hg w95 hbox hb; have n0_ := bb_ BK278 hb; have n1_ := bb_ BK284 hb; have n2_ := bb_ BK288 hb; have n3_ := Aside0.mk (below_step (bl_ HB).out hb); have n4_ := Aside0.mk (hbox); have n5_ := Aside0.mk ((by rw [hg]; exact (below_size (bl_ HB).out) : w.heap.size ≤ gb302)); have n6_ := Aside0.mk ((by rw [hg]; exact (below_size (bl_ HB).out) : w.heap.size ≤ gb302)); have n7_ := Aside0.mk ((by rw [hg]; exact Nat.ne_of_lt (blk_lt (g := gb278) (o := .cells #[.bool a0_0, .slice A0_1 l0_1.length c0_1, .int .i64 a0_2] 33 (0, 0)) (by (with_reducible repeat (first | refine blk_drewN ?_ _ | refine blk_drew ?_ | refine blk_alloc ?_ _)); exact BK278.out)) : gb278 ≠ gb302)); have n8_ := Aside0.mk ((by rw [hg]; exact Nat.ne_of_gt (blk_lt (g := gb278) (o := .cells #[.bool a0_0, .slice A0_1 l0_1.length c0_1, .int .i64 a0_2] 33 (0, 0)) (by (with_reducible repeat (first | refine blk_drewN ?_ _ | refine blk_drew ?_ | refine blk_alloc ?_ _)); exact BK278.out)) : gb302 ≠ gb278)); have n9_ := Aside0.mk ((by rw [hg]; exact Nat.ne_of_lt (blk_lt (g := gb284) (o := .cells #[.bool t281, .string t282, .int .i64 t283] 24 (0, 0)) (by (with_reducible repeat (first | refine blk_drewN ?_ _ | refine blk_drew ?_ | refine blk_alloc ?_ _)); exact BK284.out)) : gb284 ≠ gb302)); have n10_ := Aside0.mk ((by rw [hg]; exact Nat.ne_of_gt (blk_lt (g := gb284) (o := .cells #[.bool t281, .string t282, .int .i64 t283] 24 (0, 0)) (by (with_reducible repeat (first | refine blk_drewN ?_ _ | refine blk_drew ?_ | refine blk_alloc ?_ _)); exact BK284.out)) : gb302 ≠ gb284)); have n11_ := Aside0.mk ((by rw [hg]; exact Nat.ne_of_lt (blk_lt (g := gb288) (o := .cells #[.bool t285, .string t286, .int .i64 t287] 24 (0, 0)) (by (with_reducible repeat (first | refine blk_drewN ?_ _ | refine blk_drew ?_ | refine blk_alloc ?_ _)); exact BK288.out)) : gb288 ≠ gb302)); have n12_ := Aside0.mk ((by rw [hg]; exact Nat.ne_of_gt (blk_lt (g := gb288) (o := .cells #[.bool t285, .string t286, .int .i64 t287] 24 (0, 0)) (by (with_reducible repeat (first | refine blk_drewN ?_ _ | refine blk_drew ?_ | refine blk_alloc ?_ _)); exact BK288.out)) : gb302 ≠ gb288)); clear BK278; clear BK284; clear BK288; clear HB; have BK278 := n0_; have BK284 := n1_; have BK288 := n2_; have HB := n3_; have BK302 := n4_; have GW302 := n5_; have GE302 := n6_; have NB278_302 := n7_; have NB302_278 := n8_; have NB284_302 := n9_; have NB302_284 := n10_; have NB288_302 := n11_; have NB302_288 := n12_; clear n0_ n1_ n2_ n3_ n4_ n5_ n6_ n7_ n8_ n9_ n10_ n11_ n12_; clear hb hbox hg; have hnb96 := NB302_278.out; have hnc96 := NB278_302.out; have hnb97 := NB302_284.out; have hnc97 := NB284_302.out; have hnb98 := NB302_288.out; have hnc98 := NB288_302.out; have hcz99_0 : w95.cell? ⟨gb302, 0, none⟩ = some (.bool false) := (blk_cell BK302.out 0).trans rfl; have hcz99_1 : w95.cell? ⟨gb302, 1, none⟩ = some (.string (⟨#[]⟩ : ByteArray)) := (blk_cell BK302.out 1).trans rfl; have hcz99_2 : w95.cell? ⟨gb302, 2, none⟩ = some (.int .i64 0) := (blk_cell BK302.out 2).trans rfl; have hfz99_0 := blk_frozen BK302.out 0; have hfz99_1 := blk_frozen BK302.out 1; have hfz99_2 := blk_frozen BK302.out 2) | ((with_reducible refine gate_callee (f := 22) rfl ?_); refine goesL_ (some 65) rfl rfl Tryd.func22 (by kernel_rfl) rfl #[.bool false, .string (⟨#[49]⟩ : ByteArray), .int .i64 0] rfl (by (try simp only [List.map_toArray, List.map_cons, List.map_nil]); first | done | rfl | (simp only [List.length_drop, List.length_take]; rfl) | (have z_ : ∀ s_ : ByteArray, s_.size ≤ 9223372036854775807 → -(s_.size : Int) = wrap64 (-(s_.size : Int)) := (fun s_ h_ => by unfold wrap64; omega); rw [← z_ _ (by omega)]; rfl)) ?_; (with_reducible refine (dec_Made.calls kj11 false (⟨#[49]⟩ : ByteArray) 0 t303 t304 t305 _ A50.out).mono ?_); rintro e w100 ⟨rfl, hb⟩; refine ⟨_, rfl, ?_⟩; have n0_ := Aside0.mk (blk_below (g := gb278) (o := .cells #[.bool a0_0, .slice A0_1 l0_1.length c0_1, .int .i64 a0_2] 33 (0, 0)) (by (with_reducible repeat (first | refine blk_drewN ?_ _ | refine blk_drew ?_ | refine blk_alloc ?_ _)); refine blk_far ?_ NB278_302.out _; (with_reducible repeat (first | refine blk_drewN ?_ _ | refine blk_drew ?_ | refine blk_alloc ?_ _)); refine blk_far ?_ NB278_302.out _; (with_reducible repeat (first | refine blk_drewN ?_ _ | refine blk_drew ?_ | refine blk_alloc ?_ _)); refine blk_far ?_ NB278_302.out _; (with_reducible repeat (first | refine blk_drewN ?_ _ | refine blk_drew ?_ | refine blk_alloc ?_ _)); exact BK278.out) hb); have n1_ := Aside0.mk (blk_below (g := gb284) (o := .cells #[.bool t281, .string t282, .int .i64 t283] 24 (0, 0)) (by (with_reducible repeat (first | refine blk_drewN ?_ _ | refine blk_drew ?_ | refine blk_alloc ?_ _)); refine blk_far ?_ NB284_302.out _; (with_reducible repeat (first | refine blk_drewN ?_ _ | refine blk_drew ?_ | refine blk_alloc ?_ _)); refine blk_far ?_ NB284_302.out _; (with_reducible repeat (first | refine blk_drewN ?_ _ | refine blk_drew ?_ | refine blk_alloc ?_ _)); refine blk_far ?_ NB284_302.out _; (with_reducible repeat (first | refine blk_drewN ?_ _ | refine blk_drew ?_ | refine blk_alloc ?_ _)); exact BK284.out) hb); have n2_ := Aside0.mk (blk_below (g := gb288) (o := .cells #[.bool t285, .string t286, .int .i64 t287] 24 (0, 0)) (by (with_reducible repeat (first | refine blk_drewN ?_ _ | refine blk_drew ?_ | refine blk_alloc ?_ _)); refine blk_far ?_ NB288_302.out _; (with_reducible repeat (first | refine blk_drewN ?_ _ | refine blk_drew ?_ | refine blk_alloc ?_ _)); refine blk_far ?_ NB288_302.out _; (with_reducible repeat (first | refine blk_drewN ?_ _ | refine blk_drew ?_ | refine blk_alloc ?_ _)); refine blk_far ?_ NB288_302.out _; (with_reducible repeat (first | refine blk_drewN ?_ _ | refine blk_drew ?_ | refine blk_alloc ?_ _)); exact BK288.out) hb); have n3_ := Aside0.mk (blk_below (g := gb302) (o := .cells #[.bool t299, .string t300, .int .i64 t301] 24 (0, 0)) (by (with_reducible repeat (first | refine blk_drewN ?_ _ | refine blk_drew ?_ | refine blk_alloc ?_ _)); refine blk_put (cs := #[.bool t299, .string t300, .int .i64 0]) ?_ 2 _ rfl; (with_reducible repeat (first | refine blk_drewN ?_ _ | refine blk_drew ?_ | refine blk_alloc ?_ _)); refine blk_put (cs := #[.bool t299, .string (⟨#[]⟩ : ByteArray), .int .i64 0]) ?_ 1 _ rfl; (with_reducible repeat (first | refine blk_drewN ?_ _ | refine blk_drew ?_ | refine blk_alloc ?_ _)); refine blk_put (cs := #[.bool false, .string (⟨#[]⟩ : ByteArray), .int .i64 0]) ?_ 0 _ rfl; (with_reducible repeat (first | refine blk_drewN ?_ _ | refine blk_drew ?_ | refine blk_alloc ?_ _)); exact BK302.out) hb); have n4_ := Aside0.mk (below_step (bl_ HB).out hb); clear BK278; clear BK284; clear BK288; clear BK302; clear HB; have BK278 := n0_; have BK284 := n1_; have BK288 := n2_; have BK302 := n3_; have HB := n4_; clear n0_ n1_ n2_ n3_ n4_; (try clear hb); (try clear hb2); (try clear hk); (try clear hi)) | ((with_reducible refine gate_callee (f := 25) rfl ?_); refine goesL_ (some 67) rfl rfl Tryd.func25 (by kernel_rfl) rfl #[.agg #[.bool t303, .string t304, .int .i64 t305], .int .i64 a2] rfl (by (try simp only [List.map_toArray, List.map_cons, List.map_nil]); first | done | rfl | (simp only [List.length_drop, List.length_take]; rfl) | (have z_ : ∀ s_ : ByteArray, s_.size ≤ 9223372036854775807 → -(s_.size : Int) = wrap64 (-(s_.size : Int)) := (fun s_ h_ => by unfold wrap64; omega); rw [← z_ _ (by omega)]; rfl)) ?_; (with_reducible refine (dec_Dec_Scale.calls kj11 t303 t304 t305 a2 t306 t307 t308 _ A51.out).mono ?_); rintro e w101 ⟨rfl, hb⟩; refine ⟨_, rfl, ?_⟩; have n0_ := bb_ BK278 hb; have n1_ := bb_ BK284 hb; have n2_ := bb_ BK288 hb; have n3_ := bb_ BK302 hb; have n4_ := Aside0.mk (below_step (bl_ HB).out hb); clear BK278; clear BK284; clear BK288; clear BK302; clear HB; have BK278 := n0_; have BK284 := n1_; have BK288 := n2_; have BK302 := n3_; have HB := n4_; clear n0_ n1_ n2_ n3_ n4_; (try clear hb); (try clear hb2); (try clear hk); (try clear hi)) | ((with_reducible refine gate_dst (N := 14) rfl ?_); (try (refine gate_guard (by rfl) ?_; dsimp only)); refine box_event ?hg (N := 14) ?hd (cs := #[.bool false, .string (⟨#[]⟩ : ByteArray), .int .i64 0]) (t := 24) ?hr ?_; (case hd => rfl); (case hg => rfl); (case hr => first | (go_simp; done) | (go_simp; rfl)); intro gb309 hg w102 hbox hb; have n0_ := bb_ BK278 hb; have n1_ := bb_ BK284 hb; have n2_ := bb_ BK288 hb; have n3_ := bb_ BK302 hb; have n4_ := Aside0.mk (below_step (bl_ HB).out hb); have n5_ := Aside0.mk (hbox); have n6_ := Aside0.mk ((by rw [hg]; exact (below_size (bl_ HB).out) : w.heap.size ≤ gb309)); have n7_ := Aside0.mk ((by rw [hg]; exact (below_size (bl_ HB).out) : w.heap.size ≤ gb309)); have n8_ := Aside0.mk ((by rw [hg]; exact Nat.ne_of_lt (blk_lt (g := gb278) (o := .cells #[.bool a0_0, .slice A0_1 l0_1.length c0_1, .int .i64 a0_2] 33 (0, 0)) (by (with_reducible repeat (first | refine blk_drewN ?_ _ | refine blk_drew ?_ | refine blk_alloc ?_ _)); exact BK278.out)) : gb278 ≠ gb309)); have n9_ := Aside0.mk ((by rw [hg]; exact Nat.ne_of_gt (blk_lt (g := gb278) (o := .cells #[.bool a0_0, .slice A0_1 l0_1.length c0_1, .int .i64 a0_2] 33 (0, 0)) (by (with_reducible repeat (first | refine blk_drewN ?_ _ | refine blk_drew ?_ | refine blk_alloc ?_ _)); exact BK278.out)) : gb309 ≠ gb278)); have n10_ := Aside0.mk ((by rw [hg]; exact Nat.ne_of_lt (blk_lt (g := gb284) (o := .cells #[.bool t281, .string t282, .int .i64 t283] 24 (0, 0)) (by (with_reducible repeat (first | refine blk_drewN ?_ _ | refine blk_drew ?_ | refine blk_alloc ?_ _)); exact BK284.out)) : gb284 ≠ gb309)); have n11_ := Aside0.mk ((by rw [hg]; exact Nat.ne_of_gt (blk_lt (g := gb284) (o := .cells #[.bool t281, .string t282, .int .i64 t283] 24 (0, 0)) (by (with_reducible repeat (first | refine blk_drewN ?_ _ | refine blk_drew ?_ | refine blk_alloc ?_ _)); exact BK284.out)) : gb309 ≠ gb284)); have n12_ := Aside0.mk ((by rw [hg]; exact Nat.ne_of_lt (blk_lt (g := gb288) (o := .cells #[.bool t285, .string t286, .int .i64 t287] 24 (0, 0)) (by (with_reducible repeat (first | refine blk_drewN ?_ _ | refine blk_drew ?_ | refine blk_alloc ?_ _)); exact BK288.out)) : gb288 ≠ gb309)); have n13_ := Aside0.mk ((by rw [hg]; exact Nat.ne_of_gt (blk_lt (g := gb288) (o := .cells #[.bool t285, .string t286, .int .i64 t287] 24 (0, 0)) (by (with_reducible repeat (first | refine blk_drewN ?_ _ | refine blk_drew ?_ | refine blk_alloc ?_ _)); exact BK288.out)) : gb309 ≠ gb288)); have n14_ := Aside0.mk ((by rw [hg]; exact Nat.ne_of_lt (blk_lt (g := gb302) (o := .cells #[.bool t299, .string t300, .int .i64 t301] 24 (0, 0)) (by (with_reducible repeat (first | refine blk_drewN ?_ _ | refine blk_drew ?_ | refine blk_alloc ?_ _)); exact BK302.out)) : gb302 ≠ gb309)); have n15_ := Aside0.mk ((by rw [hg]; exact Nat.ne_of_gt (blk_lt (g := gb302) (o := .cells #[.bool t299, .string t300, .int .i64 t301] 24 (0, 0)) (by (with_reducible repeat (first | refine blk_drewN ?_ _ | refine blk_drew ?_ | refine blk_alloc ?_ _)); exact BK302.out)) : gb309 ≠ gb302)); clear BK278; clear BK284; clear BK288; clear BK302; clear HB; have BK278 := n0_; have BK284 := n1_; have BK288 := n2_; have BK302 := n3_; have HB := n4_; have BK309 := n5_; have GW309 := n6_; have GE309 := n7_; have NB278_309 := n8_; have NB309_278 := n9_; have NB284_309 := n10_; have NB309_284 := n11_; have NB288_309 := n12_; have NB309_288 := n13_; have NB302_309 := n14_; have NB309_302 := n15_; clear n0_ n1_ n2_ n3_ n4_ n5_ n6_ n7_ n8_ n9_ n10_ n11_ n12_ n13_ n14_ n15_; clear hb hbox hg; have hnb103 := NB309_278.out; have hnc103 := NB278_309.out; have hnb104 := NB309_284.out; have hnc104 := NB284_309.out; have hnb105 := NB309_288.out; have hnc105 := NB288_309.out; have hnb106 := NB309_302.out; have hnc106 := NB302_309.out; have hcz107_0 : w102.cell? ⟨gb309, 0, none⟩ = some (.bool false) := (blk_cell BK309.out 0).trans rfl; have hcz107_1 : w102.cell? ⟨gb309, 1, none⟩ = some (.string (⟨#[]⟩ : ByteArray)) := (blk_cell BK309.out 1).trans rfl; have hcz107_2 : w102.cell? ⟨gb309, 2, none⟩ = some (.int .i64 0) := (blk_cell BK309.out 2).trans rfl; have hfz107_0 := blk_frozen BK309.out 0; have hfz107_1 := blk_frozen BK309.out 1; have hfz107_2 := blk_frozen BK309.out 2))
        have n0_ : Aside0 ((((w102.setCell ⟨gb309, 0, none⟩ (.bool t306)).setCell ⟨gb309, 1, none⟩ (.string t307)).setCell ⟨gb309, 2, none⟩ (.int .i64 t308)).heap[gb278]? = _) := bf_ BK278
        have n1_ : Aside0 ((((w102.setCell ⟨gb309, 0, none⟩ (.bool t306)).setCell ⟨gb309, 1, none⟩ (.string t307)).setCell ⟨gb309, 2, none⟩ (.int .i64 t308)).heap[gb284]? = _) := bf_ BK284
        have n2_ : Aside0 ((((w102.setCell ⟨gb309, 0, none⟩ (.bool t306)).setCell ⟨gb309, 1, none⟩ (.string t307)).setCell ⟨gb309, 2, none⟩ (.int .i64 t308)).heap[gb288]? = _) := bf_ BK288
        have n3_ : Aside0 ((((w102.setCell ⟨gb309, 0, none⟩ (.bool t306)).setCell ⟨gb309, 1, none⟩ (.string t307)).setCell ⟨gb309, 2, none⟩ (.int .i64 t308)).heap[gb302]? = _) := bf_ BK302
        have n4_ : Aside0 ((((w102.setCell ⟨gb309, 0, none⟩ (.bool t306)).setCell ⟨gb309, 1, none⟩ (.string t307)).setCell ⟨gb309, 2, none⟩ (.int .i64 t308)).heap[gb309]? = some (.cells #[.bool t306, .string t307, .int .i64 t308] 24 (0, 0))) := ⟨by (with_reducible repeat (first | refine blk_drewN ?_ _ | refine blk_drew ?_ | refine blk_alloc ?_ _)); refine blk_put (cs := #[.bool t306, .string t307, .int .i64 0]) ?_ 2 _ rfl; (with_reducible repeat (first | refine blk_drewN ?_ _ | refine blk_drew ?_ | refine blk_alloc ?_ _)); refine blk_put (cs := #[.bool t306, .string (⟨#[]⟩ : ByteArray), .int .i64 0]) ?_ 1 _ rfl; (with_reducible repeat (first | refine blk_drewN ?_ _ | refine blk_drew ?_ | refine blk_alloc ?_ _)); refine blk_put (cs := #[.bool false, .string (⟨#[]⟩ : ByteArray), .int .i64 0]) ?_ 0 _ rfl; (with_reducible repeat (first | refine blk_drewN ?_ _ | refine blk_drew ?_ | refine blk_alloc ?_ _)); exact BK309.out⟩
        have n5_ : Aside0 (Below w.heap.size w (((w102.setCell ⟨gb309, 0, none⟩ (.bool t306)).setCell ⟨gb309, 1, none⟩ (.string t307)).setCell ⟨gb309, 2, none⟩ (.int .i64 t308))) := (bl_ HB)
        (try clear BK278)
        (try clear BK284)
        (try clear BK288)
        (try clear BK302)
        (try clear BK309)
        (try clear HB)
        generalize (((w102.setCell ⟨gb309, 0, none⟩ (.bool t306)).setCell ⟨gb309, 1, none⟩ (.string t307)).setCell ⟨gb309, 2, none⟩ (.int .i64 t308)) = w108 at n0_ n1_ n2_ n3_ n4_ n5_ ⊢
        have BK278 := n0_
        have BK284 := n1_
        have BK288 := n2_
        have BK302 := n3_
        have BK309 := n4_
        have HB := n5_
        clear n0_ n1_ n2_ n3_ n4_ n5_
        have n0_ := Aside0.mk (blk_drew BK278.out)
        have n1_ := Aside0.mk (blk_drew BK284.out)
        have n2_ := Aside0.mk (blk_drew BK288.out)
        have n3_ := Aside0.mk (blk_drew BK302.out)
        have n4_ := Aside0.mk (blk_drew BK309.out)
        have n5_ := Aside0.mk (below_drew1 HB.out)
        clear BK278
        clear BK284
        clear BK288
        clear BK302
        clear BK309
        clear HB
        have BK278 := n0_
        have BK284 := n1_
        have BK288 := n2_
        have BK302 := n3_
        have BK309 := n4_
        have HB := n5_
        clear n0_ n1_ n2_ n3_ n4_ n5_
        refine start_ (n := 27) (S := fun w' => w'.cell? ⟨gb302, 0, none⟩ = some (.bool t299) ∧ w'.cell? ⟨gb302, 1, none⟩ = some (.string t300) ∧ w'.cell? ⟨gb302, 2, none⟩ = some (.int .i64 t301) ∧ w'.cell? ⟨gb309, 0, none⟩ = some (.bool t306) ∧ w'.cell? ⟨gb309, 1, none⟩ = some (.string t307) ∧ w'.cell? ⟨gb309, 2, none⟩ = some (.int .i64 t308)) (ds := []) #[false, false, false, false, false, false, false, false, false, false, false, false, false, false, false, false, false, false, false, false, false, false, false, false, false, false, false] (by kernel_rfl) rfl rfl ⟨(blk_cell BK302.out 0).trans rfl, (blk_cell BK302.out 1).trans rfl, (blk_cell BK302.out 2).trans rfl, (blk_cell BK309.out 0).trans rfl, (blk_cell BK309.out 1).trans rfl, (blk_cell BK309.out 2).trans rfl⟩ (fun hHeld => ?_); refine with_tabW florinlaw02_DecScales.tab14 florinlaw02_DecScales.bits14 (fun HT_ HW_ => ?_)
        generalize w108.drew = w109 at BK278 BK284 BK288 BK302 BK309 HB hHeld ⊢
        refine tk_ 0 68 (bm_ 27 1) HT_ HW_ hHeld rfl (by rintro w' ⟨s0, s1, s2, s3, s4, s5⟩; go_simp; with_reducible rfl) ?_
        refine tk_ 1 69 (bm_ 27 3) HT_ HW_ hHeld rfl (by rintro w' ⟨s0, s1, s2, s3, s4, s5⟩; go_simp; with_reducible rfl) ?_
        refine pu_ 2 70 (bm_ 27 7) HT_ ?_
        refine pu_ 3 71 (bm_ 27 15) HT_ ?_
        refine pu_ 4 72 (bm_ 27 31) HT_ ?_
        refine pu_ 6 74 (bm_ 27 95) HT_ ?_
        refine pu_ 7 75 (bm_ 27 223) HT_ ?_
        refine pu_ 8 76 (bm_ 27 479) HT_ ?_
        refine tk_ 5 73 (bm_ 27 511) HT_ HW_ hHeld rfl (by rintro w' ⟨s0, s1, s2, s3, s4, s5⟩; go_simp; with_reducible rfl) ?_
        refine pu_ 9 77 (bm_ 27 1023) HT_ ?_
        refine pu_ 10 78 (bm_ 27 2047) HT_ ?_
        refine pu_ 11 79 (bm_ 27 4095) HT_ ?_
        refine pn_ 12 80 (bm_ 27 8191) HT_ ?_
        refine pn_ 13 81 (bm_ 27 16383) HT_ ?_
        refine pn_ 14 82 (bm_ 27 32767) HT_ ?_
        refine pn_ 15 83 (bm_ 27 65535) HT_ ?_
        refine pu_ 16 84 (bm_ 27 131071) HT_ ?_
        refine pu_ 17 85 (bm_ 27 262143) HT_ ?_
        refine pn_ 18 86 (bm_ 27 524287) HT_ ?_
        refine pn_ 19 87 (bm_ 27 1048575) HT_ ?_
        refine pn_ 20 88 (bm_ 27 2097151) HT_ ?_
        refine pn_ 21 89 (bm_ 27 4194303) HT_ ?_
        refine pn_ 22 90 (bm_ 27 8388607) HT_ ?_
        refine pn_ 23 91 (bm_ 27 16777215) HT_ ?_
        refine pn_ 24 92 (bm_ 27 33554431) HT_ ?_
        refine pu_ 25 93 (bm_ 27 67108863) HT_ ?_
        refine pu_ 26 6 (bm_ 27 134217727) HT_ ?_
        refine done_ (done_of HT_.out (by kernel_rfl)) ?_
        try go_wp2
        go_ret
        exact ⟨by first | rfl | (simp [errW_none, errW_some] <;> rfl) | (simp only [← hji53, ← hji54]; first | rfl | (simp [errW_none, errW_some] <;> rfl)) | (simp [*, errW_none, errW_some] <;> first | rfl | exact given_isEmpty _ | exact (given_isEmpty _).symm), by repeat (first | (with_reducible first | exact HB.out | apply below_alloc | apply pw_below_drewN | apply below_drew1 | refine below_set ?_ GE278.out | refine below_set ?_ GE284.out | refine below_set ?_ GE288.out | refine below_set ?_ GE302.out | refine below_set ?_ GE309.out) | exact HB.out)⟩
      ·rw [if_neg c52] at H
       have c52b0 : (t299 == t306 && (t300.toList == t307.toList && (t301 == t308))) = false := by simpa using c52
       (try (have c52b1 : decide (t299 = t306 && (t300.toList == t307.toList && (t301 == t308))) = false := by simpa using c52))
       (try (have c52b2 : (t299 == t306 && (t300.toList == t307.toList && (t301 == t308))) = false := by simpa using c52))
       (try (have c52b3 : ¬ (t299 = t306 && (t300.toList == t307.toList && (t301 == t308))) := by simpa using c52))
       clear c52
       obtain rfl := Option.some.inj H
       try go_wp2_with (first | ((with_reducible refine gate_callee (f := 22) rfl ?_); refine goesL_ (some 64) rfl rfl Tryd.func22 (by kernel_rfl) rfl #[.bool false, .string (⟨#[49]⟩ : ByteArray), .int .i64 a2] rfl (by (try simp only [List.map_toArray, List.map_cons, List.map_nil]); first | done | rfl | (simp only [List.length_drop, List.length_take]; rfl) | (have z_ : ∀ s_ : ByteArray, s_.size ≤ 9223372036854775807 → -(s_.size : Int) = wrap64 (-(s_.size : Int)) := (fun s_ h_ => by unfold wrap64; omega); rw [← z_ _ (by omega)]; rfl)) ?_; (with_reducible refine (dec_Made.calls kj11 false (⟨#[49]⟩ : ByteArray) a2 t299 t300 t301 _ A49.out).mono ?_); rintro e w110 ⟨rfl, hb⟩; refine ⟨_, rfl, ?_⟩; have n0_ := bb_ BK278 hb; have n1_ := bb_ BK284 hb; have n2_ := bb_ BK288 hb; have n3_ := Aside0.mk (below_step (bl_ HB).out hb); clear BK278; clear BK284; clear BK288; clear HB; have BK278 := n0_; have BK284 := n1_; have BK288 := n2_; have HB := n3_; clear n0_ n1_ n2_ n3_; (try clear hb); (try clear hb2); (try clear hk); (try clear hi)) | ((with_reducible refine gate_dst (N := 13) rfl ?_); (try (refine gate_guard (by rfl) ?_; dsimp only)); refine box_event ?hg (N := 13) ?hd (cs := #[.bool false, .string (⟨#[]⟩ : ByteArray), .int .i64 0]) (t := 24) ?hr ?_; (case hd => rfl); (case hg => rfl); (case hr => first | (go_simp; done) | (go_simp; rfl)); intro gb302 hg w111 hbox hb; have n0_ := bb_ BK278 hb; have n1_ := bb_ BK284 hb; have n2_ := bb_ BK288 hb; have n3_ := Aside0.mk (below_step (bl_ HB).out hb); have n4_ := Aside0.mk (hbox); have n5_ := Aside0.mk ((by rw [hg]; exact (below_size (bl_ HB).out) : w.heap.size ≤ gb302)); have n6_ := Aside0.mk ((by rw [hg]; exact (below_size (bl_ HB).out) : w.heap.size ≤ gb302)); have n7_ := Aside0.mk ((by rw [hg]; exact Nat.ne_of_lt (blk_lt (g := gb278) (o := .cells #[.bool a0_0, .slice A0_1 l0_1.length c0_1, .int .i64 a0_2] 33 (0, 0)) (by (with_reducible repeat (first | refine blk_drewN ?_ _ | refine blk_drew ?_ | refine blk_alloc ?_ _)); exact BK278.out)) : gb278 ≠ gb302)); have n8_ := Aside0.mk ((by rw [hg]; exact Nat.ne_of_gt (blk_lt (g := gb278) (o := .cells #[.bool a0_0, .slice A0_1 l0_1.length c0_1, .int .i64 a0_2] 33 (0, 0)) (by (with_reducible repeat (first | refine blk_drewN ?_ _ | refine blk_drew ?_ | refine blk_alloc ?_ _)); exact BK278.out)) : gb302 ≠ gb278)); have n9_ := Aside0.mk ((by rw [hg]; exact Nat.ne_of_lt (blk_lt (g := gb284) (o := .cells #[.bool t281, .string t282, .int .i64 t283] 24 (0, 0)) (by (with_reducible repeat (first | refine blk_drewN ?_ _ | refine blk_drew ?_ | refine blk_alloc ?_ _)); exact BK284.out)) : gb284 ≠ gb302)); have n10_ := Aside0.mk ((by rw [hg]; exact Nat.ne_of_gt (blk_lt (g := gb284) (o := .cells #[.bool t281, .string t282, .int .i64 t283] 24 (0, 0)) (by (with_reducible repeat (first | refine blk_drewN ?_ _ | refine blk_drew ?_ | refine blk_alloc ?_ _)); exact BK284.out)) : gb302 ≠ gb284)); have n11_ := Aside0.mk ((by rw [hg]; exact Nat.ne_of_lt (blk_lt (g := gb288) (o := .cells #[.bool t285, .string t286, .int .i64 t287] 24 (0, 0)) (by (with_reducible repeat (first | refine blk_drewN ?_ _ | refine blk_drew ?_ | refine blk_alloc ?_ _)); exact BK288.out)) : gb288 ≠ gb302)); have n12_ := Aside0.mk ((by rw [hg]; exact Nat.ne_of_gt (blk_lt (g := gb288) (o := .cells #[.bool t285, .string t286, .int .i64 t287] 24 (0, 0)) (by (with_reducible repeat (first | refine blk_drewN ?_ _ | refine blk_drew ?_ | refine blk_alloc ?_ _)); exact BK288.out)) : gb302 ≠ gb288)); clear BK278; clear BK284; clear BK288; clear HB; have BK278 := n0_; have BK284 := n1_; have BK288 := n2_; have HB := n3_; have BK302 := n4_; have GW302 := n5_; have GE302 := n6_; have NB278_302 := n7_; have NB302_278 := n8_; have NB284_302 := n9_; have NB302_284 := n10_; have NB288_302 := n11_; have NB302_288 := n12_; clear n0_ n1_ n2_ n3_ n4_ n5_ n6_ n7_ n8_ n9_ n10_ n11_ n12_; clear hb hbox hg; have hnb112 := NB302_278.out; have hnc112 := NB278_302.out; have hnb113 := NB302_284.out; have hnc113 := NB284_302.out; have hnb114 := NB302_288.out; have hnc114 := NB288_302.out; have hcz115_0 : w111.cell? ⟨gb302, 0, none⟩ = some (.bool false) := (blk_cell BK302.out 0).trans rfl; have hcz115_1 : w111.cell? ⟨gb302, 1, none⟩ = some (.string (⟨#[]⟩ : ByteArray)) := (blk_cell BK302.out 1).trans rfl; have hcz115_2 : w111.cell? ⟨gb302, 2, none⟩ = some (.int .i64 0) := (blk_cell BK302.out 2).trans rfl; have hfz115_0 := blk_frozen BK302.out 0; have hfz115_1 := blk_frozen BK302.out 1; have hfz115_2 := blk_frozen BK302.out 2) | ((with_reducible refine gate_callee (f := 22) rfl ?_); refine goesL_ (some 65) rfl rfl Tryd.func22 (by kernel_rfl) rfl #[.bool false, .string (⟨#[49]⟩ : ByteArray), .int .i64 0] rfl (by (try simp only [List.map_toArray, List.map_cons, List.map_nil]); first | done | rfl | (simp only [List.length_drop, List.length_take]; rfl) | (have z_ : ∀ s_ : ByteArray, s_.size ≤ 9223372036854775807 → -(s_.size : Int) = wrap64 (-(s_.size : Int)) := (fun s_ h_ => by unfold wrap64; omega); rw [← z_ _ (by omega)]; rfl)) ?_; (with_reducible refine (dec_Made.calls kj11 false (⟨#[49]⟩ : ByteArray) 0 t303 t304 t305 _ A50.out).mono ?_); rintro e w116 ⟨rfl, hb⟩; refine ⟨_, rfl, ?_⟩; have n0_ := Aside0.mk (blk_below (g := gb278) (o := .cells #[.bool a0_0, .slice A0_1 l0_1.length c0_1, .int .i64 a0_2] 33 (0, 0)) (by (with_reducible repeat (first | refine blk_drewN ?_ _ | refine blk_drew ?_ | refine blk_alloc ?_ _)); refine blk_far ?_ NB278_302.out _; (with_reducible repeat (first | refine blk_drewN ?_ _ | refine blk_drew ?_ | refine blk_alloc ?_ _)); refine blk_far ?_ NB278_302.out _; (with_reducible repeat (first | refine blk_drewN ?_ _ | refine blk_drew ?_ | refine blk_alloc ?_ _)); refine blk_far ?_ NB278_302.out _; (with_reducible repeat (first | refine blk_drewN ?_ _ | refine blk_drew ?_ | refine blk_alloc ?_ _)); exact BK278.out) hb); have n1_ := Aside0.mk (blk_below (g := gb284) (o := .cells #[.bool t281, .string t282, .int .i64 t283] 24 (0, 0)) (by (with_reducible repeat (first | refine blk_drewN ?_ _ | refine blk_drew ?_ | refine blk_alloc ?_ _)); refine blk_far ?_ NB284_302.out _; (with_reducible repeat (first | refine blk_drewN ?_ _ | refine blk_drew ?_ | refine blk_alloc ?_ _)); refine blk_far ?_ NB284_302.out _; (with_reducible repeat (first | refine blk_drewN ?_ _ | refine blk_drew ?_ | refine blk_alloc ?_ _)); refine blk_far ?_ NB284_302.out _; (with_reducible repeat (first | refine blk_drewN ?_ _ | refine blk_drew ?_ | refine blk_alloc ?_ _)); exact BK284.out) hb); have n2_ := Aside0.mk (blk_below (g := gb288) (o := .cells #[.bool t285, .string t286, .int .i64 t287] 24 (0, 0)) (by (with_reducible repeat (first | refine blk_drewN ?_ _ | refine blk_drew ?_ | refine blk_alloc ?_ _)); refine blk_far ?_ NB288_302.out _; (with_reducible repeat (first | refine blk_drewN ?_ _ | refine blk_drew ?_ | refine blk_alloc ?_ _)); refine blk_far ?_ NB288_302.out _; (with_reducible repeat (first | refine blk_drewN ?_ _ | refine blk_drew ?_ | refine blk_alloc ?_ _)); refine blk_far ?_ NB288_302.out _; (with_reducible repeat (first | refine blk_drewN ?_ _ | refine blk_drew ?_ | refine blk_alloc ?_ _)); exact BK288.out) hb); have n3_ := Aside0.mk (blk_below (g := gb302) (o := .cells #[.bool t299, .string t300, .int .i64 t301] 24 (0, 0)) (by (with_reducible repeat (first | refine blk_drewN ?_ _ | refine blk_drew ?_ | refine blk_alloc ?_ _)); refine blk_put (cs := #[.bool t299, .string t300, .int .i64 0]) ?_ 2 _ rfl; (with_reducible repeat (first | refine blk_drewN ?_ _ | refine blk_drew ?_ | refine blk_alloc ?_ _)); refine blk_put (cs := #[.bool t299, .string (⟨#[]⟩ : ByteArray), .int .i64 0]) ?_ 1 _ rfl; (with_reducible repeat (first | refine blk_drewN ?_ _ | refine blk_drew ?_ | refine blk_alloc ?_ _)); refine blk_put (cs := #[.bool false, .string (⟨#[]⟩ : ByteArray), .int .i64 0]) ?_ 0 _ rfl; (with_reducible repeat (first | refine blk_drewN ?_ _ | refine blk_drew ?_ | refine blk_alloc ?_ _)); exact BK302.out) hb); have n4_ := Aside0.mk (below_step (bl_ HB).out hb); clear BK278; clear BK284; clear BK288; clear BK302; clear HB; have BK278 := n0_; have BK284 := n1_; have BK288 := n2_; have BK302 := n3_; have HB := n4_; clear n0_ n1_ n2_ n3_ n4_; (try clear hb); (try clear hb2); (try clear hk); (try clear hi)) | ((with_reducible refine gate_callee (f := 25) rfl ?_); refine goesL_ (some 67) rfl rfl Tryd.func25 (by kernel_rfl) rfl #[.agg #[.bool t303, .string t304, .int .i64 t305], .int .i64 a2] rfl (by (try simp only [List.map_toArray, List.map_cons, List.map_nil]); first | done | rfl | (simp only [List.length_drop, List.length_take]; rfl) | (have z_ : ∀ s_ : ByteArray, s_.size ≤ 9223372036854775807 → -(s_.size : Int) = wrap64 (-(s_.size : Int)) := (fun s_ h_ => by unfold wrap64; omega); rw [← z_ _ (by omega)]; rfl)) ?_; (with_reducible refine (dec_Dec_Scale.calls kj11 t303 t304 t305 a2 t306 t307 t308 _ A51.out).mono ?_); rintro e w117 ⟨rfl, hb⟩; refine ⟨_, rfl, ?_⟩; have n0_ := bb_ BK278 hb; have n1_ := bb_ BK284 hb; have n2_ := bb_ BK288 hb; have n3_ := bb_ BK302 hb; have n4_ := Aside0.mk (below_step (bl_ HB).out hb); clear BK278; clear BK284; clear BK288; clear BK302; clear HB; have BK278 := n0_; have BK284 := n1_; have BK288 := n2_; have BK302 := n3_; have HB := n4_; clear n0_ n1_ n2_ n3_ n4_; (try clear hb); (try clear hb2); (try clear hk); (try clear hi)) | ((with_reducible refine gate_dst (N := 14) rfl ?_); (try (refine gate_guard (by rfl) ?_; dsimp only)); refine box_event ?hg (N := 14) ?hd (cs := #[.bool false, .string (⟨#[]⟩ : ByteArray), .int .i64 0]) (t := 24) ?hr ?_; (case hd => rfl); (case hg => rfl); (case hr => first | (go_simp; done) | (go_simp; rfl)); intro gb309 hg w118 hbox hb; have n0_ := bb_ BK278 hb; have n1_ := bb_ BK284 hb; have n2_ := bb_ BK288 hb; have n3_ := bb_ BK302 hb; have n4_ := Aside0.mk (below_step (bl_ HB).out hb); have n5_ := Aside0.mk (hbox); have n6_ := Aside0.mk ((by rw [hg]; exact (below_size (bl_ HB).out) : w.heap.size ≤ gb309)); have n7_ := Aside0.mk ((by rw [hg]; exact (below_size (bl_ HB).out) : w.heap.size ≤ gb309)); have n8_ := Aside0.mk ((by rw [hg]; exact Nat.ne_of_lt (blk_lt (g := gb278) (o := .cells #[.bool a0_0, .slice A0_1 l0_1.length c0_1, .int .i64 a0_2] 33 (0, 0)) (by (with_reducible repeat (first | refine blk_drewN ?_ _ | refine blk_drew ?_ | refine blk_alloc ?_ _)); exact BK278.out)) : gb278 ≠ gb309)); have n9_ := Aside0.mk ((by rw [hg]; exact Nat.ne_of_gt (blk_lt (g := gb278) (o := .cells #[.bool a0_0, .slice A0_1 l0_1.length c0_1, .int .i64 a0_2] 33 (0, 0)) (by (with_reducible repeat (first | refine blk_drewN ?_ _ | refine blk_drew ?_ | refine blk_alloc ?_ _)); exact BK278.out)) : gb309 ≠ gb278)); have n10_ := Aside0.mk ((by rw [hg]; exact Nat.ne_of_lt (blk_lt (g := gb284) (o := .cells #[.bool t281, .string t282, .int .i64 t283] 24 (0, 0)) (by (with_reducible repeat (first | refine blk_drewN ?_ _ | refine blk_drew ?_ | refine blk_alloc ?_ _)); exact BK284.out)) : gb284 ≠ gb309)); have n11_ := Aside0.mk ((by rw [hg]; exact Nat.ne_of_gt (blk_lt (g := gb284) (o := .cells #[.bool t281, .string t282, .int .i64 t283] 24 (0, 0)) (by (with_reducible repeat (first | refine blk_drewN ?_ _ | refine blk_drew ?_ | refine blk_alloc ?_ _)); exact BK284.out)) : gb309 ≠ gb284)); have n12_ := Aside0.mk ((by rw [hg]; exact Nat.ne_of_lt (blk_lt (g := gb288) (o := .cells #[.bool t285, .string t286, .int .i64 t287] 24 (0, 0)) (by (with_reducible repeat (first | refine blk_drewN ?_ _ | refine blk_drew ?_ | refine blk_alloc ?_ _)); exact BK288.out)) : gb288 ≠ gb309)); have n13_ := Aside0.mk ((by rw [hg]; exact Nat.ne_of_gt (blk_lt (g := gb288) (o := .cells #[.bool t285, .string t286, .int .i64 t287] 24 (0, 0)) (by (with_reducible repeat (first | refine blk_drewN ?_ _ | refine blk_drew ?_ | refine blk_alloc ?_ _)); exact BK288.out)) : gb309 ≠ gb288)); have n14_ := Aside0.mk ((by rw [hg]; exact Nat.ne_of_lt (blk_lt (g := gb302) (o := .cells #[.bool t299, .string t300, .int .i64 t301] 24 (0, 0)) (by (with_reducible repeat (first | refine blk_drewN ?_ _ | refine blk_drew ?_ | refine blk_alloc ?_ _)); exact BK302.out)) : gb302 ≠ gb309)); have n15_ := Aside0.mk ((by rw [hg]; exact Nat.ne_of_gt (blk_lt (g := gb302) (o := .cells #[.bool t299, .string t300, .int .i64 t301] 24 (0, 0)) (by (with_reducible repeat (first | refine blk_drewN ?_ _ | refine blk_drew ?_ | refine blk_alloc ?_ _)); exact BK302.out)) : gb309 ≠ gb302)); clear BK278; clear BK284; clear BK288; clear BK302; clear HB; have BK278 := n0_; have BK284 := n1_; have BK288 := n2_; have BK302 := n3_; have HB := n4_; have BK309 := n5_; have GW309 := n6_; have GE309 := n7_; have NB278_309 := n8_; have NB309_278 := n9_; have NB284_309 := n10_; have NB309_284 := n11_; have NB288_309 := n12_; have NB309_288 := n13_; have NB302_309 := n14_; have NB309_302 := n15_; clear n0_ n1_ n2_ n3_ n4_ n5_ n6_ n7_ n8_ n9_ n10_ n11_ n12_ n13_ n14_ n15_; clear hb hbox hg; have hnb119 := NB309_278.out; have hnc119 := NB278_309.out; have hnb120 := NB309_284.out; have hnc120 := NB284_309.out; have hnb121 := NB309_288.out; have hnc121 := NB288_309.out; have hnb122 := NB309_302.out; have hnc122 := NB302_309.out; have hcz123_0 : w118.cell? ⟨gb309, 0, none⟩ = some (.bool false) := (blk_cell BK309.out 0).trans rfl; have hcz123_1 : w118.cell? ⟨gb309, 1, none⟩ = some (.string (⟨#[]⟩ : ByteArray)) := (blk_cell BK309.out 1).trans rfl; have hcz123_2 : w118.cell? ⟨gb309, 2, none⟩ = some (.int .i64 0) := (blk_cell BK309.out 2).trans rfl; have hfz123_0 := blk_frozen BK309.out 0; have hfz123_1 := blk_frozen BK309.out 1; have hfz123_2 := blk_frozen BK309.out 2))
       have n0_ : Aside0 ((((w118.setCell ⟨gb309, 0, none⟩ (.bool t306)).setCell ⟨gb309, 1, none⟩ (.string t307)).setCell ⟨gb309, 2, none⟩ (.int .i64 t308)).heap[gb278]? = _) := bf_ BK278
       have n1_ : Aside0 ((((w118.setCell ⟨gb309, 0, none⟩ (.bool t306)).setCell ⟨gb309, 1, none⟩ (.string t307)).setCell ⟨gb309, 2, none⟩ (.int .i64 t308)).heap[gb284]? = _) := bf_ BK284
       have n2_ : Aside0 ((((w118.setCell ⟨gb309, 0, none⟩ (.bool t306)).setCell ⟨gb309, 1, none⟩ (.string t307)).setCell ⟨gb309, 2, none⟩ (.int .i64 t308)).heap[gb288]? = _) := bf_ BK288
       have n3_ : Aside0 ((((w118.setCell ⟨gb309, 0, none⟩ (.bool t306)).setCell ⟨gb309, 1, none⟩ (.string t307)).setCell ⟨gb309, 2, none⟩ (.int .i64 t308)).heap[gb302]? = _) := bf_ BK302
       have n4_ : Aside0 ((((w118.setCell ⟨gb309, 0, none⟩ (.bool t306)).setCell ⟨gb309, 1, none⟩ (.string t307)).setCell ⟨gb309, 2, none⟩ (.int .i64 t308)).heap[gb309]? = some (.cells #[.bool t306, .string t307, .int .i64 t308] 24 (0, 0))) := ⟨by (with_reducible repeat (first | refine blk_drewN ?_ _ | refine blk_drew ?_ | refine blk_alloc ?_ _)); refine blk_put (cs := #[.bool t306, .string t307, .int .i64 0]) ?_ 2 _ rfl; (with_reducible repeat (first | refine blk_drewN ?_ _ | refine blk_drew ?_ | refine blk_alloc ?_ _)); refine blk_put (cs := #[.bool t306, .string (⟨#[]⟩ : ByteArray), .int .i64 0]) ?_ 1 _ rfl; (with_reducible repeat (first | refine blk_drewN ?_ _ | refine blk_drew ?_ | refine blk_alloc ?_ _)); refine blk_put (cs := #[.bool false, .string (⟨#[]⟩ : ByteArray), .int .i64 0]) ?_ 0 _ rfl; (with_reducible repeat (first | refine blk_drewN ?_ _ | refine blk_drew ?_ | refine blk_alloc ?_ _)); exact BK309.out⟩
       have n5_ : Aside0 (Below w.heap.size w (((w118.setCell ⟨gb309, 0, none⟩ (.bool t306)).setCell ⟨gb309, 1, none⟩ (.string t307)).setCell ⟨gb309, 2, none⟩ (.int .i64 t308))) := (bl_ HB)
       (try clear BK278)
       (try clear BK284)
       (try clear BK288)
       (try clear BK302)
       (try clear BK309)
       (try clear HB)
       generalize (((w118.setCell ⟨gb309, 0, none⟩ (.bool t306)).setCell ⟨gb309, 1, none⟩ (.string t307)).setCell ⟨gb309, 2, none⟩ (.int .i64 t308)) = w124 at n0_ n1_ n2_ n3_ n4_ n5_ ⊢
       have BK278 := n0_
       have BK284 := n1_
       have BK288 := n2_
       have BK302 := n3_
       have BK309 := n4_
       have HB := n5_
       clear n0_ n1_ n2_ n3_ n4_ n5_
       have n0_ := Aside0.mk (blk_drew BK278.out)
       have n1_ := Aside0.mk (blk_drew BK284.out)
       have n2_ := Aside0.mk (blk_drew BK288.out)
       have n3_ := Aside0.mk (blk_drew BK302.out)
       have n4_ := Aside0.mk (blk_drew BK309.out)
       have n5_ := Aside0.mk (below_drew1 HB.out)
       clear BK278
       clear BK284
       clear BK288
       clear BK302
       clear BK309
       clear HB
       have BK278 := n0_
       have BK284 := n1_
       have BK288 := n2_
       have BK302 := n3_
       have BK309 := n4_
       have HB := n5_
       clear n0_ n1_ n2_ n3_ n4_ n5_
       refine start_ (n := 27) (S := fun w' => w'.cell? ⟨gb302, 0, none⟩ = some (.bool t299) ∧ w'.cell? ⟨gb302, 1, none⟩ = some (.string t300) ∧ w'.cell? ⟨gb302, 2, none⟩ = some (.int .i64 t301) ∧ w'.cell? ⟨gb309, 0, none⟩ = some (.bool t306) ∧ w'.cell? ⟨gb309, 1, none⟩ = some (.string t307) ∧ w'.cell? ⟨gb309, 2, none⟩ = some (.int .i64 t308)) (ds := []) #[false, false, false, false, false, false, false, false, false, false, false, false, false, false, false, false, false, false, false, false, false, false, false, false, false, false, false] (by kernel_rfl) rfl rfl ⟨(blk_cell BK302.out 0).trans rfl, (blk_cell BK302.out 1).trans rfl, (blk_cell BK302.out 2).trans rfl, (blk_cell BK309.out 0).trans rfl, (blk_cell BK309.out 1).trans rfl, (blk_cell BK309.out 2).trans rfl⟩ (fun hHeld => ?_); refine with_tabW florinlaw02_DecScales.tab14 florinlaw02_DecScales.bits14 (fun HT_ HW_ => ?_)
       generalize w124.drew = w125 at BK278 BK284 BK288 BK302 BK309 HB hHeld ⊢
       refine tk_ 0 68 (bm_ 27 1) HT_ HW_ hHeld rfl (by rintro w' ⟨s0, s1, s2, s3, s4, s5⟩; go_simp; with_reducible rfl) ?_
       refine tk_ 1 69 (bm_ 27 3) HT_ HW_ hHeld rfl (by rintro w' ⟨s0, s1, s2, s3, s4, s5⟩; go_simp; with_reducible rfl) ?_
       refine pu_ 2 70 (bm_ 27 7) HT_ ?_
       refine pu_ 3 71 (bm_ 27 15) HT_ ?_
       refine pn_ 4 72 (bm_ 27 31) HT_ ?_
       refine pn_ 5 73 (bm_ 27 63) HT_ ?_
       refine pn_ 6 74 (bm_ 27 127) HT_ ?_
       refine pn_ 7 75 (bm_ 27 255) HT_ ?_
       refine pn_ 8 76 (bm_ 27 511) HT_ ?_
       refine pn_ 9 77 (bm_ 27 1023) HT_ ?_
       refine pu_ 10 78 (bm_ 27 2047) HT_ ?_
       refine pu_ 11 79 (bm_ 27 4095) HT_ ?_
       refine pn_ 12 80 (bm_ 27 8191) HT_ ?_
       refine pn_ 13 81 (bm_ 27 16383) HT_ ?_
       refine pn_ 14 82 (bm_ 27 32767) HT_ ?_
       refine pn_ 15 83 (bm_ 27 65535) HT_ ?_
       refine pu_ 16 84 (bm_ 27 131071) HT_ ?_
       refine pu_ 17 85 (bm_ 27 262143) HT_ ?_
       refine pn_ 18 86 (bm_ 27 524287) HT_ ?_
       refine pn_ 19 87 (bm_ 27 1048575) HT_ ?_
       refine pn_ 20 88 (bm_ 27 2097151) HT_ ?_
       refine pn_ 21 89 (bm_ 27 4194303) HT_ ?_
       refine pn_ 22 90 (bm_ 27 8388607) HT_ ?_
       refine pn_ 23 91 (bm_ 27 16777215) HT_ ?_
       refine pn_ 24 92 (bm_ 27 33554431) HT_ ?_
       refine pu_ 25 93 (bm_ 27 67108863) HT_ ?_
       refine pu_ 26 6 (bm_ 27 134217727) HT_ ?_
       refine done_ (done_of HT_.out (by kernel_rfl)) ?_
       try go_wp2
       go_ret
       exact ⟨by first | rfl | (simp [errW_none, errW_some] <;> rfl) | (simp [*, errW_none, errW_some] <;> first | rfl | exact given_isEmpty _ | exact (given_isEmpty _).symm), by repeat (first | (with_reducible first | exact HB.out | apply below_alloc | apply pw_below_drewN | apply below_drew1 | refine below_set ?_ GE278.out | refine below_set ?_ GE284.out | refine below_set ?_ GE288.out | refine below_set ?_ GE302.out | refine below_set ?_ GE309.out) | exact HB.out)⟩
  ·replace c7 := Bool.eq_false_iff.mpr c7
   subst c7
   have H1 : (some true) = some r := by rw [if_neg (show ¬ (false = true) by decide)] at H; exact H
   clear H
   have H := H1
   clear H1
   obtain rfl := Option.some.inj H
   go_enter Tryd.func5, Tryd.ntmps5
   go_wp2_with (first | ((with_reducible refine gate_dst (N := 3) rfl ?_); (try (refine gate_guard (by rfl) ?_; dsimp only)); refine box_event ?hg (N := 3) ?hd (cs := #[.bool a0_0, .slice A0_1 l0_1.length c0_1, .int .i64 a0_2]) (t := 33) ?hr ?_; (case hd => rfl); (case hg => rfl); (case hr => first | (go_simp; done) | (go_simp; rfl)); intro gb278 hg w126 hbox hb; have n0_ := Aside0.mk (below_step (bl_ HB).out hb); have n1_ := Aside0.mk (hbox); have n2_ := Aside0.mk ((by rw [hg]; exact (below_size (bl_ HB).out) : w.heap.size ≤ gb278)); have n3_ := Aside0.mk ((by rw [hg]; exact (below_size (bl_ HB).out) : w.heap.size ≤ gb278)); clear HB; have HB := n0_; have BK278 := n1_; have GW278 := n2_; have GE278 := n3_; clear n0_ n1_ n2_ n3_; clear hb hbox hg) | ((with_reducible refine gate_callee (f := 11) rfl ?_); refine goesL_ (some 15) rfl rfl Tryd.func11 (by kernel_rfl) rfl #[] rfl (by (try simp only [List.map_toArray, List.map_cons, List.map_nil]); first | done | rfl | (simp only [List.length_drop, List.length_take]; rfl) | (have z_ : ∀ s_ : ByteArray, s_.size ≤ 9223372036854775807 → -(s_.size : Int) = wrap64 (-(s_.size : Int)) := (fun s_ h_ => by unfold wrap64; omega); rw [← z_ _ (by omega)]; rfl)) ?_; (with_reducible refine (florinlaw02_head.calls k  true _ A4.out).mono ?_); rintro e w127 ⟨rfl, hb⟩; refine ⟨_, rfl, ?_⟩; have n0_ := bb_ BK278 hb; have n1_ := Aside0.mk (below_step (bl_ HB).out hb); clear BK278; clear HB; have BK278 := n0_; have HB := n1_; clear n0_ n1_; (try clear hb); (try clear hb2); (try clear hk); (try clear hi); have hcz128_0 : w127.cell? ⟨gb278, 0, none⟩ = some (.bool a0_0) := (blk_cell BK278.out 0).trans rfl; have hcz128_1 : w127.cell? ⟨gb278, 1, none⟩ = some (.slice A0_1 l0_1.length c0_1) := (blk_cell BK278.out 1).trans rfl; have hcz128_2 : w127.cell? ⟨gb278, 2, none⟩ = some (.int .i64 a0_2) := (blk_cell BK278.out 2).trans rfl; have hfz128_0 := blk_frozen BK278.out 0; have hfz128_1 := blk_frozen BK278.out 1; have hfz128_2 := blk_frozen BK278.out 2) | ((with_reducible refine gate_callee (f := 17) rfl ?_); refine goesL_ (some 18) rfl rfl Tryd.func17 (by kernel_rfl) rfl #[.agg #[.bool a0_0, .slice A0_1 l0_1.length c0_1, .int .i64 a0_2], .int .i64 60] rfl (by (try simp only [List.map_toArray, List.map_cons, List.map_nil]); first | done | rfl | (simp only [List.length_drop, List.length_take]; rfl) | (have z_ : ∀ s_ : ByteArray, s_.size ≤ 9223372036854775807 → -(s_.size : Int) = wrap64 (-(s_.size : Int)) := (fun s_ h_ => by unfold wrap64; omega); rw [← z_ _ (by omega)]; rfl)) ?_; (with_reducible refine (florinlaw02_Raw_Few.calls a0_0 _ _ l0_1 a0_2 60 false _ ?side1 ?side2 A6.out).mono ?_); (case side1 => repeat (first | exact (Kd.C_below HR0_1.out HB.out) | (with_reducible refine Kd.C_alloc ?_ _) | (with_reducible refine Kd.C_drewN ?_ _) | (with_reducible refine Kd.C_drew ?_))); (case side2 => exact HC0_1.out); rintro e w129 ⟨rfl, hb⟩; refine ⟨_, rfl, ?_⟩; have n0_ := bb_ BK278 hb; have n1_ := Aside0.mk (below_step (bl_ HB).out hb); clear BK278; clear HB; have BK278 := n0_; have HB := n1_; clear n0_ n1_; (try clear hb); (try clear hb2); (try clear hk); (try clear hi)))
   go_ret
   exact ⟨by first | rfl | (simp [errW_none, errW_some] <;> rfl) | (simp [*, errW_none, errW_some] <;> first | rfl | exact given_isEmpty _ | exact (given_isEmpty _).symm), by repeat (first | (with_reducible first | exact HB.out | apply below_alloc | apply pw_below_drewN | apply below_drew1 | refine below_set ?_ GE278.out) | exact HB.out)⟩
 ·replace c5 := Bool.eq_false_iff.mpr c5
  subst c5
  have H1 : (some false) = some r := by rw [if_neg (show ¬ (false = true) by decide)] at H; exact H
  clear H
  have H := H1
  clear H1
  obtain rfl := Option.some.inj H
  go_enter Tryd.func5, Tryd.ntmps5
  go_wp2_with (first | ((with_reducible refine gate_dst (N := 3) rfl ?_); (try (refine gate_guard (by rfl) ?_; dsimp only)); refine box_event ?hg (N := 3) ?hd (cs := #[.bool a0_0, .slice A0_1 l0_1.length c0_1, .int .i64 a0_2]) (t := 33) ?hr ?_; (case hd => rfl); (case hg => rfl); (case hr => first | (go_simp; done) | (go_simp; rfl)); intro gb278 hg w130 hbox hb; have n0_ := Aside0.mk (below_step (bl_ HB).out hb); have n1_ := Aside0.mk (hbox); have n2_ := Aside0.mk ((by rw [hg]; exact (below_size (bl_ HB).out) : w.heap.size ≤ gb278)); have n3_ := Aside0.mk ((by rw [hg]; exact (below_size (bl_ HB).out) : w.heap.size ≤ gb278)); clear HB; have HB := n0_; have BK278 := n1_; have GW278 := n2_; have GE278 := n3_; clear n0_ n1_ n2_ n3_; clear hb hbox hg) | ((with_reducible refine gate_callee (f := 11) rfl ?_); refine goesL_ (some 15) rfl rfl Tryd.func11 (by kernel_rfl) rfl #[] rfl (by (try simp only [List.map_toArray, List.map_cons, List.map_nil]); first | done | rfl | (simp only [List.length_drop, List.length_take]; rfl) | (have z_ : ∀ s_ : ByteArray, s_.size ≤ 9223372036854775807 → -(s_.size : Int) = wrap64 (-(s_.size : Int)) := (fun s_ h_ => by unfold wrap64; omega); rw [← z_ _ (by omega)]; rfl)) ?_; (with_reducible refine (florinlaw02_head.calls k  false _ A4.out).mono ?_); rintro e w131 ⟨rfl, hb⟩; refine ⟨_, rfl, ?_⟩; have n0_ := bb_ BK278 hb; have n1_ := Aside0.mk (below_step (bl_ HB).out hb); clear BK278; clear HB; have BK278 := n0_; have HB := n1_; clear n0_ n1_; (try clear hb); (try clear hb2); (try clear hk); (try clear hi)))
  go_ret
  exact ⟨by first | rfl | (simp [errW_none, errW_some] <;> rfl) | (simp [*, errW_none, errW_some] <;> first | rfl | exact given_isEmpty _ | exact (given_isEmpty _).symm), by repeat (first | (with_reducible first | exact HB.out | apply below_alloc | apply pw_below_drewN | apply below_drew1 | refine below_set ?_ GE278.out) | exact HB.out)⟩

end Go.Proofs.YtlkiaeipbekpkaaDoor.P
