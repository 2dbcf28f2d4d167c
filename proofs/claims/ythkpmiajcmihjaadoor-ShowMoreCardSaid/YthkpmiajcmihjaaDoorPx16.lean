-- written by a program of this session (wip/p2)
import Derived.Test.YthkpmiajcmihjaaDoorPx0
import Derived.Test.YthkpmiajcmihjaaDoorPx7
import Derived.Test.YthkpmiajcmihjaaDoorPx8
import Derived.Test.YthkpmiajcmihjaaDoorPx10
import Derived.Test.YthkpmiajcmihjaaDoorPx12
import Derived.Test.YthkpmiajcmihjaaDoorPx14
namespace Go.Proofs.YthkpmiajcmihjaaDoor.P
open Go.RowKit Go.Proofs.YthkpmiajcmihjaaDoorW.PrintWords Go.Proofs.YthkpmiajcmihjaaDoorW.PrintLast Go.Proofs.YthkpmiajcmihjaaDoorW.PrintMore
attribute [local go_sem] max2_int min2_int max_two min_two max_three min_three max_four min_four   -- for this text's walks alone
set_option linter.unusedVariables false
set_option linter.unusedSimpArgs false

/-! ### florinlaw04_ShowMore: function 5 -/
mutual
def florinlaw04_ShowMore.j0 : Nat → Bool → Bool → List Int → Int → Int → Int → Int → Bool → ByteArray → Int → Int → Int → Option (Bool)
 | 0, _, _, _, _, _, _, _, _, _, _, _, _ => none
 | k + 1, x31, x358000, x358001, x358002, x370000, x370001, x370002, x370003, x370004, x370005, x370006, x370007 => if x31 = true then (some true) else ((florinlaw02_Raw_Make.f k x358000 x358001 x358002).bind fun bt371 => ((show_Prec_Apply.f k x370000 x370001 x370002 x370003 x370004 x370005 x370006 x370007 bt371.1 bt371.2.1 bt371.2.2).bind fun bt374 => ((florinlaw02_Raw_Make.f k x358000 x358001 x358002).bind fun bt379 => ((show_Prec_Apply.f k x370000 (wrap64 (x370001 + 1)) x370002 x370003 x370004 x370005 x370006 x370007 bt379.1 bt379.2.1 bt379.2.2).bind fun bt382 => (if bt374.2.2.2 = 0 then (if bt382.2.2.2 = 0 then (if (bt382.1 == bt374.1) = true then (if bt382.2.1.toList = bt374.2.1.toList then (if bt382.2.2.1.toList = bt374.2.2.1.toList then (florinlaw04_ShowMore.j1 k true) else (if bt374.2.2.1.size + 1 ≤ 9223372036854775807 then (florinlaw04_ShowMore.j1 k (bt382.2.2.1.toList == (bt374.2.2.1 ++ (⟨#[48]⟩ : ByteArray)).toList)) else (none))) else (florinlaw04_ShowMore.j1 k false)) else (florinlaw04_ShowMore.j1 k false)) else (florinlaw04_ShowMore.j1 k false)) else (florinlaw04_ShowMore.j1 k false))))))
def florinlaw04_ShowMore.j1 : Nat → Bool → Option (Bool)
 | 0, _ => none
 | k + 1, x4 => some x4
end
def florinlaw04_ShowMore.f (k : Nat) (a0_0 : Bool) (l0_1 : List Int) (a0_2 : Int) (a1_0 : Int) (a1_1 : Int) (a1_2 : Int) (a1_3 : Int) (a1_4 : Int) (a1_5 : Int) (a1_6 : Int) : Option (Bool) := (florinlaw04_head.f k).bind fun t359 => (if t359 = true then ((florinlaw02_Raw_Few.f a0_0 l0_1 a0_2 30).bind fun t360 => (if t360 = true then ((florinlaw04_Ask_Prec.f k a1_0 a1_1 a1_2 a1_3 a1_4 a1_5 a1_6).bind fun bt361 => (if bt361.1 = 2 then (florinlaw04_ShowMore.j0 k false a0_0 l0_1 a0_2 bt361.1 bt361.2.1 bt361.2.2.1 bt361.2.2.2.1 bt361.2.2.2.2.1 bt361.2.2.2.2.2.1 bt361.2.2.2.2.2.2.1 (mx bt361.2.2.2.2.2.2.2 1)) else (florinlaw04_ShowMore.j0 k (decide (bt361.2.1 ≥ bt361.2.2.1)) a0_0 l0_1 a0_2 bt361.1 bt361.2.1 bt361.2.2.1 bt361.2.2.2.1 bt361.2.2.2.2.1 bt361.2.2.2.2.2.1 bt361.2.2.2.2.2.2.1 (mx bt361.2.2.2.2.2.2.2 1)))) else (some true))) else (some false))
theorem florinlaw04_ShowMore.mono_l : ∀ k, (∀ y0 y1 y2 y3 y4 y5 y6 y7 y8 y9 y10 y11, LeO (florinlaw04_ShowMore.j0 k y0 y1 y2 y3 y4 y5 y6 y7 y8 y9 y10 y11) (florinlaw04_ShowMore.j0 (k + 1) y0 y1 y2 y3 y4 y5 y6 y7 y8 y9 y10 y11)) ∧ (∀ y0, LeO (florinlaw04_ShowMore.j1 k y0) (florinlaw04_ShowMore.j1 (k + 1) y0))
 | 0 => ⟨fun _ _ _ _ _ _ _ _ _ _ _ _ r h => by simp [florinlaw04_ShowMore.j0] at h, fun _ r h => by simp [florinlaw04_ShowMore.j1] at h⟩
 | k + 1 => by
  obtain ⟨ih0, ih1⟩ := florinlaw04_ShowMore.mono_l k
  refine ⟨?_, ?_⟩
  ·intro y0 y1 y2 y3 y4 y5 y6 y7 y8 y9 y10 y11
   unfold florinlaw04_ShowMore.j0
   repeat' first
   | (with_reducible exact ih0 _ _ _ _ _ _ _ _ _ _ _ _)
   | (with_reducible exact ih1 _)
   | (with_reducible exact florinlaw02_Raw_Make.mono _ _ _ _)
   | (with_reducible exact florinlaw04_Ask_Prec.mono _ _ _ _ _ _ _ _)
   | (with_reducible exact florinlaw04_head.mono _)
   | (with_reducible exact show_Prec_Apply.mono _ _ _ _ _ _ _ _ _ _ _ _)
   | (with_reducible exact LeO.refl _)
   | (with_reducible exact LeO.none _)
   | (with_reducible refine LeO.ite ?_ ?_)
   | (with_reducible refine LeO.bind ?_ (fun _ => ?_))
   | exact ih0 _ _ _ _ _ _ _ _ _ _ _ _
   | exact ih1 _
   | exact florinlaw02_Raw_Make.mono _ _ _ _
   | exact florinlaw04_Ask_Prec.mono _ _ _ _ _ _ _ _
   | exact florinlaw04_head.mono _
   | exact show_Prec_Apply.mono _ _ _ _ _ _ _ _ _ _ _ _
   | exact LeO.none _
   | refine LeO.ite ?_ ?_
   | refine LeO.bind ?_ (fun _ => ?_)
  ·intro y0
   unfold florinlaw04_ShowMore.j1
   repeat' first
   | (with_reducible exact ih0 _ _ _ _ _ _ _ _ _ _ _ _)
   | (with_reducible exact ih1 _)
   | (with_reducible exact florinlaw02_Raw_Make.mono _ _ _ _)
   | (with_reducible exact florinlaw04_Ask_Prec.mono _ _ _ _ _ _ _ _)
   | (with_reducible exact florinlaw04_head.mono _)
   | (with_reducible exact show_Prec_Apply.mono _ _ _ _ _ _ _ _ _ _ _ _)
   | (with_reducible exact LeO.refl _)
   | (with_reducible exact LeO.none _)
   | (with_reducible refine LeO.ite ?_ ?_)
   | (with_reducible refine LeO.bind ?_ (fun _ => ?_))
   | exact ih0 _ _ _ _ _ _ _ _ _ _ _ _
   | exact ih1 _
   | exact florinlaw02_Raw_Make.mono _ _ _ _
   | exact florinlaw04_Ask_Prec.mono _ _ _ _ _ _ _ _
   | exact florinlaw04_head.mono _
   | exact show_Prec_Apply.mono _ _ _ _ _ _ _ _ _ _ _ _
   | exact LeO.none _
   | refine LeO.ite ?_ ?_
   | refine LeO.bind ?_ (fun _ => ?_)
theorem florinlaw04_ShowMore.mono : ∀ a0 a1 a2 a3 a4 a5 a6 a7 a8 a9 k, LeO (florinlaw04_ShowMore.f k a0 a1 a2 a3 a4 a5 a6 a7 a8 a9) (florinlaw04_ShowMore.f (k + 1) a0 a1 a2 a3 a4 a5 a6 a7 a8 a9) := by
 intro a0 a1 a2 a3 a4 a5 a6 a7 a8 a9 k
 obtain ⟨ih0, ih1⟩ := florinlaw04_ShowMore.mono_l k
 unfold florinlaw04_ShowMore.f
 repeat' first
   | (with_reducible exact ih0 _ _ _ _ _ _ _ _ _ _ _ _)
   | (with_reducible exact ih1 _)
   | (with_reducible exact florinlaw02_Raw_Make.mono _ _ _ _)
   | (with_reducible exact florinlaw04_Ask_Prec.mono _ _ _ _ _ _ _ _)
   | (with_reducible exact florinlaw04_head.mono _)
   | (with_reducible exact show_Prec_Apply.mono _ _ _ _ _ _ _ _ _ _ _ _)
   | (with_reducible exact LeO.refl _)
   | (with_reducible exact LeO.none _)
   | (with_reducible refine LeO.ite ?_ ?_)
   | (with_reducible refine LeO.bind ?_ (fun _ => ?_))
   | exact ih0 _ _ _ _ _ _ _ _ _ _ _ _
   | exact ih1 _
   | exact florinlaw02_Raw_Make.mono _ _ _ _
   | exact florinlaw04_Ask_Prec.mono _ _ _ _ _ _ _ _
   | exact florinlaw04_head.mono _
   | exact show_Prec_Apply.mono _ _ _ _ _ _ _ _ _ _ _ _
   | exact LeO.none _
   | refine LeO.ite ?_ ?_
   | refine LeO.bind ?_ (fun _ => ?_)
def florinlaw04_ShowMore.T11 : Bool × List (List Nat × List Nat) := (true, [([], []), ([], []), ([1], [1]), ([0, 2, 2], [0, 2]), ([3], [3]), ([4], [4]), ([4], [4]), ([], []), ([7, 5, 3, 0, 1, 2, 3, 4, 5, 7], [5, 7]), ([6, 8, 0, 1, 2, 3, 4, 5, 6, 7, 8], [6])])
def florinlaw04_ShowMore.B11 : List Nat := [0, 0, 2, 7, 15, 31, 31, 0, 191, 511]
theorem florinlaw04_ShowMore.tab11 : rtab .any (opsOf Tryd.f5 11) = florinlaw04_ShowMore.T11 := by kernel_rfl
theorem florinlaw04_ShowMore.bits11 : waitsOk florinlaw04_ShowMore.T11.2 florinlaw04_ShowMore.B11 = true := by kernel_rfl
def florinlaw04_ShowMore.T12 : Bool × List (List Nat × List Nat) := (true, [([], []), ([], []), ([1], [1]), ([0, 2, 2], [0, 2]), ([3], [3]), ([4], [4]), ([4], [4]), ([], []), ([7, 5, 3, 0, 1, 2, 3, 4, 5, 7], [5, 7]), ([6, 8, 0, 1, 2, 3, 4, 5, 6, 7, 8], [6])])
def florinlaw04_ShowMore.B12 : List Nat := [0, 0, 2, 7, 15, 31, 31, 0, 191, 511]
theorem florinlaw04_ShowMore.tab12 : rtab .any (opsOf Tryd.f5 12) = florinlaw04_ShowMore.T12 := by kernel_rfl
theorem florinlaw04_ShowMore.bits12 : waitsOk florinlaw04_ShowMore.T12.2 florinlaw04_ShowMore.B12 = true := by kernel_rfl
set_option maxHeartbeats 8000000 in
set_option maxRecDepth 100000 in
theorem florinlaw04_ShowMore.calls (k : Nat) (a0_0 : Bool) (A0_1 : Option Addr) (c0_1 : Nat) (l0_1 : List Int) (a0_2 : Int) (a1_0 : Int) (a1_1 : Int) (a1_2 : Int) (a1_3 : Int) (a1_4 : Int) (a1_5 : Int) (a1_6 : Int) (r : Bool) (w : World) (hr0_1 : Kd.C (Kd.int .u8) w A0_1 l0_1.length l0_1) (hc0_1 : l0_1.length ≤ c0_1) (h : florinlaw04_ShowMore.f k a0_0 l0_1 a0_2 a1_0 a1_1 a1_2 a1_3 a1_4 a1_5 a1_6 = some r) :
  Calls Tryd.prog 5 #[.agg #[.bool a0_0, .slice A0_1 l0_1.length c0_1, .int .i64 a0_2], .agg #[.int .i64 a1_0, .int .i64 a1_1, .int .i64 a1_2, .int .i64 a1_3, .int .i64 a1_4, .int .i64 a1_5, .int .i64 a1_6]] w fun e w' => e = .returned (.bool r) ∧ Below w.heap.size w w' := by
 have hu24 := Tryd.underlying24
 have hu42 := Tryd.underlying42
 have hu32 := Tryd.underlying32
 have hu35 := Tryd.underlying35
 have HR0_1 := Aside0.mk hr0_1
 have HC0_1 := Aside0.mk hc0_1
 clear hr0_1 hc0_1
 have HB := Aside0.mk (Below.refl w.heap.size w)
 have H : ((florinlaw04_head.f k).bind fun t359 => (if t359 = true then ((florinlaw02_Raw_Few.f a0_0 l0_1 a0_2 30).bind fun t360 => (if t360 = true then ((florinlaw04_Ask_Prec.f k a1_0 a1_1 a1_2 a1_3 a1_4 a1_5 a1_6).bind fun bt361 => (if bt361.1 = 2 then (florinlaw04_ShowMore.j0 k false a0_0 l0_1 a0_2 bt361.1 bt361.2.1 bt361.2.2.1 bt361.2.2.2.1 bt361.2.2.2.2.1 bt361.2.2.2.2.2.1 bt361.2.2.2.2.2.2.1 (mx bt361.2.2.2.2.2.2.2 1)) else (florinlaw04_ShowMore.j0 k (decide (bt361.2.1 ≥ bt361.2.2.1)) a0_0 l0_1 a0_2 bt361.1 bt361.2.1 bt361.2.2.1 bt361.2.2.2.1 bt361.2.2.2.2.1 bt361.2.2.2.2.2.1 bt361.2.2.2.2.2.2.1 (mx bt361.2.2.2.2.2.2.2 1)))) else (some true))) else (some false))) = some r := h
 clear h
 replace H := Option.bind_eq_some_iff.mp H
 obtain ⟨t359, A30, H⟩ := H
 replace H : (if t359 = true then ((florinlaw02_Raw_Few.f a0_0 l0_1 a0_2 30).bind fun t360 => (if t360 = true then ((florinlaw04_Ask_Prec.f k a1_0 a1_1 a1_2 a1_3 a1_4 a1_5 a1_6).bind fun bt361 => (if bt361.1 = 2 then (florinlaw04_ShowMore.j0 k false a0_0 l0_1 a0_2 bt361.1 bt361.2.1 bt361.2.2.1 bt361.2.2.2.1 bt361.2.2.2.2.1 bt361.2.2.2.2.2.1 bt361.2.2.2.2.2.2.1 (mx bt361.2.2.2.2.2.2.2 1)) else (florinlaw04_ShowMore.j0 k (decide (bt361.2.1 ≥ bt361.2.2.1)) a0_0 l0_1 a0_2 bt361.1 bt361.2.1 bt361.2.2.1 bt361.2.2.2.1 bt361.2.2.2.2.1 bt361.2.2.2.2.2.1 bt361.2.2.2.2.2.2.1 (mx bt361.2.2.2.2.2.2.2 1)))) else (some true))) else (some false)) = some r := H
 have A3 := Aside0.mk A30
 clear A30
 by_cases c4 : t359 = true
 ·subst c4
  have H1 : ((florinlaw02_Raw_Few.f a0_0 l0_1 a0_2 30).bind fun t360 => (if t360 = true then ((florinlaw04_Ask_Prec.f k a1_0 a1_1 a1_2 a1_3 a1_4 a1_5 a1_6).bind fun bt361 => (if bt361.1 = 2 then (florinlaw04_ShowMore.j0 k false a0_0 l0_1 a0_2 bt361.1 bt361.2.1 bt361.2.2.1 bt361.2.2.2.1 bt361.2.2.2.2.1 bt361.2.2.2.2.2.1 bt361.2.2.2.2.2.2.1 (mx bt361.2.2.2.2.2.2.2 1)) else (florinlaw04_ShowMore.j0 k (decide (bt361.2.1 ≥ bt361.2.2.1)) a0_0 l0_1 a0_2 bt361.1 bt361.2.1 bt361.2.2.1 bt361.2.2.2.1 bt361.2.2.2.2.1 bt361.2.2.2.2.2.1 bt361.2.2.2.2.2.2.1 (mx bt361.2.2.2.2.2.2.2 1)))) else (some true))) = some r := by rw [if_pos rfl] at H; exact H
  clear H
  have H := H1
  clear H1
  replace H := Option.bind_eq_some_iff.mp H
  obtain ⟨t360, A50, H⟩ := H
  replace H : (if t360 = true then ((florinlaw04_Ask_Prec.f k a1_0 a1_1 a1_2 a1_3 a1_4 a1_5 a1_6).bind fun bt361 => (if bt361.1 = 2 then (florinlaw04_ShowMore.j0 k false a0_0 l0_1 a0_2 bt361.1 bt361.2.1 bt361.2.2.1 bt361.2.2.2.1 bt361.2.2.2.2.1 bt361.2.2.2.2.2.1 bt361.2.2.2.2.2.2.1 (mx bt361.2.2.2.2.2.2.2 1)) else (florinlaw04_ShowMore.j0 k (decide (bt361.2.1 ≥ bt361.2.2.1)) a0_0 l0_1 a0_2 bt361.1 bt361.2.1 bt361.2.2.1 bt361.2.2.2.1 bt361.2.2.2.2.1 bt361.2.2.2.2.2.1 bt361.2.2.2.2.2.2.1 (mx bt361.2.2.2.2.2.2.2 1)))) else (some true)) = some r := H
  have A5 := Aside0.mk A50
  clear A50
  by_cases c6 : t360 = true
  ·subst c6
   have H1 : ((florinlaw04_Ask_Prec.f k a1_0 a1_1 a1_2 a1_3 a1_4 a1_5 a1_6).bind fun bt361 => (if bt361.1 = 2 then (florinlaw04_ShowMore.j0 k false a0_0 l0_1 a0_2 bt361.1 bt361.2.1 bt361.2.2.1 bt361.2.2.2.1 bt361.2.2.2.2.1 bt361.2.2.2.2.2.1 bt361.2.2.2.2.2.2.1 (mx bt361.2.2.2.2.2.2.2 1)) else (florinlaw04_ShowMore.j0 k (decide (bt361.2.1 ≥ bt361.2.2.1)) a0_0 l0_1 a0_2 bt361.1 bt361.2.1 bt361.2.2.1 bt361.2.2.2.1 bt361.2.2.2.2.1 bt361.2.2.2.2.2.1 bt361.2.2.2.2.2.2.1 (mx bt361.2.2.2.2.2.2.2 1)))) = some r := by rw [if_pos rfl] at H; exact H
   clear H
   have H := H1
   clear H1
   replace H := Option.bind_eq_some_iff.mp H
   obtain ⟨⟨t361, t362, t363, t364, t365, t366, t367, t368⟩, A70, H⟩ := H
   replace H : (if t361 = 2 then (florinlaw04_ShowMore.j0 k false a0_0 l0_1 a0_2 t361 t362 t363 t364 t365 t366 t367 (mx t368 1)) else (florinlaw04_ShowMore.j0 k (decide (t362 ≥ t363)) a0_0 l0_1 a0_2 t361 t362 t363 t364 t365 t366 t367 (mx t368 1))) = some r := H
   have A7 := Aside0.mk A70
   clear A70
   obtain ⟨ji8, hji8⟩ : ∃ j_ : Int, (mx t368 1) = j_ := ⟨_, rfl⟩
   replace H : (if t361 = 2 then (florinlaw04_ShowMore.j0 k false a0_0 l0_1 a0_2 t361 t362 t363 t364 t365 t366 t367 ji8) else (florinlaw04_ShowMore.j0 k (decide (t362 ≥ t363)) a0_0 l0_1 a0_2 t361 t362 t363 t364 t365 t366 t367 ji8)) = some r := by first | (rw [hji8] at H; exact H) | (simp only [hji8] at H ⊢; exact H)
   (try rw [hji8] at A3)
   (try rw [hji8] at A5)
   (try rw [hji8] at A7)
   (try (have hji8l : 1 ≤ ji8 := by (rw [← hji8]; unfold mx; (repeat' split) <;> omega)))
   (try (have hji8m : 0 ≤ ji8 := by omega))
   have hji8_ : (if t368 < 1 then 1 else t368) = ji8 := hji8
   have HC9 := Aside0.mk H
   clear H
   go_enter Tryd.func5, Tryd.ntmps5
   go_upto_region 7 with (first | ((with_reducible refine gate_dst (N := 2) rfl ?_); refine be_ 2 #[.bool a0_0, .slice A0_1 l0_1.length c0_1, .int .i64 a0_2] 24 ?_; intro gb357 hg w10 hbox hb; have BK357 := Aside0.mk (hbox); have GW357 := sz_ HB hg; have GE357 := sz_ HB hg; replace HB := Aside0.mk (below_step (bl_ HB).out hb); clear hb hbox hg) | ((with_reducible refine gate_dst (N := 3) rfl ?_); refine be_ 3 #[.int .i64 a1_0, .int .i64 a1_1, .int .i64 a1_2, .int .i64 a1_3, .int .i64 a1_4, .int .i64 a1_5, .int .i64 a1_6] 42 ?_; intro gb358 hg w11 hbox hb; have BK358 := Aside0.mk (hbox); have GW358 := sz_ HB hg; have GE358 := sz_ HB hg; have NB357_358 := na_ BK357 hg; have NB358_357 := nb_ BK357 hg; replace BK357 := bb_ BK357 hb; replace HB := Aside0.mk (below_step (bl_ HB).out hb); clear hb hbox hg) | ((with_reducible refine gate_callee (f := 8) rfl ?_); refine gl_ (some 11) Tryd.func8 #[] ?_; (with_reducible refine (florinlaw04_head.calls k  true _ A3.out).mono ?_); rintro e w12 ⟨rfl, hb⟩; refine ⟨_, rfl, ?_⟩; replace BK357 := bb_ BK357 hb; replace BK358 := bb_ BK358 hb; replace HB := Aside0.mk (below_step (bl_ HB).out hb); (try clear hb); (try clear hb2); (try clear hk); (try clear hi); have hnb13 := NB357_358.out; have hnc13 := NB358_357.out; obtain ⟨hcz14_0, hcz14_1, hcz14_2, hfz14_0, hfz14_1, hfz14_2⟩ := bo3_ BK357) | ((with_reducible refine gate_callee (f := 15) rfl ?_); refine gl_ (some 14) Tryd.func15 #[.agg #[.bool a0_0, .slice A0_1 l0_1.length c0_1, .int .i64 a0_2], .int .i64 30] ?_; (with_reducible refine (florinlaw02_Raw_Few.calls a0_0 _ _ l0_1 a0_2 30 true _ ?side1 ?side2 A5.out).mono ?_); (case side1 => repeat (first | exact (Kd.C_below HR0_1.out HB.out) | (with_reducible refine Kd.C_alloc ?_ _) | (with_reducible refine Kd.C_drewN ?_ _) | (with_reducible refine Kd.C_drew ?_))); (case side2 => exact HC0_1.out); rintro e w15 ⟨rfl, hb⟩; refine ⟨_, rfl, ?_⟩; replace BK357 := bb_ BK357 hb; replace BK358 := bb_ BK358 hb; replace HB := Aside0.mk (below_step (bl_ HB).out hb); (try clear hb); (try clear hb2); (try clear hk); (try clear hi); obtain ⟨hcz16_0, hcz16_1, hcz16_2, hcz16_3, hcz16_4, hcz16_5, hcz16_6, hfz16_0, hfz16_1, hfz16_2, hfz16_3, hfz16_4, hfz16_5, hfz16_6⟩ := bo7_ BK358) | ((with_reducible refine gate_callee (f := 16) rfl ?_); refine gl_ (some 17) Tryd.func16 #[.agg #[.int .i64 a1_0, .int .i64 a1_1, .int .i64 a1_2, .int .i64 a1_3, .int .i64 a1_4, .int .i64 a1_5, .int .i64 a1_6]] ?_; (with_reducible refine (florinlaw04_Ask_Prec.calls k a1_0 a1_1 a1_2 a1_3 a1_4 a1_5 a1_6 t361 t362 t363 t364 t365 t366 t367 t368 _ A7.out).mono ?_); rintro e w17 ⟨rfl, hb⟩; refine ⟨_, rfl, ?_⟩; replace BK357 := bb_ BK357 hb; replace BK358 := bb_ BK358 hb; replace HB := Aside0.mk (below_step (bl_ HB).out hb); (try clear hb); (try clear hb2); (try clear hk); (try clear hi)) | ((with_reducible refine gate_dst (N := 5) rfl ?_); refine be_ 5 #[.int .i64 0, .int .i64 0, .int .i64 0, .bool false, .string (⟨#[]⟩ : ByteArray), .int .i64 0, .int .i64 0, .int .i64 0] 32 ?_; intro gb369 hg w18 hbox hb; have BK369 := Aside0.mk (hbox); have GW369 := sz_ HB hg; have GE369 := sz_ HB hg; have NB357_369 := na_ BK357 hg; have NB369_357 := nb_ BK357 hg; have NB358_369 := na_ BK358 hg; have NB369_358 := nb_ BK358 hg; replace BK357 := bb_ BK357 hb; replace BK358 := bb_ BK358 hb; replace HB := Aside0.mk (below_step (bl_ HB).out hb); clear hb hbox hg; have hnb19 := NB369_357.out; have hnc19 := NB357_369.out; have hnb20 := NB369_358.out; have hnc20 := NB358_369.out; obtain ⟨hcz21_0, hcz21_1, hcz21_2, hcz21_3, hcz21_4, hcz21_5, hcz21_6, hcz21_7, hfz21_0, hfz21_1, hfz21_2, hfz21_3, hfz21_4, hfz21_5, hfz21_6, hfz21_7⟩ := bo8_ BK369))
   (try simp only [Act.put, List.setIfInBounds_toArray, List.set_cons_zero, List.set_cons_succ])
   go_cut [31] (fun v31 wc => ∃ (kq : Nat) (x31_8 : Bool), v31 = .bool x31_8 ∧ Aside0 (florinlaw04_ShowMore.j0 kq x31_8 a0_0 l0_1 a0_2 t361 t362 t363 t364 t365 t366 t367 ji8 = some r) ∧ Aside0 (kq ≤ k) ∧ Aside0 (wc.heap[gb357]? = some (.cells #[.bool a0_0, (.slice A0_1 l0_1.length c0_1), .int .i64 a0_2] 24 (0, 0))) ∧ Aside0 (wc.heap[gb358]? = some (.cells #[.int .i64 a1_0, .int .i64 a1_1, .int .i64 a1_2, .int .i64 a1_3, .int .i64 a1_4, .int .i64 a1_5, .int .i64 a1_6] 42 (0, 0))) ∧ Aside0 (wc.heap[gb369]? = some (.cells #[.int .i64 t361, .int .i64 t362, .int .i64 t363, .bool t364, .string t365, .int .i64 t366, .int .i64 t367, .int .i64 ji8] 32 (0, 0))) ∧ Aside0 (Below w.heap.size w wc))
   case first =>
    have H := HC9.out
    clear HC9
    by_cases c22 : t361 = 2
    ·rw [if_pos c22] at H
     have c22b0 : (t361 == 2) = true := beq_iff_eq.mpr c22
     have c22b1 : (t361 != 2) = false := bne_eq_false_iff_eq.mpr c22
     clear c22
     (first | rw [c22b0] | (simp only [i64_w, i32_w]; rw [c22b0]) | skip)
     have H' := Aside0.mk H
     clear H
     have hnb23 := NB369_357.out
     have hnc23 := NB357_369.out
     have hnb24 := NB369_358.out
     have hnc24 := NB358_369.out
     obtain ⟨hcz25_0, hcz25_1, hcz25_2, hcz25_3, hcz25_4, hcz25_5, hcz25_6, hcz25_7, hfz25_0, hfz25_1, hfz25_2, hfz25_3, hfz25_4, hfz25_5, hfz25_6, hfz25_7⟩ := bo8_ BK369
     go_wp2
     go_meet
     case rel => first | (exact ⟨_, (false), eq_, H', ⟨by first | omega | exact Nat.le_refl _⟩, ⟨by (with_reducible repeat (first | refine blk_drewN ?_ _ | refine blk_drew ?_ | refine blk_alloc ?_ _)); refine blk_far ?_ NB357_369.out _; (with_reducible repeat (first | refine blk_drewN ?_ _ | refine blk_drew ?_ | refine blk_alloc ?_ _)); refine blk_far ?_ NB357_369.out _; (with_reducible repeat (first | refine blk_drewN ?_ _ | refine blk_drew ?_ | refine blk_alloc ?_ _)); refine blk_far ?_ NB357_369.out _; (with_reducible repeat (first | refine blk_drewN ?_ _ | refine blk_drew ?_ | refine blk_alloc ?_ _)); refine blk_far ?_ NB357_369.out _; (with_reducible repeat (first | refine blk_drewN ?_ _ | refine blk_drew ?_ | refine blk_alloc ?_ _)); refine blk_far ?_ NB357_369.out _; (with_reducible repeat (first | refine blk_drewN ?_ _ | refine blk_drew ?_ | refine blk_alloc ?_ _)); refine blk_far ?_ NB357_369.out _; (with_reducible repeat (first | refine blk_drewN ?_ _ | refine blk_drew ?_ | refine blk_alloc ?_ _)); refine blk_far ?_ NB357_369.out _; (with_reducible repeat (first | refine blk_drewN ?_ _ | refine blk_drew ?_ | refine blk_alloc ?_ _)); refine blk_far ?_ NB357_369.out _; (with_reducible repeat (first | refine blk_drewN ?_ _ | refine blk_drew ?_ | refine blk_alloc ?_ _)); refine blk_far ?_ NB357_369.out _; (with_reducible repeat (first | refine blk_drewN ?_ _ | refine blk_drew ?_ | refine blk_alloc ?_ _)); exact BK357.out⟩, ⟨by (with_reducible repeat (first | refine blk_drewN ?_ _ | refine blk_drew ?_ | refine blk_alloc ?_ _)); refine blk_far ?_ NB358_369.out _; (with_reducible repeat (first | refine blk_drewN ?_ _ | refine blk_drew ?_ | refine blk_alloc ?_ _)); refine blk_far ?_ NB358_369.out _; (with_reducible repeat (first | refine blk_drewN ?_ _ | refine blk_drew ?_ | refine blk_alloc ?_ _)); refine blk_far ?_ NB358_369.out _; (with_reducible repeat (first | refine blk_drewN ?_ _ | refine blk_drew ?_ | refine blk_alloc ?_ _)); refine blk_far ?_ NB358_369.out _; (with_reducible repeat (first | refine blk_drewN ?_ _ | refine blk_drew ?_ | refine blk_alloc ?_ _)); refine blk_far ?_ NB358_369.out _; (with_reducible repeat (first | refine blk_drewN ?_ _ | refine blk_drew ?_ | refine blk_alloc ?_ _)); refine blk_far ?_ NB358_369.out _; (with_reducible repeat (first | refine blk_drewN ?_ _ | refine blk_drew ?_ | refine blk_alloc ?_ _)); refine blk_far ?_ NB358_369.out _; (with_reducible repeat (first | refine blk_drewN ?_ _ | refine blk_drew ?_ | refine blk_alloc ?_ _)); refine blk_far ?_ NB358_369.out _; (with_reducible repeat (first | refine blk_drewN ?_ _ | refine blk_drew ?_ | refine blk_alloc ?_ _)); refine blk_far ?_ NB358_369.out _; (with_reducible repeat (first | refine blk_drewN ?_ _ | refine blk_drew ?_ | refine blk_alloc ?_ _)); exact BK358.out⟩, ⟨by (with_reducible repeat (first | refine blk_drewN ?_ _ | refine blk_drew ?_ | refine blk_alloc ?_ _)); refine blk_put (cs := #[.int .i64 t361, .int .i64 t362, .int .i64 t363, .bool t364, .string t365, .int .i64 t366, .int .i64 t367, .int .i64 t368]) ?_ 7 _ rfl; (with_reducible repeat (first | refine blk_drewN ?_ _ | refine blk_drew ?_ | refine blk_alloc ?_ _)); refine blk_put (cs := #[.int .i64 t361, .int .i64 t362, .int .i64 t363, .bool t364, .string t365, .int .i64 t366, .int .i64 t367, .int .i64 0]) ?_ 7 _ rfl; (with_reducible repeat (first | refine blk_drewN ?_ _ | refine blk_drew ?_ | refine blk_alloc ?_ _)); refine blk_put (cs := #[.int .i64 t361, .int .i64 t362, .int .i64 t363, .bool t364, .string t365, .int .i64 t366, .int .i64 0, .int .i64 0]) ?_ 6 _ rfl; (with_reducible repeat (first | refine blk_drewN ?_ _ | refine blk_drew ?_ | refine blk_alloc ?_ _)); refine blk_put (cs := #[.int .i64 t361, .int .i64 t362, .int .i64 t363, .bool t364, .string t365, .int .i64 0, .int .i64 0, .int .i64 0]) ?_ 5 _ rfl; (with_reducible repeat (first | refine blk_drewN ?_ _ | refine blk_drew ?_ | refine blk_alloc ?_ _)); refine blk_put (cs := #[.int .i64 t361, .int .i64 t362, .int .i64 t363, .bool t364, .string (⟨#[]⟩ : ByteArray), .int .i64 0, .int .i64 0, .int .i64 0]) ?_ 4 _ rfl; (with_reducible repeat (first | refine blk_drewN ?_ _ | refine blk_drew ?_ | refine blk_alloc ?_ _)); refine blk_put (cs := #[.int .i64 t361, .int .i64 t362, .int .i64 t363, .bool false, .string (⟨#[]⟩ : ByteArray), .int .i64 0, .int .i64 0, .int .i64 0]) ?_ 3 _ rfl; (with_reducible repeat (first | refine blk_drewN ?_ _ | refine blk_drew ?_ | refine blk_alloc ?_ _)); refine blk_put (cs := #[.int .i64 t361, .int .i64 t362, .int .i64 0, .bool false, .string (⟨#[]⟩ : ByteArray), .int .i64 0, .int .i64 0, .int .i64 0]) ?_ 2 _ rfl; (with_reducible repeat (first | refine blk_drewN ?_ _ | refine blk_drew ?_ | refine blk_alloc ?_ _)); refine blk_put (cs := #[.int .i64 t361, .int .i64 0, .int .i64 0, .bool false, .string (⟨#[]⟩ : ByteArray), .int .i64 0, .int .i64 0, .int .i64 0]) ?_ 1 _ rfl; (with_reducible repeat (first | refine blk_drewN ?_ _ | refine blk_drew ?_ | refine blk_alloc ?_ _)); refine blk_put (cs := #[.int .i64 0, .int .i64 0, .int .i64 0, .bool false, .string (⟨#[]⟩ : ByteArray), .int .i64 0, .int .i64 0, .int .i64 0]) ?_ 0 _ rfl; (with_reducible repeat (first | refine blk_drewN ?_ _ | refine blk_drew ?_ | refine blk_alloc ?_ _)); exact BK369.out⟩, (bl_ HB)⟩) | (rw [← hji8] at H'; exact ⟨_, (false), eq_, H', ⟨by first | omega | exact Nat.le_refl _⟩, ⟨by (with_reducible repeat (first | refine blk_drewN ?_ _ | refine blk_drew ?_ | refine blk_alloc ?_ _)); refine blk_far ?_ NB357_369.out _; (with_reducible repeat (first | refine blk_drewN ?_ _ | refine blk_drew ?_ | refine blk_alloc ?_ _)); refine blk_far ?_ NB357_369.out _; (with_reducible repeat (first | refine blk_drewN ?_ _ | refine blk_drew ?_ | refine blk_alloc ?_ _)); refine blk_far ?_ NB357_369.out _; (with_reducible repeat (first | refine blk_drewN ?_ _ | refine blk_drew ?_ | refine blk_alloc ?_ _)); refine blk_far ?_ NB357_369.out _; (with_reducible repeat (first | refine blk_drewN ?_ _ | refine blk_drew ?_ | refine blk_alloc ?_ _)); refine blk_far ?_ NB357_369.out _; (with_reducible repeat (first | refine blk_drewN ?_ _ | refine blk_drew ?_ | refine blk_alloc ?_ _)); refine blk_far ?_ NB357_369.out _; (with_reducible repeat (first | refine blk_drewN ?_ _ | refine blk_drew ?_ | refine blk_alloc ?_ _)); refine blk_far ?_ NB357_369.out _; (with_reducible repeat (first | refine blk_drewN ?_ _ | refine blk_drew ?_ | refine blk_alloc ?_ _)); refine blk_far ?_ NB357_369.out _; (with_reducible repeat (first | refine blk_drewN ?_ _ | refine blk_drew ?_ | refine blk_alloc ?_ _)); refine blk_far ?_ NB357_369.out _; (with_reducible repeat (first | refine blk_drewN ?_ _ | refine blk_drew ?_ | refine blk_alloc ?_ _)); exact BK357.out⟩, ⟨by (with_reducible repeat (first | refine blk_drewN ?_ _ | refine blk_drew ?_ | refine blk_alloc ?_ _)); refine blk_far ?_ NB358_369.out _; (with_reducible repeat (first | refine blk_drewN ?_ _ | refine blk_drew ?_ | refine blk_alloc ?_ _)); refine blk_far ?_ NB358_369.out _; (with_reducible repeat (first | refine blk_drewN ?_ _ | refine blk_drew ?_ | refine blk_alloc ?_ _)); refine blk_far ?_ NB358_369.out _; (with_reducible repeat (first | refine blk_drewN ?_ _ | refine blk_drew ?_ | refine blk_alloc ?_ _)); refine blk_far ?_ NB358_369.out _; (with_reducible repeat (first | refine blk_drewN ?_ _ | refine blk_drew ?_ | refine blk_alloc ?_ _)); refine blk_far ?_ NB358_369.out _; (with_reducible repeat (first | refine blk_drewN ?_ _ | refine blk_drew ?_ | refine blk_alloc ?_ _)); refine blk_far ?_ NB358_369.out _; (with_reducible repeat (first | refine blk_drewN ?_ _ | refine blk_drew ?_ | refine blk_alloc ?_ _)); refine blk_far ?_ NB358_369.out _; (with_reducible repeat (first | refine blk_drewN ?_ _ | refine blk_drew ?_ | refine blk_alloc ?_ _)); refine blk_far ?_ NB358_369.out _; (with_reducible repeat (first | refine blk_drewN ?_ _ | refine blk_drew ?_ | refine blk_alloc ?_ _)); refine blk_far ?_ NB358_369.out _; (with_reducible repeat (first | refine blk_drewN ?_ _ | refine blk_drew ?_ | refine blk_alloc ?_ _)); exact BK358.out⟩, ⟨by (with_reducible repeat (first | refine blk_drewN ?_ _ | refine blk_drew ?_ | refine blk_alloc ?_ _)); refine blk_put (cs := #[.int .i64 t361, .int .i64 t362, .int .i64 t363, .bool t364, .string t365, .int .i64 t366, .int .i64 t367, .int .i64 t368]) ?_ 7 _ rfl; (with_reducible repeat (first | refine blk_drewN ?_ _ | refine blk_drew ?_ | refine blk_alloc ?_ _)); refine blk_put (cs := #[.int .i64 t361, .int .i64 t362, .int .i64 t363, .bool t364, .string t365, .int .i64 t366, .int .i64 t367, .int .i64 0]) ?_ 7 _ rfl; (with_reducible repeat (first | refine blk_drewN ?_ _ | refine blk_drew ?_ | refine blk_alloc ?_ _)); refine blk_put (cs := #[.int .i64 t361, .int .i64 t362, .int .i64 t363, .bool t364, .string t365, .int .i64 t366, .int .i64 0, .int .i64 0]) ?_ 6 _ rfl; (with_reducible repeat (first | refine blk_drewN ?_ _ | refine blk_drew ?_ | refine blk_alloc ?_ _)); refine blk_put (cs := #[.int .i64 t361, .int .i64 t362, .int .i64 t363, .bool t364, .string t365, .int .i64 0, .int .i64 0, .int .i64 0]) ?_ 5 _ rfl; (with_reducible repeat (first | refine blk_drewN ?_ _ | refine blk_drew ?_ | refine blk_alloc ?_ _)); refine blk_put (cs := #[.int .i64 t361, .int .i64 t362, .int .i64 t363, .bool t364, .string (⟨#[]⟩ : ByteArray), .int .i64 0, .int .i64 0, .int .i64 0]) ?_ 4 _ rfl; (with_reducible repeat (first | refine blk_drewN ?_ _ | refine blk_drew ?_ | refine blk_alloc ?_ _)); refine blk_put (cs := #[.int .i64 t361, .int .i64 t362, .int .i64 t363, .bool false, .string (⟨#[]⟩ : ByteArray), .int .i64 0, .int .i64 0, .int .i64 0]) ?_ 3 _ rfl; (with_reducible repeat (first | refine blk_drewN ?_ _ | refine blk_drew ?_ | refine blk_alloc ?_ _)); refine blk_put (cs := #[.int .i64 t361, .int .i64 t362, .int .i64 0, .bool false, .string (⟨#[]⟩ : ByteArray), .int .i64 0, .int .i64 0, .int .i64 0]) ?_ 2 _ rfl; (with_reducible repeat (first | refine blk_drewN ?_ _ | refine blk_drew ?_ | refine blk_alloc ?_ _)); refine blk_put (cs := #[.int .i64 t361, .int .i64 0, .int .i64 0, .bool false, .string (⟨#[]⟩ : ByteArray), .int .i64 0, .int .i64 0, .int .i64 0]) ?_ 1 _ rfl; (with_reducible repeat (first | refine blk_drewN ?_ _ | refine blk_drew ?_ | refine blk_alloc ?_ _)); refine blk_put (cs := #[.int .i64 0, .int .i64 0, .int .i64 0, .bool false, .string (⟨#[]⟩ : ByteArray), .int .i64 0, .int .i64 0, .int .i64 0]) ?_ 0 _ rfl; (with_reducible repeat (first | refine blk_drewN ?_ _ | refine blk_drew ?_ | refine blk_alloc ?_ _)); exact BK369.out⟩, (bl_ HB)⟩)
    ·rw [if_neg c22] at H
     have c22b0 : (t361 == 2) = false := beq_eq_false_iff_ne.mpr c22
     have c22b1 : (t361 != 2) = true := bne_iff_ne.mpr c22
     (first | rw [c22b0] | (simp only [i64_w, i32_w]; rw [c22b0]) | skip)
     have H' := Aside0.mk H
     clear H
     have hnb26 := NB369_357.out
     have hnc26 := NB357_369.out
     have hnb27 := NB369_358.out
     have hnc27 := NB358_369.out
     obtain ⟨hcz28_0, hcz28_1, hcz28_2, hcz28_3, hcz28_4, hcz28_5, hcz28_6, hcz28_7, hfz28_0, hfz28_1, hfz28_2, hfz28_3, hfz28_4, hfz28_5, hfz28_6, hfz28_7⟩ := bo8_ BK369
     go_wp2
     go_meet
     case rel => first | (exact ⟨_, (decide (t362 ≥ t363)), eq_, H', ⟨by first | omega | exact Nat.le_refl _⟩, ⟨by (with_reducible repeat (first | refine blk_drewN ?_ _ | refine blk_drew ?_ | refine blk_alloc ?_ _)); refine blk_far ?_ NB357_369.out _; (with_reducible repeat (first | refine blk_drewN ?_ _ | refine blk_drew ?_ | refine blk_alloc ?_ _)); refine blk_far ?_ NB357_369.out _; (with_reducible repeat (first | refine blk_drewN ?_ _ | refine blk_drew ?_ | refine blk_alloc ?_ _)); refine blk_far ?_ NB357_369.out _; (with_reducible repeat (first | refine blk_drewN ?_ _ | refine blk_drew ?_ | refine blk_alloc ?_ _)); refine blk_far ?_ NB357_369.out _; (with_reducible repeat (first | refine blk_drewN ?_ _ | refine blk_drew ?_ | refine blk_alloc ?_ _)); refine blk_far ?_ NB357_369.out _; (with_reducible repeat (first | refine blk_drewN ?_ _ | refine blk_drew ?_ | refine blk_alloc ?_ _)); refine blk_far ?_ NB357_369.out _; (with_reducible repeat (first | refine blk_drewN ?_ _ | refine blk_drew ?_ | refine blk_alloc ?_ _)); refine blk_far ?_ NB357_369.out _; (with_reducible repeat (first | refine blk_drewN ?_ _ | refine blk_drew ?_ | refine blk_alloc ?_ _)); refine blk_far ?_ NB357_369.out _; (with_reducible repeat (first | refine blk_drewN ?_ _ | refine blk_drew ?_ | refine blk_alloc ?_ _)); refine blk_far ?_ NB357_369.out _; (with_reducible repeat (first | refine blk_drewN ?_ _ | refine blk_drew ?_ | refine blk_alloc ?_ _)); exact BK357.out⟩, ⟨by (with_reducible repeat (first | refine blk_drewN ?_ _ | refine blk_drew ?_ | refine blk_alloc ?_ _)); refine blk_far ?_ NB358_369.out _; (with_reducible repeat (first | refine blk_drewN ?_ _ | refine blk_drew ?_ | refine blk_alloc ?_ _)); refine blk_far ?_ NB358_369.out _; (with_reducible repeat (first | refine blk_drewN ?_ _ | refine blk_drew ?_ | refine blk_alloc ?_ _)); refine blk_far ?_ NB358_369.out _; (with_reducible repeat (first | refine blk_drewN ?_ _ | refine blk_drew ?_ | refine blk_alloc ?_ _)); refine blk_far ?_ NB358_369.out _; (with_reducible repeat (first | refine blk_drewN ?_ _ | refine blk_drew ?_ | refine blk_alloc ?_ _)); refine blk_far ?_ NB358_369.out _; (with_reducible repeat (first | refine blk_drewN ?_ _ | refine blk_drew ?_ | refine blk_alloc ?_ _)); refine blk_far ?_ NB358_369.out _; (with_reducible repeat (first | refine blk_drewN ?_ _ | refine blk_drew ?_ | refine blk_alloc ?_ _)); refine blk_far ?_ NB358_369.out _; (with_reducible repeat (first | refine blk_drewN ?_ _ | refine blk_drew ?_ | refine blk_alloc ?_ _)); refine blk_far ?_ NB358_369.out _; (with_reducible repeat (first | refine blk_drewN ?_ _ | refine blk_drew ?_ | refine blk_alloc ?_ _)); refine blk_far ?_ NB358_369.out _; (with_reducible repeat (first | refine blk_drewN ?_ _ | refine blk_drew ?_ | refine blk_alloc ?_ _)); exact BK358.out⟩, ⟨by (with_reducible repeat (first | refine blk_drewN ?_ _ | refine blk_drew ?_ | refine blk_alloc ?_ _)); refine blk_put (cs := #[.int .i64 t361, .int .i64 t362, .int .i64 t363, .bool t364, .string t365, .int .i64 t366, .int .i64 t367, .int .i64 t368]) ?_ 7 _ rfl; (with_reducible repeat (first | refine blk_drewN ?_ _ | refine blk_drew ?_ | refine blk_alloc ?_ _)); refine blk_put (cs := #[.int .i64 t361, .int .i64 t362, .int .i64 t363, .bool t364, .string t365, .int .i64 t366, .int .i64 t367, .int .i64 0]) ?_ 7 _ rfl; (with_reducible repeat (first | refine blk_drewN ?_ _ | refine blk_drew ?_ | refine blk_alloc ?_ _)); refine blk_put (cs := #[.int .i64 t361, .int .i64 t362, .int .i64 t363, .bool t364, .string t365, .int .i64 t366, .int .i64 0, .int .i64 0]) ?_ 6 _ rfl; (with_reducible repeat (first | refine blk_drewN ?_ _ | refine blk_drew ?_ | refine blk_alloc ?_ _)); refine blk_put (cs := #[.int .i64 t361, .int .i64 t362, .int .i64 t363, .bool t364, .string t365, .int .i64 0, .int .i64 0, .int .i64 0]) ?_ 5 _ rfl; (with_reducible repeat (first | refine blk_drewN ?_ _ | refine blk_drew ?_ | refine blk_alloc ?_ _)); refine blk_put (cs := #[.int .i64 t361, .int .i64 t362, .int .i64 t363, .bool t364, .string (⟨#[]⟩ : ByteArray), .int .i64 0, .int .i64 0, .int .i64 0]) ?_ 4 _ rfl; (with_reducible repeat (first | refine blk_drewN ?_ _ | refine blk_drew ?_ | refine blk_alloc ?_ _)); refine blk_put (cs := #[.int .i64 t361, .int .i64 t362, .int .i64 t363, .bool false, .string (⟨#[]⟩ : ByteArray), .int .i64 0, .int .i64 0, .int .i64 0]) ?_ 3 _ rfl; (with_reducible repeat (first | refine blk_drewN ?_ _ | refine blk_drew ?_ | refine blk_alloc ?_ _)); refine blk_put (cs := #[.int .i64 t361, .int .i64 t362, .int .i64 0, .bool false, .string (⟨#[]⟩ : ByteArray), .int .i64 0, .int .i64 0, .int .i64 0]) ?_ 2 _ rfl; (with_reducible repeat (first | refine blk_drewN ?_ _ | refine blk_drew ?_ | refine blk_alloc ?_ _)); refine blk_put (cs := #[.int .i64 t361, .int .i64 0, .int .i64 0, .bool false, .string (⟨#[]⟩ : ByteArray), .int .i64 0, .int .i64 0, .int .i64 0]) ?_ 1 _ rfl; (with_reducible repeat (first | refine blk_drewN ?_ _ | refine blk_drew ?_ | refine blk_alloc ?_ _)); refine blk_put (cs := #[.int .i64 0, .int .i64 0, .int .i64 0, .bool false, .string (⟨#[]⟩ : ByteArray), .int .i64 0, .int .i64 0, .int .i64 0]) ?_ 0 _ rfl; (with_reducible repeat (first | refine blk_drewN ?_ _ | refine blk_drew ?_ | refine blk_alloc ?_ _)); exact BK369.out⟩, (bl_ HB)⟩) | (rw [← hji8] at H'; exact ⟨_, (decide (t362 ≥ t363)), eq_, H', ⟨by first | omega | exact Nat.le_refl _⟩, ⟨by (with_reducible repeat (first | refine blk_drewN ?_ _ | refine blk_drew ?_ | refine blk_alloc ?_ _)); refine blk_far ?_ NB357_369.out _; (with_reducible repeat (first | refine blk_drewN ?_ _ | refine blk_drew ?_ | refine blk_alloc ?_ _)); refine blk_far ?_ NB357_369.out _; (with_reducible repeat (first | refine blk_drewN ?_ _ | refine blk_drew ?_ | refine blk_alloc ?_ _)); refine blk_far ?_ NB357_369.out _; (with_reducible repeat (first | refine blk_drewN ?_ _ | refine blk_drew ?_ | refine blk_alloc ?_ _)); refine blk_far ?_ NB357_369.out _; (with_reducible repeat (first | refine blk_drewN ?_ _ | refine blk_drew ?_ | refine blk_alloc ?_ _)); refine blk_far ?_ NB357_369.out _; (with_reducible repeat (first | refine blk_drewN ?_ _ | refine blk_drew ?_ | refine blk_alloc ?_ _)); refine blk_far ?_ NB357_369.out _; (with_reducible repeat (first | refine blk_drewN ?_ _ | refine blk_drew ?_ | refine blk_alloc ?_ _)); refine blk_far ?_ NB357_369.out _; (with_reducible repeat (first | refine blk_drewN ?_ _ | refine blk_drew ?_ | refine blk_alloc ?_ _)); refine blk_far ?_ NB357_369.out _; (with_reducible repeat (first | refine blk_drewN ?_ _ | refine blk_drew ?_ | refine blk_alloc ?_ _)); refine blk_far ?_ NB357_369.out _; (with_reducible repeat (first | refine blk_drewN ?_ _ | refine blk_drew ?_ | refine blk_alloc ?_ _)); exact BK357.out⟩, ⟨by (with_reducible repeat (first | refine blk_drewN ?_ _ | refine blk_drew ?_ | refine blk_alloc ?_ _)); refine blk_far ?_ NB358_369.out _; (with_reducible repeat (first | refine blk_drewN ?_ _ | refine blk_drew ?_ | refine blk_alloc ?_ _)); refine blk_far ?_ NB358_369.out _; (with_reducible repeat (first | refine blk_drewN ?_ _ | refine blk_drew ?_ | refine blk_alloc ?_ _)); refine blk_far ?_ NB358_369.out _; (with_reducible repeat (first | refine blk_drewN ?_ _ | refine blk_drew ?_ | refine blk_alloc ?_ _)); refine blk_far ?_ NB358_369.out _; (with_reducible repeat (first | refine blk_drewN ?_ _ | refine blk_drew ?_ | refine blk_alloc ?_ _)); refine blk_far ?_ NB358_369.out _; (with_reducible repeat (first | refine blk_drewN ?_ _ | refine blk_drew ?_ | refine blk_alloc ?_ _)); refine blk_far ?_ NB358_369.out _; (with_reducible repeat (first | refine blk_drewN ?_ _ | refine blk_drew ?_ | refine blk_alloc ?_ _)); refine blk_far ?_ NB358_369.out _; (with_reducible repeat (first | refine blk_drewN ?_ _ | refine blk_drew ?_ | refine blk_alloc ?_ _)); refine blk_far ?_ NB358_369.out _; (with_reducible repeat (first | refine blk_drewN ?_ _ | refine blk_drew ?_ | refine blk_alloc ?_ _)); refine blk_far ?_ NB358_369.out _; (with_reducible repeat (first | refine blk_drewN ?_ _ | refine blk_drew ?_ | refine blk_alloc ?_ _)); exact BK358.out⟩, ⟨by (with_reducible repeat (first | refine blk_drewN ?_ _ | refine blk_drew ?_ | refine blk_alloc ?_ _)); refine blk_put (cs := #[.int .i64 t361, .int .i64 t362, .int .i64 t363, .bool t364, .string t365, .int .i64 t366, .int .i64 t367, .int .i64 t368]) ?_ 7 _ rfl; (with_reducible repeat (first | refine blk_drewN ?_ _ | refine blk_drew ?_ | refine blk_alloc ?_ _)); refine blk_put (cs := #[.int .i64 t361, .int .i64 t362, .int .i64 t363, .bool t364, .string t365, .int .i64 t366, .int .i64 t367, .int .i64 0]) ?_ 7 _ rfl; (with_reducible repeat (first | refine blk_drewN ?_ _ | refine blk_drew ?_ | refine blk_alloc ?_ _)); refine blk_put (cs := #[.int .i64 t361, .int .i64 t362, .int .i64 t363, .bool t364, .string t365, .int .i64 t366, .int .i64 0, .int .i64 0]) ?_ 6 _ rfl; (with_reducible repeat (first | refine blk_drewN ?_ _ | refine blk_drew ?_ | refine blk_alloc ?_ _)); refine blk_put (cs := #[.int .i64 t361, .int .i64 t362, .int .i64 t363, .bool t364, .string t365, .int .i64 0, .int .i64 0, .int .i64 0]) ?_ 5 _ rfl; (with_reducible repeat (first | refine blk_drewN ?_ _ | refine blk_drew ?_ | refine blk_alloc ?_ _)); refine blk_put (cs := #[.int .i64 t361, .int .i64 t362, .int .i64 t363, .bool t364, .string (⟨#[]⟩ : ByteArray), .int .i64 0, .int .i64 0, .int .i64 0]) ?_ 4 _ rfl; (with_reducible repeat (first | refine blk_drewN ?_ _ | refine blk_drew ?_ | refine blk_alloc ?_ _)); refine blk_put (cs := #[.int .i64 t361, .int .i64 t362, .int .i64 t363, .bool false, .string (⟨#[]⟩ : ByteArray), .int .i64 0, .int .i64 0, .int .i64 0]) ?_ 3 _ rfl; (with_reducible repeat (first | refine blk_drewN ?_ _ | refine blk_drew ?_ | refine blk_alloc ?_ _)); refine blk_put (cs := #[.int .i64 t361, .int .i64 t362, .int .i64 0, .bool false, .string (⟨#[]⟩ : ByteArray), .int .i64 0, .int .i64 0, .int .i64 0]) ?_ 2 _ rfl; (with_reducible repeat (first | refine blk_drewN ?_ _ | refine blk_drew ?_ | refine blk_alloc ?_ _)); refine blk_put (cs := #[.int .i64 t361, .int .i64 0, .int .i64 0, .bool false, .string (⟨#[]⟩ : ByteArray), .int .i64 0, .int .i64 0, .int .i64 0]) ?_ 1 _ rfl; (with_reducible repeat (first | refine blk_drewN ?_ _ | refine blk_drew ?_ | refine blk_alloc ?_ _)); refine blk_put (cs := #[.int .i64 0, .int .i64 0, .int .i64 0, .bool false, .string (⟨#[]⟩ : ByteArray), .int .i64 0, .int .i64 0, .int .i64 0]) ?_ 0 _ rfl; (with_reducible repeat (first | refine blk_drewN ?_ _ | refine blk_drew ?_ | refine blk_alloc ?_ _)); exact BK369.out⟩, (bl_ HB)⟩)
   case rest =>
    clear HC9
    try clear c1
    try clear c2
    try clear p2
    try clear c4
    try clear c5
    try clear c6
    try clear p6
    try clear c8
    try clear c13
    try clear c15
    try clear c16
    try clear c19
    try clear c20
    try clear c22
    try clear c22b0
    try clear c22b1
    try clear c23
    try clear c24
    try clear c26
    try clear c27
    try clear hcz14_0
    try clear hcz14_1
    try clear hcz14_2
    try clear hcz16_0
    try clear hcz16_1
    try clear hcz16_2
    try clear hcz16_3
    try clear hcz16_4
    try clear hcz16_5
    try clear hcz16_6
    try clear hcz21_0
    try clear hcz21_1
    try clear hcz21_2
    try clear hcz21_3
    try clear hcz21_4
    try clear hcz21_5
    try clear hcz21_6
    try clear hcz21_7
    try clear hcz25_0
    try clear hcz25_1
    try clear hcz25_2
    try clear hcz25_3
    try clear hcz25_4
    try clear hcz25_5
    try clear hcz25_6
    try clear hcz25_7
    try clear hcz28_0
    try clear hcz28_1
    try clear hcz28_2
    try clear hcz28_3
    try clear hcz28_4
    try clear hcz28_5
    try clear hcz28_6
    try clear hcz28_7
    try clear hfz14_0
    try clear hfz14_1
    try clear hfz14_2
    try clear hfz16_0
    try clear hfz16_1
    try clear hfz16_2
    try clear hfz16_3
    try clear hfz16_4
    try clear hfz16_5
    try clear hfz16_6
    try clear hfz21_0
    try clear hfz21_1
    try clear hfz21_2
    try clear hfz21_3
    try clear hfz21_4
    try clear hfz21_5
    try clear hfz21_6
    try clear hfz21_7
    try clear hfz25_0
    try clear hfz25_1
    try clear hfz25_2
    try clear hfz25_3
    try clear hfz25_4
    try clear hfz25_5
    try clear hfz25_6
    try clear hfz25_7
    try clear hfz28_0
    try clear hfz28_1
    try clear hfz28_2
    try clear hfz28_3
    try clear hfz28_4
    try clear hfz28_5
    try clear hfz28_6
    try clear hfz28_7
    obtain ⟨kq, x31_8, rfl, HA, HJ8, BK357, BK358, BK369, HB⟩ := hcut
    cases kq with
    | zero => exact absurd HA.out (by simp [florinlaw04_ShowMore.j0])
    | succ kj8 =>
     have H := HA.out
     clear HA
     simp only [florinlaw04_ShowMore.j0] at H
     by_cases c29 : x31_8 = true
     ·subst c29
      have H1 : (some true) = some r := by rw [if_pos rfl] at H; exact H
      clear H
      have H := H1
      clear H1
      obtain rfl := Option.some.inj H
      go_wp2
      go_ret
      exact ⟨by first | rfl | (simp [errW_none, errW_some] <;> rfl) | (simp only [← hji8]; first | rfl | (simp [errW_none, errW_some] <;> rfl)) | (simp [*, errW_none, errW_some] <;> first | rfl | exact given_isEmpty _ | exact (given_isEmpty _).symm), by repeat (first | (with_reducible first | exact HB.out | apply below_alloc | apply pw_below_drewN | apply below_drew1 | refine below_set ?_ GE357.out | refine below_set ?_ GE358.out | refine below_set ?_ GE369.out) | exact HB.out)⟩
     ·replace c29 := Bool.eq_false_iff.mpr c29
      subst c29
      have H1 : ((florinlaw02_Raw_Make.f kj8 a0_0 l0_1 a0_2).bind fun bt371 => ((show_Prec_Apply.f kj8 t361 t362 t363 t364 t365 t366 t367 ji8 bt371.1 bt371.2.1 bt371.2.2).bind fun bt374 => ((florinlaw02_Raw_Make.f kj8 a0_0 l0_1 a0_2).bind fun bt379 => ((show_Prec_Apply.f kj8 t361 (wrap64 (t362 + 1)) t363 t364 t365 t366 t367 ji8 bt379.1 bt379.2.1 bt379.2.2).bind fun bt382 => (if bt374.2.2.2 = 0 then (if bt382.2.2.2 = 0 then (if (bt382.1 == bt374.1) = true then (if bt382.2.1.toList = bt374.2.1.toList then (if bt382.2.2.1.toList = bt374.2.2.1.toList then (florinlaw04_ShowMore.j1 kj8 true) else (if bt374.2.2.1.size + 1 ≤ 9223372036854775807 then (florinlaw04_ShowMore.j1 kj8 (bt382.2.2.1.toList == (bt374.2.2.1 ++ (⟨#[48]⟩ : ByteArray)).toList)) else (none))) else (florinlaw04_ShowMore.j1 kj8 false)) else (florinlaw04_ShowMore.j1 kj8 false)) else (florinlaw04_ShowMore.j1 kj8 false)) else (florinlaw04_ShowMore.j1 kj8 false)))))) = some r := by rw [if_neg (show ¬ (false = true) by decide)] at H; exact H
      clear H
      have H := H1
      clear H1
      replace H := Option.bind_eq_some_iff.mp H
      obtain ⟨⟨t371, t372, t373⟩, A300, H⟩ := H
      replace H : ((show_Prec_Apply.f kj8 t361 t362 t363 t364 t365 t366 t367 ji8 t371 t372 t373).bind fun bt374 => ((florinlaw02_Raw_Make.f kj8 a0_0 l0_1 a0_2).bind fun bt379 => ((show_Prec_Apply.f kj8 t361 (wrap64 (t362 + 1)) t363 t364 t365 t366 t367 ji8 bt379.1 bt379.2.1 bt379.2.2).bind fun bt382 => (if bt374.2.2.2 = 0 then (if bt382.2.2.2 = 0 then (if (bt382.1 == bt374.1) = true then (if bt382.2.1.toList = bt374.2.1.toList then (if bt382.2.2.1.toList = bt374.2.2.1.toList then (florinlaw04_ShowMore.j1 kj8 true) else (if bt374.2.2.1.size + 1 ≤ 9223372036854775807 then (florinlaw04_ShowMore.j1 kj8 (bt382.2.2.1.toList == (bt374.2.2.1 ++ (⟨#[48]⟩ : ByteArray)).toList)) else (none))) else (florinlaw04_ShowMore.j1 kj8 false)) else (florinlaw04_ShowMore.j1 kj8 false)) else (florinlaw04_ShowMore.j1 kj8 false)) else (florinlaw04_ShowMore.j1 kj8 false))))) = some r := H
      have A30 := Aside0.mk A300
      clear A300
      replace H := Option.bind_eq_some_iff.mp H
      obtain ⟨⟨t374, t375, t376, t377⟩, A310, H⟩ := H
      replace H : ((florinlaw02_Raw_Make.f kj8 a0_0 l0_1 a0_2).bind fun bt379 => ((show_Prec_Apply.f kj8 t361 (wrap64 (t362 + 1)) t363 t364 t365 t366 t367 ji8 bt379.1 bt379.2.1 bt379.2.2).bind fun bt382 => (if t377 = 0 then (if bt382.2.2.2 = 0 then (if (bt382.1 == t374) = true then (if bt382.2.1.toList = t375.toList then (if bt382.2.2.1.toList = t376.toList then (florinlaw04_ShowMore.j1 kj8 true) else (if t376.size + 1 ≤ 9223372036854775807 then (florinlaw04_ShowMore.j1 kj8 (bt382.2.2.1.toList == (t376 ++ (⟨#[48]⟩ : ByteArray)).toList)) else (none))) else (florinlaw04_ShowMore.j1 kj8 false)) else (florinlaw04_ShowMore.j1 kj8 false)) else (florinlaw04_ShowMore.j1 kj8 false)) else (florinlaw04_ShowMore.j1 kj8 false)))) = some r := H
      have A31 := Aside0.mk A310
      clear A310
      replace H := Option.bind_eq_some_iff.mp H
      obtain ⟨⟨t379, t380, t381⟩, A320, H⟩ := H
      replace H : ((show_Prec_Apply.f kj8 t361 (wrap64 (t362 + 1)) t363 t364 t365 t366 t367 ji8 t379 t380 t381).bind fun bt382 => (if t377 = 0 then (if bt382.2.2.2 = 0 then (if (bt382.1 == t374) = true then (if bt382.2.1.toList = t375.toList then (if bt382.2.2.1.toList = t376.toList then (florinlaw04_ShowMore.j1 kj8 true) else (if t376.size + 1 ≤ 9223372036854775807 then (florinlaw04_ShowMore.j1 kj8 (bt382.2.2.1.toList == (t376 ++ (⟨#[48]⟩ : ByteArray)).toList)) else (none))) else (florinlaw04_ShowMore.j1 kj8 false)) else (florinlaw04_ShowMore.j1 kj8 false)) else (florinlaw04_ShowMore.j1 kj8 false)) else (florinlaw04_ShowMore.j1 kj8 false))) = some r := H
      have A32 := Aside0.mk A320
      clear A320
      replace H := Option.bind_eq_some_iff.mp H
      obtain ⟨⟨t382, t383, t384, t385⟩, A330, H⟩ := H
      replace H : (if t377 = 0 then (if t385 = 0 then (if (t382 == t374) = true then (if t383.toList = t375.toList then (if t384.toList = t376.toList then (florinlaw04_ShowMore.j1 kj8 true) else (if t376.size + 1 ≤ 9223372036854775807 then (florinlaw04_ShowMore.j1 kj8 (t384.toList == (t376 ++ (⟨#[48]⟩ : ByteArray)).toList)) else (none))) else (florinlaw04_ShowMore.j1 kj8 false)) else (florinlaw04_ShowMore.j1 kj8 false)) else (florinlaw04_ShowMore.j1 kj8 false)) else (florinlaw04_ShowMore.j1 kj8 false)) = some r := H
      have A33 := Aside0.mk A330
      clear A330
      have HC34 := Aside0.mk H
      clear H
      have hnb35 := NB369_357.out
      have hnc35 := NB357_369.out
      have hnb36 := NB369_358.out
      have hnc36 := NB358_369.out
      obtain ⟨hcz37_0, hcz37_1, hcz37_2, hcz37_3, hcz37_4, hcz37_5, hcz37_6, hcz37_7, hfz37_0, hfz37_1, hfz37_2, hfz37_3, hfz37_4, hfz37_5, hfz37_6, hfz37_7⟩ := bo8_ BK369
      try go_wp2_with (first | ((with_reducible refine gate_dst (N := 6) rfl ?_); refine be_ 6 #[.int .i64 0, .int .i64 0, .int .i64 0, .bool false, .string (⟨#[]⟩ : ByteArray), .int .i64 0, .int .i64 0, .int .i64 0] 32 ?_; intro gb370 hg w38 hbox hb; have BK370 := Aside0.mk (hbox); have GW370 := sz_ HB hg; have GE370 := sz_ HB hg; have NB357_370 := na_ BK357 hg; have NB370_357 := nb_ BK357 hg; have NB358_370 := na_ BK358 hg; have NB370_358 := nb_ BK358 hg; have NB369_370 := na_ BK369 hg; have NB370_369 := nb_ BK369 hg; replace BK357 := bb_ BK357 hb; replace BK358 := bb_ BK358 hb; replace BK369 := bb_ BK369 hb; replace HB := Aside0.mk (below_step (bl_ HB).out hb); clear hb hbox hg; have hnb39 := NB370_357.out; have hnc39 := NB357_370.out; have hnb40 := NB370_358.out; have hnc40 := NB358_370.out; have hnb41 := NB370_369.out; have hnc41 := NB369_370.out; obtain ⟨hcz42_0, hcz42_1, hcz42_2, hcz42_3, hcz42_4, hcz42_5, hcz42_6, hcz42_7, hfz42_0, hfz42_1, hfz42_2, hfz42_3, hfz42_4, hfz42_5, hfz42_6, hfz42_7⟩ := bo8_ BK370))
      have n0_ : Aside0 ((((((((((w38.setCell ⟨gb370, 0, none⟩ (.int .i64 t361)).setCell ⟨gb370, 1, none⟩ (.int .i64 t362)).setCell ⟨gb370, 2, none⟩ (.int .i64 t363)).setCell ⟨gb370, 3, none⟩ (.bool t364)).setCell ⟨gb370, 4, none⟩ (.string t365)).setCell ⟨gb370, 5, none⟩ (.int .i64 t366)).setCell ⟨gb370, 6, none⟩ (.int .i64 t367)).setCell ⟨gb370, 7, none⟩ (.int .i64 ji8)).setCell ⟨gb370, 1, none⟩ (.int .i64 (wrap64 (t362 + 1)))).heap[gb357]? = _) := bf_ BK357
      have n1_ : Aside0 ((((((((((w38.setCell ⟨gb370, 0, none⟩ (.int .i64 t361)).setCell ⟨gb370, 1, none⟩ (.int .i64 t362)).setCell ⟨gb370, 2, none⟩ (.int .i64 t363)).setCell ⟨gb370, 3, none⟩ (.bool t364)).setCell ⟨gb370, 4, none⟩ (.string t365)).setCell ⟨gb370, 5, none⟩ (.int .i64 t366)).setCell ⟨gb370, 6, none⟩ (.int .i64 t367)).setCell ⟨gb370, 7, none⟩ (.int .i64 ji8)).setCell ⟨gb370, 1, none⟩ (.int .i64 (wrap64 (t362 + 1)))).heap[gb358]? = _) := bf_ BK358
      have n2_ : Aside0 ((((((((((w38.setCell ⟨gb370, 0, none⟩ (.int .i64 t361)).setCell ⟨gb370, 1, none⟩ (.int .i64 t362)).setCell ⟨gb370, 2, none⟩ (.int .i64 t363)).setCell ⟨gb370, 3, none⟩ (.bool t364)).setCell ⟨gb370, 4, none⟩ (.string t365)).setCell ⟨gb370, 5, none⟩ (.int .i64 t366)).setCell ⟨gb370, 6, none⟩ (.int .i64 t367)).setCell ⟨gb370, 7, none⟩ (.int .i64 ji8)).setCell ⟨gb370, 1, none⟩ (.int .i64 (wrap64 (t362 + 1)))).heap[gb369]? = _) := bf_ BK369
      have n3_ : Aside0 ((((((((((w38.setCell ⟨gb370, 0, none⟩ (.int .i64 t361)).setCell ⟨gb370, 1, none⟩ (.int .i64 t362)).setCell ⟨gb370, 2, none⟩ (.int .i64 t363)).setCell ⟨gb370, 3, none⟩ (.bool t364)).setCell ⟨gb370, 4, none⟩ (.string t365)).setCell ⟨gb370, 5, none⟩ (.int .i64 t366)).setCell ⟨gb370, 6, none⟩ (.int .i64 t367)).setCell ⟨gb370, 7, none⟩ (.int .i64 ji8)).setCell ⟨gb370, 1, none⟩ (.int .i64 (wrap64 (t362 + 1)))).heap[gb370]? = some (.cells #[.int .i64 t361, .int .i64 (wrap64 (t362 + 1)), .int .i64 t363, .bool t364, .string t365, .int .i64 t366, .int .i64 t367, .int .i64 ji8] 32 (0, 0))) := ⟨by (with_reducible repeat (first | refine blk_drewN ?_ _ | refine blk_drew ?_ | refine blk_alloc ?_ _)); refine blk_put (cs := #[.int .i64 t361, .int .i64 t362, .int .i64 t363, .bool t364, .string t365, .int .i64 t366, .int .i64 t367, .int .i64 ji8]) ?_ 1 _ rfl; (with_reducible repeat (first | refine blk_drewN ?_ _ | refine blk_drew ?_ | refine blk_alloc ?_ _)); refine blk_put (cs := #[.int .i64 t361, .int .i64 t362, .int .i64 t363, .bool t364, .string t365, .int .i64 t366, .int .i64 t367, .int .i64 0]) ?_ 7 _ rfl; (with_reducible repeat (first | refine blk_drewN ?_ _ | refine blk_drew ?_ | refine blk_alloc ?_ _)); refine blk_put (cs := #[.int .i64 t361, .int .i64 t362, .int .i64 t363, .bool t364, .string t365, .int .i64 t366, .int .i64 0, .int .i64 0]) ?_ 6 _ rfl; (with_reducible repeat (first | refine blk_drewN ?_ _ | refine blk_drew ?_ | refine blk_alloc ?_ _)); refine blk_put (cs := #[.int .i64 t361, .int .i64 t362, .int .i64 t363, .bool t364, .string t365, .int .i64 0, .int .i64 0, .int .i64 0]) ?_ 5 _ rfl; (with_reducible repeat (first | refine blk_drewN ?_ _ | refine blk_drew ?_ | refine blk_alloc ?_ _)); refine blk_put (cs := #[.int .i64 t361, .int .i64 t362, .int .i64 t363, .bool t364, .string (⟨#[]⟩ : ByteArray), .int .i64 0, .int .i64 0, .int .i64 0]) ?_ 4 _ rfl; (with_reducible repeat (first | refine blk_drewN ?_ _ | refine blk_drew ?_ | refine blk_alloc ?_ _)); refine blk_put (cs := #[.int .i64 t361, .int .i64 t362, .int .i64 t363, .bool false, .string (⟨#[]⟩ : ByteArray), .int .i64 0, .int .i64 0, .int .i64 0]) ?_ 3 _ rfl; (with_reducible repeat (first | refine blk_drewN ?_ _ | refine blk_drew ?_ | refine blk_alloc ?_ _)); refine blk_put (cs := #[.int .i64 t361, .int .i64 t362, .int .i64 0, .bool false, .string (⟨#[]⟩ : ByteArray), .int .i64 0, .int .i64 0, .int .i64 0]) ?_ 2 _ rfl; (with_reducible repeat (first | refine blk_drewN ?_ _ | refine blk_drew ?_ | refine blk_alloc ?_ _)); refine blk_put (cs := #[.int .i64 t361, .int .i64 0, .int .i64 0, .bool false, .string (⟨#[]⟩ : ByteArray), .int .i64 0, .int .i64 0, .int .i64 0]) ?_ 1 _ rfl; (with_reducible repeat (first | refine blk_drewN ?_ _ | refine blk_drew ?_ | refine blk_alloc ?_ _)); refine blk_put (cs := #[.int .i64 0, .int .i64 0, .int .i64 0, .bool false, .string (⟨#[]⟩ : ByteArray), .int .i64 0, .int .i64 0, .int .i64 0]) ?_ 0 _ rfl; (with_reducible repeat (first | refine blk_drewN ?_ _ | refine blk_drew ?_ | refine blk_alloc ?_ _)); exact BK370.out⟩
      have n4_ : Aside0 (Below w.heap.size w (((((((((w38.setCell ⟨gb370, 0, none⟩ (.int .i64 t361)).setCell ⟨gb370, 1, none⟩ (.int .i64 t362)).setCell ⟨gb370, 2, none⟩ (.int .i64 t363)).setCell ⟨gb370, 3, none⟩ (.bool t364)).setCell ⟨gb370, 4, none⟩ (.string t365)).setCell ⟨gb370, 5, none⟩ (.int .i64 t366)).setCell ⟨gb370, 6, none⟩ (.int .i64 t367)).setCell ⟨gb370, 7, none⟩ (.int .i64 ji8)).setCell ⟨gb370, 1, none⟩ (.int .i64 (wrap64 (t362 + 1))))) := (bl_ HB)
      (try clear BK357)
      (try clear BK358)
      (try clear BK369)
      (try clear BK370)
      (try clear HB)
      generalize (((((((((w38.setCell ⟨gb370, 0, none⟩ (.int .i64 t361)).setCell ⟨gb370, 1, none⟩ (.int .i64 t362)).setCell ⟨gb370, 2, none⟩ (.int .i64 t363)).setCell ⟨gb370, 3, none⟩ (.bool t364)).setCell ⟨gb370, 4, none⟩ (.string t365)).setCell ⟨gb370, 5, none⟩ (.int .i64 t366)).setCell ⟨gb370, 6, none⟩ (.int .i64 t367)).setCell ⟨gb370, 7, none⟩ (.int .i64 ji8)).setCell ⟨gb370, 1, none⟩ (.int .i64 (wrap64 (t362 + 1)))) = w43 at n0_ n1_ n2_ n3_ n4_ ⊢
      have BK357 := n0_
      have BK358 := n1_
      have BK369 := n2_
      have BK370 := n3_
      have HB := n4_
      clear n0_ n1_ n2_ n3_ n4_
      replace BK357 := Aside0.mk (blk_drew BK357.out)
      replace BK358 := Aside0.mk (blk_drew BK358.out)
      replace BK369 := Aside0.mk (blk_drew BK369.out)
      replace BK370 := Aside0.mk (blk_drew BK370.out)
      replace HB := Aside0.mk (below_drew1 HB.out)
      refine start_ (n := 10) (S := fun w' => w'.cell? ⟨gb369, 0, none⟩ = some (.int .i64 t361) ∧ w'.cell? ⟨gb369, 1, none⟩ = some (.int .i64 t362) ∧ w'.cell? ⟨gb369, 2, none⟩ = some (.int .i64 t363) ∧ w'.cell? ⟨gb369, 3, none⟩ = some (.bool t364) ∧ w'.cell? ⟨gb369, 4, none⟩ = some (.string t365) ∧ w'.cell? ⟨gb369, 5, none⟩ = some (.int .i64 t366) ∧ w'.cell? ⟨gb369, 6, none⟩ = some (.int .i64 t367) ∧ w'.cell? ⟨gb369, 7, none⟩ = some (.int .i64 ji8) ∧ w'.cell? ⟨gb357, 0, none⟩ = some (.bool a0_0) ∧ w'.cell? ⟨gb357, 1, none⟩ = some (.slice A0_1 l0_1.length c0_1) ∧ w'.cell? ⟨gb357, 2, none⟩ = some (.int .i64 a0_2)) (ds := []) #[false, false, false, false, false, false, false, false, false, false] (by kernel_rfl) rfl rfl ⟨bc_ BK369 0, bc_ BK369 1, bc_ BK369 2, bc_ BK369 3, bc_ BK369 4, bc_ BK369 5, bc_ BK369 6, bc_ BK369 7, bc_ BK357 0, bc_ BK357 1, bc_ BK357 2⟩ (fun hHeld => ?_); refine with_tabW florinlaw04_ShowMore.tab11 florinlaw04_ShowMore.bits11 (fun HT_ HW_ => ?_)
      generalize w43.drew = w44 at BK357 BK358 BK369 BK370 HB hHeld ⊢
      refine tk_ 0 38 (bm_ 10 1) HT_ HW_ hHeld rfl (by rintro w' ⟨s0, s1, s2, s3, s4, s5, s6, s7, s8, s9, s10⟩; go_simp; with_reducible rfl) ?_
      refine tk_ 1 39 (bm_ 10 3) HT_ HW_ hHeld rfl (by rintro w' ⟨s0, s1, s2, s3, s4, s5, s6, s7, s8, s9, s10⟩; go_simp; with_reducible rfl) ?_
      refine join_ (σ := Nat) 2 #[true, true, true, true, true, true, true, true, false, false] (fun s_ => [(40, .agg #[.bool t371, .string t372, .int .i64 t373]), (41, .tuple #[.agg #[.bool t374, .string t375, .string t376], .int .i64 t377]), (7, .pointer (some ⟨s_, 0, none⟩)), (37, .tuple #[.agg #[.bool t374, .string t375, .string t376], .int .i64 t377]), (42, .agg #[.bool t374, .string t375, .string t376]), (43, .int .i64 t377)]) (fun s_ w' => (w'.cell? ⟨gb369, 0, none⟩ = some (.int .i64 t361) ∧ w'.cell? ⟨gb369, 1, none⟩ = some (.int .i64 t362) ∧ w'.cell? ⟨gb369, 2, none⟩ = some (.int .i64 t363) ∧ w'.cell? ⟨gb369, 3, none⟩ = some (.bool t364) ∧ w'.cell? ⟨gb369, 4, none⟩ = some (.string t365) ∧ w'.cell? ⟨gb369, 5, none⟩ = some (.int .i64 t366) ∧ w'.cell? ⟨gb369, 6, none⟩ = some (.int .i64 t367) ∧ w'.cell? ⟨gb369, 7, none⟩ = some (.int .i64 ji8) ∧ w'.cell? ⟨gb357, 0, none⟩ = some (.bool a0_0) ∧ w'.cell? ⟨gb357, 1, none⟩ = some (.slice A0_1 l0_1.length c0_1) ∧ w'.cell? ⟨gb357, 2, none⟩ = some (.int .i64 a0_2)) ∧ (w'.heap[gb357]? = some (.cells #[.bool a0_0, .slice A0_1 l0_1.length c0_1, .int .i64 a0_2] 24 (0, 0))) ∧ (w'.heap[gb358]? = some (.cells #[.int .i64 a1_0, .int .i64 a1_1, .int .i64 a1_2, .int .i64 a1_3, .int .i64 a1_4, .int .i64 a1_5, .int .i64 a1_6] 42 (0, 0))) ∧ (w'.heap[gb369]? = some (.cells #[.int .i64 t361, .int .i64 t362, .int .i64 t363, .bool t364, .string t365, .int .i64 t366, .int .i64 t367, .int .i64 ji8] 32 (0, 0))) ∧ (w'.heap[gb370]? = some (.cells #[.int .i64 t361, .int .i64 (wrap64 (t362 + 1)), .int .i64 t363, .bool t364, .string t365, .int .i64 t366, .int .i64 t367, .int .i64 ji8] 32 (0, 0))) ∧ (w'.heap[s_]? = some (.cells #[.bool false, .string (⟨#[]⟩ : ByteArray), .string (⟨#[]⟩ : ByteArray)] 35 (0, 0))) ∧ (w.heap.size ≤ s_) ∧ (w.heap.size ≤ s_) ∧ (gb357 ≠ s_) ∧ (s_ ≠ gb357) ∧ (gb358 ≠ s_) ∧ (s_ ≠ gb358) ∧ (gb369 ≠ s_) ∧ (s_ ≠ gb369) ∧ (gb370 ≠ s_) ∧ (s_ ≠ gb370) ∧ (Below w.heap.size w w')) ?_ ?_
      rotate_left
      ·intro hCont
       refine two_ (i := 2) (j := 7) (Ni := some 40) (Nj := some 7) #[true, true, true, false, false, false, false, false, false, false] #[true, true, false, false, false, false, false, true, false, false] rfl rfl rfl rfl (two_of HT_.out (by kernel_rfl)) (by decide) (by decide) (fun K hK => ?_) (fun K hK => ?_)
       ·skip
        refine gs_ Tryd.func9 #[.agg #[.bool a0_0, .slice A0_1 l0_1.length c0_1, .int .i64 a0_2]] ?_
        with_reducible refine (florinlaw02_Raw_Make.calls kj8 a0_0 _ _ l0_1 a0_2 t371 t372 t373 _ ?side1 ?side2 A30.out).mono ?_
        (case side1 => repeat (first | exact (Kd.C_below HR0_1.out HB.out) | (with_reducible refine Kd.C_alloc ?_ _) | (with_reducible refine Kd.C_drewN ?_ _) | (with_reducible refine Kd.C_drew ?_)))
        (case side2 => exact HC0_1.out)
        rintro e w45 ⟨rfl, hb⟩
        refine ⟨_, rfl, ?_⟩
        replace BK357 := bb_ BK357 hb
        replace BK358 := bb_ BK358 hb
        replace BK369 := bb_ BK369 hb
        replace BK370 := bb_ BK370 hb
        replace HB := Aside0.mk (below_step (bl_ HB).out hb)
        (try clear hb)
        (try clear hb2)
        (try clear hk)
        (try clear hi)
        refine hK.out _ _ ⟨bc_ BK369 0, bc_ BK369 1, bc_ BK369 2, bc_ BK369 3, bc_ BK369 4, bc_ BK369 5, bc_ BK369 6, bc_ BK369 7, bc_ BK357 0, bc_ BK357 1, bc_ BK357 2⟩ (fun hHeld => ?_)
        clear hK K
        refine nm_ 40 ?_
        refine two_ (i := 3) (j := 7) (Ni := some 41) (Nj := some 7) #[true, true, true, true, false, false, false, false, false, false] #[true, true, true, false, false, false, false, true, false, false] rfl rfl rfl rfl (two_of HT_.out (by kernel_rfl)) (by decide) (by decide) (fun K hK => ?_) (fun K hK => ?_)
        ·skip
         refine goes_ Tryd.func13 (by kernel_rfl) rfl #[.agg #[.int .i64 t361, .int .i64 t362, .int .i64 t363, .bool t364, .string t365, .int .i64 t366, .int .i64 t367, .int .i64 ji8], .agg #[.bool t371, .string t372, .int .i64 t373]] (by rfl) rfl rfl (by (try simp only [List.map_toArray, List.map_cons, List.map_nil]); first | done | (simp only [hji8]; rfl) | rfl | (simp only [List.length_drop, List.length_take]; rfl) | (have z_ : ∀ s_ : ByteArray, s_.size ≤ 9223372036854775807 → -(s_.size : Int) = wrap64 (-(s_.size : Int)) := (fun s_ h_ => by unfold wrap64; omega); rw [← z_ _ (by omega)]; rfl) | (simp only [ByteArray.size_append]; rfl)) ?_
         with_reducible refine (show_Prec_Apply.calls kj8 t361 t362 t363 t364 t365 t366 t367 ji8 t371 t372 t373 t374 t375 t376 t377 _ A31.out).mono ?_
         rintro e w46 ⟨rfl, hb⟩
         refine ⟨_, rfl, ?_⟩
         replace BK357 := bb_ BK357 hb
         replace BK358 := bb_ BK358 hb
         replace BK369 := bb_ BK369 hb
         replace BK370 := bb_ BK370 hb
         replace HB := Aside0.mk (below_step (bl_ HB).out hb)
         (try clear hb)
         (try clear hb2)
         (try clear hk)
         (try clear hi)
         refine hK.out _ _ ⟨bc_ BK369 0, bc_ BK369 1, bc_ BK369 2, bc_ BK369 3, bc_ BK369 4, bc_ BK369 5, bc_ BK369 6, bc_ BK369 7, bc_ BK357 0, bc_ BK357 1, bc_ BK357 2⟩ (fun hHeld => ?_)
         clear hK K
         refine nm_ 41 ?_
         refine pu_ 4 37 (bm_ 10 31) HT_ ?_
         refine pu_ 5 42 (bm_ 10 63) HT_ ?_
         refine pu_ 6 43 (bm_ 10 127) HT_ ?_
         refine one_ (i := 7) (N := some 7) (bm_ 10 255) rfl rfl (one_of HT_.out (by kernel_rfl)) (by decide) (fun K hK => ?_)
         refine box_step ?hg (N := 7) ?hd (cs := #[.bool false, .string (⟨#[]⟩ : ByteArray), .string (⟨#[]⟩ : ByteArray)]) (t := 35) ?hr ?_; (case hd => rfl); (case hg => rfl); (case hr => first | (go_simp; done) | (go_simp; rfl))
         intro gb378 hg w47 hbox hb
         have n0_ := bb_ BK357 hb
         have n1_ := bb_ BK358 hb
         have n2_ := bb_ BK369 hb
         have n3_ := bb_ BK370 hb
         have n4_ := Aside0.mk (below_step (bl_ HB).out hb)
         have n5_ := Aside0.mk (hbox)
         have n6_ := sz_ HB hg
         have n7_ := sz_ HB hg
         have n8_ := na_ BK357 hg
         have n9_ := nb_ BK357 hg
         have n10_ := na_ BK358 hg
         have n11_ := nb_ BK358 hg
         have n12_ := na_ BK369 hg
         have n13_ := nb_ BK369 hg
         have n14_ := na_ BK370 hg
         have n15_ := nb_ BK370 hg
         clear BK357
         clear BK358
         clear BK369
         clear BK370
         clear HB
         have BK357 := n0_
         have BK358 := n1_
         have BK369 := n2_
         have BK370 := n3_
         have HB := n4_
         have BK378 := n5_
         have GW378 := n6_
         have GE378 := n7_
         have NB357_378 := n8_
         have NB378_357 := n9_
         have NB358_378 := n10_
         have NB378_358 := n11_
         have NB369_378 := n12_
         have NB378_369 := n13_
         have NB370_378 := n14_
         have NB378_370 := n15_
         clear n0_ n1_ n2_ n3_ n4_ n5_ n6_ n7_ n8_ n9_ n10_ n11_ n12_ n13_ n14_ n15_
         clear hb hbox hg
         refine hK.out _ _ ⟨bc_ BK369 0, bc_ BK369 1, bc_ BK369 2, bc_ BK369 3, bc_ BK369 4, bc_ BK369 5, bc_ BK369 6, bc_ BK369 7, bc_ BK357 0, bc_ BK357 1, bc_ BK357 2⟩ (fun hHeld => ?_)
         clear hK K
         refine nm_ 7 ?_
         exact norm_ (by simp only [putAll, Act.put, List.setIfInBounds_toArray, List.set_cons_zero, List.set_cons_succ]) (hCont (gb378) _ ⟨hHeld, (by (with_reducible repeat (first | refine blk_drewN ?_ _ | refine blk_drew ?_ | refine blk_alloc ?_ _)); exact BK357.out), (by (with_reducible repeat (first | refine blk_drewN ?_ _ | refine blk_drew ?_ | refine blk_alloc ?_ _)); exact BK358.out), (by (with_reducible repeat (first | refine blk_drewN ?_ _ | refine blk_drew ?_ | refine blk_alloc ?_ _)); exact BK369.out), (by (with_reducible repeat (first | refine blk_drewN ?_ _ | refine blk_drew ?_ | refine blk_alloc ?_ _)); exact BK370.out), (by (with_reducible repeat (first | refine blk_drewN ?_ _ | refine blk_drew ?_ | refine blk_alloc ?_ _)); exact BK378.out), GW378.out, GE378.out, NB357_378.out, NB378_357.out, NB358_378.out, NB378_358.out, NB369_378.out, NB378_369.out, NB370_378.out, NB378_370.out, (bl_ HB).out⟩)
        ·skip
         refine box_step ?hg (N := 7) ?hd (cs := #[.bool false, .string (⟨#[]⟩ : ByteArray), .string (⟨#[]⟩ : ByteArray)]) (t := 35) ?hr ?_; (case hd => rfl); (case hg => rfl); (case hr => first | (go_simp; done) | (go_simp; rfl))
         intro gb378 hg w46 hbox hb
         have n0_ := bb_ BK357 hb
         have n1_ := bb_ BK358 hb
         have n2_ := bb_ BK369 hb
         have n3_ := bb_ BK370 hb
         have n4_ := Aside0.mk (below_step (bl_ HB).out hb)
         have n5_ := Aside0.mk (hbox)
         have n6_ := sz_ HB hg
         have n7_ := sz_ HB hg
         have n8_ := na_ BK357 hg
         have n9_ := nb_ BK357 hg
         have n10_ := na_ BK358 hg
         have n11_ := nb_ BK358 hg
         have n12_ := na_ BK369 hg
         have n13_ := nb_ BK369 hg
         have n14_ := na_ BK370 hg
         have n15_ := nb_ BK370 hg
         clear BK357
         clear BK358
         clear BK369
         clear BK370
         clear HB
         have BK357 := n0_
         have BK358 := n1_
         have BK369 := n2_
         have BK370 := n3_
         have HB := n4_
         have BK378 := n5_
         have GW378 := n6_
         have GE378 := n7_
         have NB357_378 := n8_
         have NB378_357 := n9_
         have NB358_378 := n10_
         have NB378_358 := n11_
         have NB369_378 := n12_
         have NB378_369 := n13_
         have NB370_378 := n14_
         have NB378_370 := n15_
         clear n0_ n1_ n2_ n3_ n4_ n5_ n6_ n7_ n8_ n9_ n10_ n11_ n12_ n13_ n14_ n15_
         clear hb hbox hg
         refine hK.out _ _ ⟨bc_ BK369 0, bc_ BK369 1, bc_ BK369 2, bc_ BK369 3, bc_ BK369 4, bc_ BK369 5, bc_ BK369 6, bc_ BK369 7, bc_ BK357 0, bc_ BK357 1, bc_ BK357 2⟩ (fun hHeld => ?_)
         clear hK K
         refine nm_ 7 ?_
         refine one_ (i := 3) (N := some 41) (bm_ 10 143) rfl rfl (one_of HT_.out (by kernel_rfl)) (by decide) (fun K hK => ?_)
         refine goes_ Tryd.func13 (by kernel_rfl) rfl #[.agg #[.int .i64 t361, .int .i64 t362, .int .i64 t363, .bool t364, .string t365, .int .i64 t366, .int .i64 t367, .int .i64 ji8], .agg #[.bool t371, .string t372, .int .i64 t373]] (by rfl) rfl rfl (by (try simp only [List.map_toArray, List.map_cons, List.map_nil]); first | done | (simp only [hji8]; rfl) | rfl | (simp only [List.length_drop, List.length_take]; rfl) | (have z_ : ∀ s_ : ByteArray, s_.size ≤ 9223372036854775807 → -(s_.size : Int) = wrap64 (-(s_.size : Int)) := (fun s_ h_ => by unfold wrap64; omega); rw [← z_ _ (by omega)]; rfl) | (simp only [ByteArray.size_append]; rfl)) ?_
         with_reducible refine (show_Prec_Apply.calls kj8 t361 t362 t363 t364 t365 t366 t367 ji8 t371 t372 t373 t374 t375 t376 t377 _ A31.out).mono ?_
         rintro e w47 ⟨rfl, hb⟩
         refine ⟨_, rfl, ?_⟩
         replace BK357 := bb_ BK357 hb
         replace BK358 := bb_ BK358 hb
         replace BK369 := bb_ BK369 hb
         replace BK370 := bb_ BK370 hb
         replace BK378 := bb_ BK378 hb
         replace HB := Aside0.mk (below_step (bl_ HB).out hb)
         (try clear hb)
         (try clear hb2)
         (try clear hk)
         (try clear hi)
         refine hK.out _ _ ⟨bc_ BK369 0, bc_ BK369 1, bc_ BK369 2, bc_ BK369 3, bc_ BK369 4, bc_ BK369 5, bc_ BK369 6, bc_ BK369 7, bc_ BK357 0, bc_ BK357 1, bc_ BK357 2⟩ (fun hHeld => ?_)
         clear hK K
         refine nm_ 41 ?_
         refine pu_ 4 37 (bm_ 10 159) HT_ ?_
         refine pu_ 5 42 (bm_ 10 191) HT_ ?_
         refine pu_ 6 43 (bm_ 10 255) HT_ ?_
         exact norm_ (by simp only [putAll, Act.put, List.setIfInBounds_toArray, List.set_cons_zero, List.set_cons_succ]) (hCont (gb378) _ ⟨hHeld, (by (with_reducible repeat (first | refine blk_drewN ?_ _ | refine blk_drew ?_ | refine blk_alloc ?_ _)); exact BK357.out), (by (with_reducible repeat (first | refine blk_drewN ?_ _ | refine blk_drew ?_ | refine blk_alloc ?_ _)); exact BK358.out), (by (with_reducible repeat (first | refine blk_drewN ?_ _ | refine blk_drew ?_ | refine blk_alloc ?_ _)); exact BK369.out), (by (with_reducible repeat (first | refine blk_drewN ?_ _ | refine blk_drew ?_ | refine blk_alloc ?_ _)); exact BK370.out), (by (with_reducible repeat (first | refine blk_drewN ?_ _ | refine blk_drew ?_ | refine blk_alloc ?_ _)); exact BK378.out), GW378.out, GE378.out, NB357_378.out, NB378_357.out, NB358_378.out, NB378_358.out, NB369_378.out, NB378_369.out, NB370_378.out, NB378_370.out, (bl_ HB).out⟩)
       ·skip
        refine box_step ?hg (N := 7) ?hd (cs := #[.bool false, .string (⟨#[]⟩ : ByteArray), .string (⟨#[]⟩ : ByteArray)]) (t := 35) ?hr ?_; (case hd => rfl); (case hg => rfl); (case hr => first | (go_simp; done) | (go_simp; rfl))
        intro gb378 hg w45 hbox hb
        have n0_ := bb_ BK357 hb
        have n1_ := bb_ BK358 hb
        have n2_ := bb_ BK369 hb
        have n3_ := bb_ BK370 hb
        have n4_ := Aside0.mk (below_step (bl_ HB).out hb)
        have n5_ := Aside0.mk (hbox)
        have n6_ := sz_ HB hg
        have n7_ := sz_ HB hg
        have n8_ := na_ BK357 hg
        have n9_ := nb_ BK357 hg
        have n10_ := na_ BK358 hg
        have n11_ := nb_ BK358 hg
        have n12_ := na_ BK369 hg
        have n13_ := nb_ BK369 hg
        have n14_ := na_ BK370 hg
        have n15_ := nb_ BK370 hg
        clear BK357
        clear BK358
        clear BK369
        clear BK370
        clear HB
        have BK357 := n0_
        have BK358 := n1_
        have BK369 := n2_
        have BK370 := n3_
        have HB := n4_
        have BK378 := n5_
        have GW378 := n6_
        have GE378 := n7_
        have NB357_378 := n8_
        have NB378_357 := n9_
        have NB358_378 := n10_
        have NB378_358 := n11_
        have NB369_378 := n12_
        have NB378_369 := n13_
        have NB370_378 := n14_
        have NB378_370 := n15_
        clear n0_ n1_ n2_ n3_ n4_ n5_ n6_ n7_ n8_ n9_ n10_ n11_ n12_ n13_ n14_ n15_
        clear hb hbox hg
        refine hK.out _ _ ⟨bc_ BK369 0, bc_ BK369 1, bc_ BK369 2, bc_ BK369 3, bc_ BK369 4, bc_ BK369 5, bc_ BK369 6, bc_ BK369 7, bc_ BK357 0, bc_ BK357 1, bc_ BK357 2⟩ (fun hHeld => ?_)
        clear hK K
        refine nm_ 7 ?_
        refine one_ (i := 2) (N := some 40) (bm_ 10 135) rfl rfl (one_of HT_.out (by kernel_rfl)) (by decide) (fun K hK => ?_)
        refine gs_ Tryd.func9 #[.agg #[.bool a0_0, .slice A0_1 l0_1.length c0_1, .int .i64 a0_2]] ?_
        with_reducible refine (florinlaw02_Raw_Make.calls kj8 a0_0 _ _ l0_1 a0_2 t371 t372 t373 _ ?side1 ?side2 A30.out).mono ?_
        (case side1 => repeat (first | exact (Kd.C_below HR0_1.out HB.out) | (with_reducible refine Kd.C_alloc ?_ _) | (with_reducible refine Kd.C_drewN ?_ _) | (with_reducible refine Kd.C_drew ?_)))
        (case side2 => exact HC0_1.out)
        rintro e w46 ⟨rfl, hb⟩
        refine ⟨_, rfl, ?_⟩
        replace BK357 := bb_ BK357 hb
        replace BK358 := bb_ BK358 hb
        replace BK369 := bb_ BK369 hb
        replace BK370 := bb_ BK370 hb
        replace BK378 := bb_ BK378 hb
        replace HB := Aside0.mk (below_step (bl_ HB).out hb)
        (try clear hb)
        (try clear hb2)
        (try clear hk)
        (try clear hi)
        refine hK.out _ _ ⟨bc_ BK369 0, bc_ BK369 1, bc_ BK369 2, bc_ BK369 3, bc_ BK369 4, bc_ BK369 5, bc_ BK369 6, bc_ BK369 7, bc_ BK357 0, bc_ BK357 1, bc_ BK357 2⟩ (fun hHeld => ?_)
        clear hK K
        refine nm_ 40 ?_
        refine one_ (i := 3) (N := some 41) (bm_ 10 143) rfl rfl (one_of HT_.out (by kernel_rfl)) (by decide) (fun K hK => ?_)
        refine goes_ Tryd.func13 (by kernel_rfl) rfl #[.agg #[.int .i64 t361, .int .i64 t362, .int .i64 t363, .bool t364, .string t365, .int .i64 t366, .int .i64 t367, .int .i64 ji8], .agg #[.bool t371, .string t372, .int .i64 t373]] (by rfl) rfl rfl (by (try simp only [List.map_toArray, List.map_cons, List.map_nil]); first | done | (simp only [hji8]; rfl) | rfl | (simp only [List.length_drop, List.length_take]; rfl) | (have z_ : ∀ s_ : ByteArray, s_.size ≤ 9223372036854775807 → -(s_.size : Int) = wrap64 (-(s_.size : Int)) := (fun s_ h_ => by unfold wrap64; omega); rw [← z_ _ (by omega)]; rfl) | (simp only [ByteArray.size_append]; rfl)) ?_
        with_reducible refine (show_Prec_Apply.calls kj8 t361 t362 t363 t364 t365 t366 t367 ji8 t371 t372 t373 t374 t375 t376 t377 _ A31.out).mono ?_
        rintro e w47 ⟨rfl, hb⟩
        refine ⟨_, rfl, ?_⟩
        replace BK357 := bb_ BK357 hb
        replace BK358 := bb_ BK358 hb
        replace BK369 := bb_ BK369 hb
        replace BK370 := bb_ BK370 hb
        replace BK378 := bb_ BK378 hb
        replace HB := Aside0.mk (below_step (bl_ HB).out hb)
        (try clear hb)
        (try clear hb2)
        (try clear hk)
        (try clear hi)
        refine hK.out _ _ ⟨bc_ BK369 0, bc_ BK369 1, bc_ BK369 2, bc_ BK369 3, bc_ BK369 4, bc_ BK369 5, bc_ BK369 6, bc_ BK369 7, bc_ BK357 0, bc_ BK357 1, bc_ BK357 2⟩ (fun hHeld => ?_)
        clear hK K
        refine nm_ 41 ?_
        refine pu_ 4 37 (bm_ 10 159) HT_ ?_
        refine pu_ 5 42 (bm_ 10 191) HT_ ?_
        refine pu_ 6 43 (bm_ 10 255) HT_ ?_
        exact norm_ (by simp only [putAll, Act.put, List.setIfInBounds_toArray, List.set_cons_zero, List.set_cons_succ]) (hCont (gb378) _ ⟨hHeld, (by (with_reducible repeat (first | refine blk_drewN ?_ _ | refine blk_drew ?_ | refine blk_alloc ?_ _)); exact BK357.out), (by (with_reducible repeat (first | refine blk_drewN ?_ _ | refine blk_drew ?_ | refine blk_alloc ?_ _)); exact BK358.out), (by (with_reducible repeat (first | refine blk_drewN ?_ _ | refine blk_drew ?_ | refine blk_alloc ?_ _)); exact BK369.out), (by (with_reducible repeat (first | refine blk_drewN ?_ _ | refine blk_drew ?_ | refine blk_alloc ?_ _)); exact BK370.out), (by (with_reducible repeat (first | refine blk_drewN ?_ _ | refine blk_drew ?_ | refine blk_alloc ?_ _)); exact BK378.out), GW378.out, GE378.out, NB357_378.out, NB378_357.out, NB358_378.out, NB378_358.out, NB369_378.out, NB378_369.out, NB370_378.out, NB378_370.out, (bl_ HB).out⟩)
      rintro gb378 w48 ⟨hS_, h0_, h1_, h2_, h3_, h4_, h5_, h6_, h7_, h8_, h9_, h10_, h11_, h12_, h13_, h14_, h15_⟩
      have n0_ : Aside0 (w48.heap[gb357]? = some (.cells #[.bool a0_0, .slice A0_1 l0_1.length c0_1, .int .i64 a0_2] 24 (0, 0))) := ⟨h0_⟩
      have n1_ : Aside0 (w48.heap[gb358]? = some (.cells #[.int .i64 a1_0, .int .i64 a1_1, .int .i64 a1_2, .int .i64 a1_3, .int .i64 a1_4, .int .i64 a1_5, .int .i64 a1_6] 42 (0, 0))) := ⟨h1_⟩
      have n2_ : Aside0 (w48.heap[gb369]? = some (.cells #[.int .i64 t361, .int .i64 t362, .int .i64 t363, .bool t364, .string t365, .int .i64 t366, .int .i64 t367, .int .i64 ji8] 32 (0, 0))) := ⟨h2_⟩
      have n3_ : Aside0 (w48.heap[gb370]? = some (.cells #[.int .i64 t361, .int .i64 (wrap64 (t362 + 1)), .int .i64 t363, .bool t364, .string t365, .int .i64 t366, .int .i64 t367, .int .i64 ji8] 32 (0, 0))) := ⟨h3_⟩
      have n4_ : Aside0 (w48.heap[gb378]? = some (.cells #[.bool false, .string (⟨#[]⟩ : ByteArray), .string (⟨#[]⟩ : ByteArray)] 35 (0, 0))) := ⟨h4_⟩
      have n5_ : Aside0 (w.heap.size ≤ gb378) := ⟨h5_⟩
      have n6_ : Aside0 (w.heap.size ≤ gb378) := ⟨h6_⟩
      have n7_ : Aside0 (gb357 ≠ gb378) := ⟨h7_⟩
      have n8_ : Aside0 (gb378 ≠ gb357) := ⟨h8_⟩
      have n9_ : Aside0 (gb358 ≠ gb378) := ⟨h9_⟩
      have n10_ : Aside0 (gb378 ≠ gb358) := ⟨h10_⟩
      have n11_ : Aside0 (gb369 ≠ gb378) := ⟨h11_⟩
      have n12_ : Aside0 (gb378 ≠ gb369) := ⟨h12_⟩
      have n13_ : Aside0 (gb370 ≠ gb378) := ⟨h13_⟩
      have n14_ : Aside0 (gb378 ≠ gb370) := ⟨h14_⟩
      have n15_ : Aside0 (Below w.heap.size w w48) := ⟨h15_⟩
      clear BK357
      clear BK358
      clear BK369
      clear BK370
      clear HB
      clear h0_ h1_ h2_ h3_ h4_ h5_ h6_ h7_ h8_ h9_ h10_ h11_ h12_ h13_ h14_ h15_
      have BK357 := n0_
      have BK358 := n1_
      have BK369 := n2_
      have BK370 := n3_
      have BK378 := n4_
      have GW378 := n5_
      have GE378 := n6_
      have NB357_378 := n7_
      have NB378_357 := n8_
      have NB358_378 := n9_
      have NB378_358 := n10_
      have NB369_378 := n11_
      have NB378_369 := n12_
      have NB370_378 := n13_
      have NB378_370 := n14_
      have HB := n15_
      clear n0_ n1_ n2_ n3_ n4_ n5_ n6_ n7_ n8_ n9_ n10_ n11_ n12_ n13_ n14_ n15_
      have hHeld : w48.cell? ⟨gb369, 0, none⟩ = some (.int .i64 t361) ∧ w48.cell? ⟨gb369, 1, none⟩ = some (.int .i64 t362) ∧ w48.cell? ⟨gb369, 2, none⟩ = some (.int .i64 t363) ∧ w48.cell? ⟨gb369, 3, none⟩ = some (.bool t364) ∧ w48.cell? ⟨gb369, 4, none⟩ = some (.string t365) ∧ w48.cell? ⟨gb369, 5, none⟩ = some (.int .i64 t366) ∧ w48.cell? ⟨gb369, 6, none⟩ = some (.int .i64 t367) ∧ w48.cell? ⟨gb369, 7, none⟩ = some (.int .i64 ji8) ∧ w48.cell? ⟨gb357, 0, none⟩ = some (.bool a0_0) ∧ w48.cell? ⟨gb357, 1, none⟩ = some (.slice A0_1 l0_1.length c0_1) ∧ w48.cell? ⟨gb357, 2, none⟩ = some (.int .i64 a0_2) := hS_
      refine norm_ (a' := ?_) ?_ ?_
      rotate_left
      ·simp only [putAll, Act.put, List.setIfInBounds_toArray, List.set_cons_zero, List.set_cons_succ]
       rfl
      refine one_ (i := 8) (N := none) (bm_ 10 511) rfl rfl (one_of HT_.out (by kernel_rfl)) (by decide) (fun K hK => ?_)
      have hs49 : w48.cell? ⟨gb378, 0, none⟩ = some (.bool false) := bc_ BK378 0
      have hfs49 := blk_frozen BK378.out 0
      have hns49_0 := NB357_378.out
      have hns49_1 := NB358_378.out
      have hns49_2 := NB369_378.out
      have hns49_3 := NB370_378.out
      have hms49_0 := NB378_357.out
      have hms49_1 := NB378_358.out
      have hms49_2 := NB378_369.out
      have hms49_3 := NB378_370.out
      have hs50 : w48.cell? ⟨gb378, 1, none⟩ = some (.string (⟨#[]⟩ : ByteArray)) := bc_ BK378 1
      have hfs50 := blk_frozen BK378.out 1
      have hns50_0 := NB357_378.out
      have hns50_1 := NB358_378.out
      have hns50_2 := NB369_378.out
      have hns50_3 := NB370_378.out
      have hms50_0 := NB378_357.out
      have hms50_1 := NB378_358.out
      have hms50_2 := NB378_369.out
      have hms50_3 := NB378_370.out
      have hs51 : w48.cell? ⟨gb378, 2, none⟩ = some (.string (⟨#[]⟩ : ByteArray)) := bc_ BK378 2
      have hfs51 := blk_frozen BK378.out 2
      have hns51_0 := NB357_378.out
      have hns51_1 := NB358_378.out
      have hns51_2 := NB369_378.out
      have hns51_3 := NB370_378.out
      have hms51_0 := NB378_357.out
      have hms51_1 := NB378_358.out
      have hms51_2 := NB378_369.out
      have hms51_3 := NB378_370.out
      refine skip_ (w1 := ?_) (by rfl) rfl ?_ ?_
      rotate_left
      ·go_simp
       rfl
      refine hK.out _ _ ⟨((cell_far (p := ⟨gb378, _, none⟩) NB369_378.out _).trans (((cell_far (p := ⟨gb378, _, none⟩) NB369_378.out _).trans (((cell_far (p := ⟨gb378, _, none⟩) NB369_378.out _).trans (hHeld.1)))))), ((cell_far (p := ⟨gb378, _, none⟩) NB369_378.out _).trans (((cell_far (p := ⟨gb378, _, none⟩) NB369_378.out _).trans (((cell_far (p := ⟨gb378, _, none⟩) NB369_378.out _).trans (hHeld.2.1)))))), ((cell_far (p := ⟨gb378, _, none⟩) NB369_378.out _).trans (((cell_far (p := ⟨gb378, _, none⟩) NB369_378.out _).trans (((cell_far (p := ⟨gb378, _, none⟩) NB369_378.out _).trans (hHeld.2.2.1)))))), ((cell_far (p := ⟨gb378, _, none⟩) NB369_378.out _).trans (((cell_far (p := ⟨gb378, _, none⟩) NB369_378.out _).trans (((cell_far (p := ⟨gb378, _, none⟩) NB369_378.out _).trans (hHeld.2.2.2.1)))))), ((cell_far (p := ⟨gb378, _, none⟩) NB369_378.out _).trans (((cell_far (p := ⟨gb378, _, none⟩) NB369_378.out _).trans (((cell_far (p := ⟨gb378, _, none⟩) NB369_378.out _).trans (hHeld.2.2.2.2.1)))))), ((cell_far (p := ⟨gb378, _, none⟩) NB369_378.out _).trans (((cell_far (p := ⟨gb378, _, none⟩) NB369_378.out _).trans (((cell_far (p := ⟨gb378, _, none⟩) NB369_378.out _).trans (hHeld.2.2.2.2.2.1)))))), ((cell_far (p := ⟨gb378, _, none⟩) NB369_378.out _).trans (((cell_far (p := ⟨gb378, _, none⟩) NB369_378.out _).trans (((cell_far (p := ⟨gb378, _, none⟩) NB369_378.out _).trans (hHeld.2.2.2.2.2.2.1)))))), ((cell_far (p := ⟨gb378, _, none⟩) NB369_378.out _).trans (((cell_far (p := ⟨gb378, _, none⟩) NB369_378.out _).trans (((cell_far (p := ⟨gb378, _, none⟩) NB369_378.out _).trans (hHeld.2.2.2.2.2.2.2.1)))))), ((cell_far (p := ⟨gb378, _, none⟩) NB357_378.out _).trans (((cell_far (p := ⟨gb378, _, none⟩) NB357_378.out _).trans (((cell_far (p := ⟨gb378, _, none⟩) NB357_378.out _).trans (hHeld.2.2.2.2.2.2.2.2.1)))))), ((cell_far (p := ⟨gb378, _, none⟩) NB357_378.out _).trans (((cell_far (p := ⟨gb378, _, none⟩) NB357_378.out _).trans (((cell_far (p := ⟨gb378, _, none⟩) NB357_378.out _).trans (hHeld.2.2.2.2.2.2.2.2.2.1)))))), ((cell_far (p := ⟨gb378, _, none⟩) NB357_378.out _).trans (((cell_far (p := ⟨gb378, _, none⟩) NB357_378.out _).trans (((cell_far (p := ⟨gb378, _, none⟩) NB357_378.out _).trans (hHeld.2.2.2.2.2.2.2.2.2.2))))))⟩ (fun hHeld => ?_)
      clear hK K
      refine pu_ 9 8 (bm_ 10 1023) HT_ ?_
      refine done_ (done_of HT_.out (by kernel_rfl)) ?_
      try go_wp2
      have n0_ : Aside0 ((((w48.setCell ⟨gb378, 0, none⟩ (.bool t374)).setCell ⟨gb378, 1, none⟩ (.string t375)).setCell ⟨gb378, 2, none⟩ (.string t376)).heap[gb357]? = _) := bf_ BK357
      have n1_ : Aside0 ((((w48.setCell ⟨gb378, 0, none⟩ (.bool t374)).setCell ⟨gb378, 1, none⟩ (.string t375)).setCell ⟨gb378, 2, none⟩ (.string t376)).heap[gb358]? = _) := bf_ BK358
      have n2_ : Aside0 ((((w48.setCell ⟨gb378, 0, none⟩ (.bool t374)).setCell ⟨gb378, 1, none⟩ (.string t375)).setCell ⟨gb378, 2, none⟩ (.string t376)).heap[gb369]? = _) := bf_ BK369
      have n3_ : Aside0 ((((w48.setCell ⟨gb378, 0, none⟩ (.bool t374)).setCell ⟨gb378, 1, none⟩ (.string t375)).setCell ⟨gb378, 2, none⟩ (.string t376)).heap[gb370]? = _) := bf_ BK370
      have n4_ : Aside0 ((((w48.setCell ⟨gb378, 0, none⟩ (.bool t374)).setCell ⟨gb378, 1, none⟩ (.string t375)).setCell ⟨gb378, 2, none⟩ (.string t376)).heap[gb378]? = some (.cells #[.bool t374, .string t375, .string t376] 35 (0, 0))) := ⟨by (with_reducible repeat (first | refine blk_drewN ?_ _ | refine blk_drew ?_ | refine blk_alloc ?_ _)); refine blk_put (cs := #[.bool t374, .string t375, .string (⟨#[]⟩ : ByteArray)]) ?_ 2 _ rfl; (with_reducible repeat (first | refine blk_drewN ?_ _ | refine blk_drew ?_ | refine blk_alloc ?_ _)); refine blk_put (cs := #[.bool t374, .string (⟨#[]⟩ : ByteArray), .string (⟨#[]⟩ : ByteArray)]) ?_ 1 _ rfl; (with_reducible repeat (first | refine blk_drewN ?_ _ | refine blk_drew ?_ | refine blk_alloc ?_ _)); refine blk_put (cs := #[.bool false, .string (⟨#[]⟩ : ByteArray), .string (⟨#[]⟩ : ByteArray)]) ?_ 0 _ rfl; (with_reducible repeat (first | refine blk_drewN ?_ _ | refine blk_drew ?_ | refine blk_alloc ?_ _)); exact BK378.out⟩
      have n5_ : Aside0 (Below w.heap.size w (((w48.setCell ⟨gb378, 0, none⟩ (.bool t374)).setCell ⟨gb378, 1, none⟩ (.string t375)).setCell ⟨gb378, 2, none⟩ (.string t376))) := (bl_ HB)
      (try clear BK357)
      (try clear BK358)
      (try clear BK369)
      (try clear BK370)
      (try clear BK378)
      (try clear HB)
      generalize (((w48.setCell ⟨gb378, 0, none⟩ (.bool t374)).setCell ⟨gb378, 1, none⟩ (.string t375)).setCell ⟨gb378, 2, none⟩ (.string t376)) = w52 at n0_ n1_ n2_ n3_ n4_ n5_ ⊢
      have BK357 := n0_
      have BK358 := n1_
      have BK369 := n2_
      have BK370 := n3_
      have BK378 := n4_
      have HB := n5_
      clear n0_ n1_ n2_ n3_ n4_ n5_
      replace BK357 := Aside0.mk (blk_drew BK357.out)
      replace BK358 := Aside0.mk (blk_drew BK358.out)
      replace BK369 := Aside0.mk (blk_drew BK369.out)
      replace BK370 := Aside0.mk (blk_drew BK370.out)
      replace BK378 := Aside0.mk (blk_drew BK378.out)
      replace HB := Aside0.mk (below_drew1 HB.out)
      refine start_ (n := 10) (S := fun w' => w'.cell? ⟨gb370, 0, none⟩ = some (.int .i64 t361) ∧ w'.cell? ⟨gb370, 1, none⟩ = some (.int .i64 (wrap64 (t362 + 1))) ∧ w'.cell? ⟨gb370, 2, none⟩ = some (.int .i64 t363) ∧ w'.cell? ⟨gb370, 3, none⟩ = some (.bool t364) ∧ w'.cell? ⟨gb370, 4, none⟩ = some (.string t365) ∧ w'.cell? ⟨gb370, 5, none⟩ = some (.int .i64 t366) ∧ w'.cell? ⟨gb370, 6, none⟩ = some (.int .i64 t367) ∧ w'.cell? ⟨gb370, 7, none⟩ = some (.int .i64 ji8) ∧ w'.cell? ⟨gb357, 0, none⟩ = some (.bool a0_0) ∧ w'.cell? ⟨gb357, 1, none⟩ = some (.slice A0_1 l0_1.length c0_1) ∧ w'.cell? ⟨gb357, 2, none⟩ = some (.int .i64 a0_2)) (ds := []) #[false, false, false, false, false, false, false, false, false, false] (by kernel_rfl) rfl rfl ⟨bc_ BK370 0, bc_ BK370 1, bc_ BK370 2, bc_ BK370 3, bc_ BK370 4, bc_ BK370 5, bc_ BK370 6, bc_ BK370 7, bc_ BK357 0, bc_ BK357 1, bc_ BK357 2⟩ (fun hHeld => ?_); refine with_tabW florinlaw04_ShowMore.tab12 florinlaw04_ShowMore.bits12 (fun HT_ HW_ => ?_)
      generalize w52.drew = w53 at BK357 BK358 BK369 BK370 BK378 HB hHeld ⊢
      refine tk_ 0 45 (bm_ 10 1) HT_ HW_ hHeld rfl (by rintro w' ⟨s0, s1, s2, s3, s4, s5, s6, s7, s8, s9, s10⟩; go_simp; with_reducible rfl) ?_
      refine tk_ 1 46 (bm_ 10 3) HT_ HW_ hHeld rfl (by rintro w' ⟨s0, s1, s2, s3, s4, s5, s6, s7, s8, s9, s10⟩; go_simp; with_reducible rfl) ?_
      refine join_ (σ := Nat) 2 #[true, true, true, true, true, true, true, true, false, false] (fun s_ => [(47, .agg #[.bool t379, .string t380, .int .i64 t381]), (48, .tuple #[.agg #[.bool t382, .string t383, .string t384], .int .i64 t385]), (9, .pointer (some ⟨s_, 0, none⟩)), (44, .tuple #[.agg #[.bool t382, .string t383, .string t384], .int .i64 t385]), (49, .agg #[.bool t382, .string t383, .string t384]), (50, .int .i64 t385)]) (fun s_ w' => (w'.cell? ⟨gb370, 0, none⟩ = some (.int .i64 t361) ∧ w'.cell? ⟨gb370, 1, none⟩ = some (.int .i64 (wrap64 (t362 + 1))) ∧ w'.cell? ⟨gb370, 2, none⟩ = some (.int .i64 t363) ∧ w'.cell? ⟨gb370, 3, none⟩ = some (.bool t364) ∧ w'.cell? ⟨gb370, 4, none⟩ = some (.string t365) ∧ w'.cell? ⟨gb370, 5, none⟩ = some (.int .i64 t366) ∧ w'.cell? ⟨gb370, 6, none⟩ = some (.int .i64 t367) ∧ w'.cell? ⟨gb370, 7, none⟩ = some (.int .i64 ji8) ∧ w'.cell? ⟨gb357, 0, none⟩ = some (.bool a0_0) ∧ w'.cell? ⟨gb357, 1, none⟩ = some (.slice A0_1 l0_1.length c0_1) ∧ w'.cell? ⟨gb357, 2, none⟩ = some (.int .i64 a0_2)) ∧ (w'.heap[gb357]? = some (.cells #[.bool a0_0, .slice A0_1 l0_1.length c0_1, .int .i64 a0_2] 24 (0, 0))) ∧ (w'.heap[gb358]? = some (.cells #[.int .i64 a1_0, .int .i64 a1_1, .int .i64 a1_2, .int .i64 a1_3, .int .i64 a1_4, .int .i64 a1_5, .int .i64 a1_6] 42 (0, 0))) ∧ (w'.heap[gb369]? = some (.cells #[.int .i64 t361, .int .i64 t362, .int .i64 t363, .bool t364, .string t365, .int .i64 t366, .int .i64 t367, .int .i64 ji8] 32 (0, 0))) ∧ (w'.heap[gb370]? = some (.cells #[.int .i64 t361, .int .i64 (wrap64 (t362 + 1)), .int .i64 t363, .bool t364, .string t365, .int .i64 t366, .int .i64 t367, .int .i64 ji8] 32 (0, 0))) ∧ (w'.heap[gb378]? = some (.cells #[.bool t374, .string t375, .string t376] 35 (0, 0))) ∧ (w'.heap[s_]? = some (.cells #[.bool false, .string (⟨#[]⟩ : ByteArray), .string (⟨#[]⟩ : ByteArray)] 35 (0, 0))) ∧ (w.heap.size ≤ s_) ∧ (w.heap.size ≤ s_) ∧ (gb357 ≠ s_) ∧ (s_ ≠ gb357) ∧ (gb358 ≠ s_) ∧ (s_ ≠ gb358) ∧ (gb369 ≠ s_) ∧ (s_ ≠ gb369) ∧ (gb370 ≠ s_) ∧ (s_ ≠ gb370) ∧ (gb378 ≠ s_) ∧ (s_ ≠ gb378) ∧ (Below w.heap.size w w')) ?_ ?_
      rotate_left
      ·intro hCont
       refine two_ (i := 2) (j := 7) (Ni := some 47) (Nj := some 9) #[true, true, true, false, false, false, false, false, false, false] #[true, true, false, false, false, false, false, true, false, false] rfl rfl rfl rfl (two_of HT_.out (by kernel_rfl)) (by decide) (by decide) (fun K hK => ?_) (fun K hK => ?_)
       ·skip
        refine gs_ Tryd.func9 #[.agg #[.bool a0_0, .slice A0_1 l0_1.length c0_1, .int .i64 a0_2]] ?_
        with_reducible refine (florinlaw02_Raw_Make.calls kj8 a0_0 _ _ l0_1 a0_2 t379 t380 t381 _ ?side1 ?side2 A32.out).mono ?_
        (case side1 => repeat (first | exact (Kd.C_below HR0_1.out HB.out) | (with_reducible refine Kd.C_alloc ?_ _) | (with_reducible refine Kd.C_drewN ?_ _) | (with_reducible refine Kd.C_drew ?_)))
        (case side2 => exact HC0_1.out)
        rintro e w54 ⟨rfl, hb⟩
        refine ⟨_, rfl, ?_⟩
        replace BK357 := bb_ BK357 hb
        replace BK358 := bb_ BK358 hb
        replace BK369 := bb_ BK369 hb
        replace BK370 := bb_ BK370 hb
        replace BK378 := bb_ BK378 hb
        replace HB := Aside0.mk (below_step (bl_ HB).out hb)
        (try clear hb)
        (try clear hb2)
        (try clear hk)
        (try clear hi)
        refine hK.out _ _ ⟨bc_ BK370 0, bc_ BK370 1, bc_ BK370 2, bc_ BK370 3, bc_ BK370 4, bc_ BK370 5, bc_ BK370 6, bc_ BK370 7, bc_ BK357 0, bc_ BK357 1, bc_ BK357 2⟩ (fun hHeld => ?_)
        clear hK K
        refine nm_ 47 ?_
        refine two_ (i := 3) (j := 7) (Ni := some 48) (Nj := some 9) #[true, true, true, true, false, false, false, false, false, false] #[true, true, true, false, false, false, false, true, false, false] rfl rfl rfl rfl (two_of HT_.out (by kernel_rfl)) (by decide) (by decide) (fun K hK => ?_) (fun K hK => ?_)
        ·skip
         refine goes_ Tryd.func13 (by kernel_rfl) rfl #[.agg #[.int .i64 t361, .int .i64 (wrap64 (t362 + 1)), .int .i64 t363, .bool t364, .string t365, .int .i64 t366, .int .i64 t367, .int .i64 ji8], .agg #[.bool t379, .string t380, .int .i64 t381]] (by rfl) rfl rfl (by (try simp only [List.map_toArray, List.map_cons, List.map_nil]); first | done | (simp only [hji8]; rfl) | rfl | (simp only [List.length_drop, List.length_take]; rfl) | (have z_ : ∀ s_ : ByteArray, s_.size ≤ 9223372036854775807 → -(s_.size : Int) = wrap64 (-(s_.size : Int)) := (fun s_ h_ => by unfold wrap64; omega); rw [← z_ _ (by omega)]; rfl) | (simp only [ByteArray.size_append]; rfl)) ?_
         with_reducible refine (show_Prec_Apply.calls kj8 t361 (wrap64 (t362 + 1)) t363 t364 t365 t366 t367 ji8 t379 t380 t381 t382 t383 t384 t385 _ A33.out).mono ?_
         rintro e w55 ⟨rfl, hb⟩
         refine ⟨_, rfl, ?_⟩
         replace BK357 := bb_ BK357 hb
         replace BK358 := bb_ BK358 hb
         replace BK369 := bb_ BK369 hb
         replace BK370 := bb_ BK370 hb
         replace BK378 := bb_ BK378 hb
         replace HB := Aside0.mk (below_step (bl_ HB).out hb)
         (try clear hb)
         (try clear hb2)
         (try clear hk)
         (try clear hi)
         refine hK.out _ _ ⟨bc_ BK370 0, bc_ BK370 1, bc_ BK370 2, bc_ BK370 3, bc_ BK370 4, bc_ BK370 5, bc_ BK370 6, bc_ BK370 7, bc_ BK357 0, bc_ BK357 1, bc_ BK357 2⟩ (fun hHeld => ?_)
         clear hK K
         refine nm_ 48 ?_
         refine pu_ 4 44 (bm_ 10 31) HT_ ?_
         refine pu_ 5 49 (bm_ 10 63) HT_ ?_
         refine pu_ 6 50 (bm_ 10 127) HT_ ?_
         refine one_ (i := 7) (N := some 9) (bm_ 10 255) rfl rfl (one_of HT_.out (by kernel_rfl)) (by decide) (fun K hK => ?_)
         refine box_step ?hg (N := 9) ?hd (cs := #[.bool false, .string (⟨#[]⟩ : ByteArray), .string (⟨#[]⟩ : ByteArray)]) (t := 35) ?hr ?_; (case hd => rfl); (case hg => rfl); (case hr => first | (go_simp; done) | (go_simp; rfl))
         intro gb386 hg w56 hbox hb
         have n0_ := bb_ BK357 hb
         have n1_ := bb_ BK358 hb
         have n2_ := bb_ BK369 hb
         have n3_ := bb_ BK370 hb
         have n4_ := bb_ BK378 hb
         have n5_ := Aside0.mk (below_step (bl_ HB).out hb)
         have n6_ := Aside0.mk (hbox)
         have n7_ := sz_ HB hg
         have n8_ := sz_ HB hg
         have n9_ := na_ BK357 hg
         have n10_ := nb_ BK357 hg
         have n11_ := na_ BK358 hg
         have n12_ := nb_ BK358 hg
         have n13_ := na_ BK369 hg
         have n14_ := nb_ BK369 hg
         have n15_ := na_ BK370 hg
         have n16_ := nb_ BK370 hg
         have n17_ := na_ BK378 hg
         have n18_ := nb_ BK378 hg
         clear BK357
         clear BK358
         clear BK369
         clear BK370
         clear BK378
         clear HB
         have BK357 := n0_
         have BK358 := n1_
         have BK369 := n2_
         have BK370 := n3_
         have BK378 := n4_
         have HB := n5_
         have BK386 := n6_
         have GW386 := n7_
         have GE386 := n8_
         have NB357_386 := n9_
         have NB386_357 := n10_
         have NB358_386 := n11_
         have NB386_358 := n12_
         have NB369_386 := n13_
         have NB386_369 := n14_
         have NB370_386 := n15_
         have NB386_370 := n16_
         have NB378_386 := n17_
         have NB386_378 := n18_
         clear n0_ n1_ n2_ n3_ n4_ n5_ n6_ n7_ n8_ n9_ n10_ n11_ n12_ n13_ n14_ n15_ n16_ n17_ n18_
         clear hb hbox hg
         refine hK.out _ _ ⟨bc_ BK370 0, bc_ BK370 1, bc_ BK370 2, bc_ BK370 3, bc_ BK370 4, bc_ BK370 5, bc_ BK370 6, bc_ BK370 7, bc_ BK357 0, bc_ BK357 1, bc_ BK357 2⟩ (fun hHeld => ?_)
         clear hK K
         refine nm_ 9 ?_
         exact norm_ (by simp only [putAll, Act.put, List.setIfInBounds_toArray, List.set_cons_zero, List.set_cons_succ]) (hCont (gb386) _ ⟨hHeld, (by (with_reducible repeat (first | refine blk_drewN ?_ _ | refine blk_drew ?_ | refine blk_alloc ?_ _)); exact BK357.out), (by (with_reducible repeat (first | refine blk_drewN ?_ _ | refine blk_drew ?_ | refine blk_alloc ?_ _)); exact BK358.out), (by (with_reducible repeat (first | refine blk_drewN ?_ _ | refine blk_drew ?_ | refine blk_alloc ?_ _)); exact BK369.out), (by (with_reducible repeat (first | refine blk_drewN ?_ _ | refine blk_drew ?_ | refine blk_alloc ?_ _)); exact BK370.out), (by (with_reducible repeat (first | refine blk_drewN ?_ _ | refine blk_drew ?_ | refine blk_alloc ?_ _)); exact BK378.out), (by (with_reducible repeat (first | refine blk_drewN ?_ _ | refine blk_drew ?_ | refine blk_alloc ?_ _)); exact BK386.out), GW386.out, GE386.out, NB357_386.out, NB386_357.out, NB358_386.out, NB386_358.out, NB369_386.out, NB386_369.out, NB370_386.out, NB386_370.out, NB378_386.out, NB386_378.out, (bl_ HB).out⟩)
        ·skip
         refine box_step ?hg (N := 9) ?hd (cs := #[.bool false, .string (⟨#[]⟩ : ByteArray), .string (⟨#[]⟩ : ByteArray)]) (t := 35) ?hr ?_; (case hd => rfl); (case hg => rfl); (case hr => first | (go_simp; done) | (go_simp; rfl))
         intro gb386 hg w55 hbox hb
         have n0_ := bb_ BK357 hb
         have n1_ := bb_ BK358 hb
         have n2_ := bb_ BK369 hb
         have n3_ := bb_ BK370 hb
         have n4_ := bb_ BK378 hb
         have n5_ := Aside0.mk (below_step (bl_ HB).out hb)
         have n6_ := Aside0.mk (hbox)
         have n7_ := sz_ HB hg
         have n8_ := sz_ HB hg
         have n9_ := na_ BK357 hg
         have n10_ := nb_ BK357 hg
         have n11_ := na_ BK358 hg
         have n12_ := nb_ BK358 hg
         have n13_ := na_ BK369 hg
         have n14_ := nb_ BK369 hg
         have n15_ := na_ BK370 hg
         have n16_ := nb_ BK370 hg
         have n17_ := na_ BK378 hg
         have n18_ := nb_ BK378 hg
         clear BK357
         clear BK358
         clear BK369
         clear BK370
         clear BK378
         clear HB
         have BK357 := n0_
         have BK358 := n1_
         have BK369 := n2_
         have BK370 := n3_
         have BK378 := n4_
         have HB := n5_
         have BK386 := n6_
         have GW386 := n7_
         have GE386 := n8_
         have NB357_386 := n9_
         have NB386_357 := n10_
         have NB358_386 := n11_
         have NB386_358 := n12_
         have NB369_386 := n13_
         have NB386_369 := n14_
         have NB370_386 := n15_
         have NB386_370 := n16_
         have NB378_386 := n17_
         have NB386_378 := n18_
         clear n0_ n1_ n2_ n3_ n4_ n5_ n6_ n7_ n8_ n9_ n10_ n11_ n12_ n13_ n14_ n15_ n16_ n17_ n18_
         clear hb hbox hg
         refine hK.out _ _ ⟨bc_ BK370 0, bc_ BK370 1, bc_ BK370 2, bc_ BK370 3, bc_ BK370 4, bc_ BK370 5, bc_ BK370 6, bc_ BK370 7, bc_ BK357 0, bc_ BK357 1, bc_ BK357 2⟩ (fun hHeld => ?_)
         clear hK K
         refine nm_ 9 ?_
         refine one_ (i := 3) (N := some 48) (bm_ 10 143) rfl rfl (one_of HT_.out (by kernel_rfl)) (by decide) (fun K hK => ?_)
         refine goes_ Tryd.func13 (by kernel_rfl) rfl #[.agg #[.int .i64 t361, .int .i64 (wrap64 (t362 + 1)), .int .i64 t363, .bool t364, .string t365, .int .i64 t366, .int .i64 t367, .int .i64 ji8], .agg #[.bool t379, .string t380, .int .i64 t381]] (by rfl) rfl rfl (by (try simp only [List.map_toArray, List.map_cons, List.map_nil]); first | done | (simp only [hji8]; rfl) | rfl | (simp only [List.length_drop, List.length_take]; rfl) | (have z_ : ∀ s_ : ByteArray, s_.size ≤ 9223372036854775807 → -(s_.size : Int) = wrap64 (-(s_.size : Int)) := (fun s_ h_ => by unfold wrap64; omega); rw [← z_ _ (by omega)]; rfl) | (simp only [ByteArray.size_append]; rfl)) ?_
         with_reducible refine (show_Prec_Apply.calls kj8 t361 (wrap64 (t362 + 1)) t363 t364 t365 t366 t367 ji8 t379 t380 t381 t382 t383 t384 t385 _ A33.out).mono ?_
         rintro e w56 ⟨rfl, hb⟩
         refine ⟨_, rfl, ?_⟩
         replace BK357 := bb_ BK357 hb
         replace BK358 := bb_ BK358 hb
         replace BK369 := bb_ BK369 hb
         replace BK370 := bb_ BK370 hb
         replace BK378 := bb_ BK378 hb
         replace BK386 := bb_ BK386 hb
         replace HB := Aside0.mk (below_step (bl_ HB).out hb)
         (try clear hb)
         (try clear hb2)
         (try clear hk)
         (try clear hi)
         refine hK.out _ _ ⟨bc_ BK370 0, bc_ BK370 1, bc_ BK370 2, bc_ BK370 3, bc_ BK370 4, bc_ BK370 5, bc_ BK370 6, bc_ BK370 7, bc_ BK357 0, bc_ BK357 1, bc_ BK357 2⟩ (fun hHeld => ?_)
         clear hK K
         refine nm_ 48 ?_
         refine pu_ 4 44 (bm_ 10 159) HT_ ?_
         refine pu_ 5 49 (bm_ 10 191) HT_ ?_
         refine pu_ 6 50 (bm_ 10 255) HT_ ?_
         exact norm_ (by simp only [putAll, Act.put, List.setIfInBounds_toArray, List.set_cons_zero, List.set_cons_succ]) (hCont (gb386) _ ⟨hHeld, (by (with_reducible repeat (first | refine blk_drewN ?_ _ | refine blk_drew ?_ | refine blk_alloc ?_ _)); exact BK357.out), (by (with_reducible repeat (first | refine blk_drewN ?_ _ | refine blk_drew ?_ | refine blk_alloc ?_ _)); exact BK358.out), (by (with_reducible repeat (first | refine blk_drewN ?_ _ | refine blk_drew ?_ | refine blk_alloc ?_ _)); exact BK369.out), (by (with_reducible repeat (first | refine blk_drewN ?_ _ | refine blk_drew ?_ | refine blk_alloc ?_ _)); exact BK370.out), (by (with_reducible repeat (first | refine blk_drewN ?_ _ | refine blk_drew ?_ | refine blk_alloc ?_ _)); exact BK378.out), (by (with_reducible repeat (first | refine blk_drewN ?_ _ | refine blk_drew ?_ | refine blk_alloc ?_ _)); exact BK386.out), GW386.out, GE386.out, NB357_386.out, NB386_357.out, NB358_386.out, NB386_358.out, NB369_386.out, NB386_369.out, NB370_386.out, NB386_370.out, NB378_386.out, NB386_378.out, (bl_ HB).out⟩)
       ·skip
        refine box_step ?hg (N := 9) ?hd (cs := #[.bool false, .string (⟨#[]⟩ : ByteArray), .string (⟨#[]⟩ : ByteArray)]) (t := 35) ?hr ?_; (case hd => rfl); (case hg => rfl); (case hr => first | (go_simp; done) | (go_simp; rfl))
        intro gb386 hg w54 hbox hb
        have n0_ := bb_ BK357 hb
        have n1_ := bb_ BK358 hb
        have n2_ := bb_ BK369 hb
        have n3_ := bb_ BK370 hb
        have n4_ := bb_ BK378 hb
        have n5_ := Aside0.mk (below_step (bl_ HB).out hb)
        have n6_ := Aside0.mk (hbox)
        have n7_ := sz_ HB hg
        have n8_ := sz_ HB hg
        have n9_ := na_ BK357 hg
        have n10_ := nb_ BK357 hg
        have n11_ := na_ BK358 hg
        have n12_ := nb_ BK358 hg
        have n13_ := na_ BK369 hg
        have n14_ := nb_ BK369 hg
        have n15_ := na_ BK370 hg
        have n16_ := nb_ BK370 hg
        have n17_ := na_ BK378 hg
        have n18_ := nb_ BK378 hg
        clear BK357
        clear BK358
        clear BK369
        clear BK370
        clear BK378
        clear HB
        have BK357 := n0_
        have BK358 := n1_
        have BK369 := n2_
        have BK370 := n3_
        have BK378 := n4_
        have HB := n5_
        have BK386 := n6_
        have GW386 := n7_
        have GE386 := n8_
        have NB357_386 := n9_
        have NB386_357 := n10_
        have NB358_386 := n11_
        have NB386_358 := n12_
        have NB369_386 := n13_
        have NB386_369 := n14_
        have NB370_386 := n15_
        have NB386_370 := n16_
        have NB378_386 := n17_
        have NB386_378 := n18_
        clear n0_ n1_ n2_ n3_ n4_ n5_ n6_ n7_ n8_ n9_ n10_ n11_ n12_ n13_ n14_ n15_ n16_ n17_ n18_
        clear hb hbox hg
        refine hK.out _ _ ⟨bc_ BK370 0, bc_ BK370 1, bc_ BK370 2, bc_ BK370 3, bc_ BK370 4, bc_ BK370 5, bc_ BK370 6, bc_ BK370 7, bc_ BK357 0, bc_ BK357 1, bc_ BK357 2⟩ (fun hHeld => ?_)
        clear hK K
        refine nm_ 9 ?_
        refine one_ (i := 2) (N := some 47) (bm_ 10 135) rfl rfl (one_of HT_.out (by kernel_rfl)) (by decide) (fun K hK => ?_)
        refine gs_ Tryd.func9 #[.agg #[.bool a0_0, .slice A0_1 l0_1.length c0_1, .int .i64 a0_2]] ?_
        with_reducible refine (florinlaw02_Raw_Make.calls kj8 a0_0 _ _ l0_1 a0_2 t379 t380 t381 _ ?side1 ?side2 A32.out).mono ?_
        (case side1 => repeat (first | exact (Kd.C_below HR0_1.out HB.out) | (with_reducible refine Kd.C_alloc ?_ _) | (with_reducible refine Kd.C_drewN ?_ _) | (with_reducible refine Kd.C_drew ?_)))
        (case side2 => exact HC0_1.out)
        rintro e w55 ⟨rfl, hb⟩
        refine ⟨_, rfl, ?_⟩
        replace BK357 := bb_ BK357 hb
        replace BK358 := bb_ BK358 hb
        replace BK369 := bb_ BK369 hb
        replace BK370 := bb_ BK370 hb
        replace BK378 := bb_ BK378 hb
        replace BK386 := bb_ BK386 hb
        replace HB := Aside0.mk (below_step (bl_ HB).out hb)
        (try clear hb)
        (try clear hb2)
        (try clear hk)
        (try clear hi)
        refine hK.out _ _ ⟨bc_ BK370 0, bc_ BK370 1, bc_ BK370 2, bc_ BK370 3, bc_ BK370 4, bc_ BK370 5, bc_ BK370 6, bc_ BK370 7, bc_ BK357 0, bc_ BK357 1, bc_ BK357 2⟩ (fun hHeld => ?_)
        clear hK K
        refine nm_ 47 ?_
        refine one_ (i := 3) (N := some 48) (bm_ 10 143) rfl rfl (one_of HT_.out (by kernel_rfl)) (by decide) (fun K hK => ?_)
        refine goes_ Tryd.func13 (by kernel_rfl) rfl #[.agg #[.int .i64 t361, .int .i64 (wrap64 (t362 + 1)), .int .i64 t363, .bool t364, .string t365, .int .i64 t366, .int .i64 t367, .int .i64 ji8], .agg #[.bool t379, .string t380, .int .i64 t381]] (by rfl) rfl rfl (by (try simp only [List.map_toArray, List.map_cons, List.map_nil]); first | done | (simp only [hji8]; rfl) | rfl | (simp only [List.length_drop, List.length_take]; rfl) | (have z_ : ∀ s_ : ByteArray, s_.size ≤ 9223372036854775807 → -(s_.size : Int) = wrap64 (-(s_.size : Int)) := (fun s_ h_ => by unfold wrap64; omega); rw [← z_ _ (by omega)]; rfl) | (simp only [ByteArray.size_append]; rfl)) ?_
        with_reducible refine (show_Prec_Apply.calls kj8 t361 (wrap64 (t362 + 1)) t363 t364 t365 t366 t367 ji8 t379 t380 t381 t382 t383 t384 t385 _ A33.out).mono ?_
        rintro e w56 ⟨rfl, hb⟩
        refine ⟨_, rfl, ?_⟩
        replace BK357 := bb_ BK357 hb
        replace BK358 := bb_ BK358 hb
        replace BK369 := bb_ BK369 hb
        replace BK370 := bb_ BK370 hb
        replace BK378 := bb_ BK378 hb
        replace BK386 := bb_ BK386 hb
        replace HB := Aside0.mk (below_step (bl_ HB).out hb)
        (try clear hb)
        (try clear hb2)
        (try clear hk)
        (try clear hi)
        refine hK.out _ _ ⟨bc_ BK370 0, bc_ BK370 1, bc_ BK370 2, bc_ BK370 3, bc_ BK370 4, bc_ BK370 5, bc_ BK370 6, bc_ BK370 7, bc_ BK357 0, bc_ BK357 1, bc_ BK357 2⟩ (fun hHeld => ?_)
        clear hK K
        refine nm_ 48 ?_
        refine pu_ 4 44 (bm_ 10 159) HT_ ?_
        refine pu_ 5 49 (bm_ 10 191) HT_ ?_
        refine pu_ 6 50 (bm_ 10 255) HT_ ?_
        exact norm_ (by simp only [putAll, Act.put, List.setIfInBounds_toArray, List.set_cons_zero, List.set_cons_succ]) (hCont (gb386) _ ⟨hHeld, (by (with_reducible repeat (first | refine blk_drewN ?_ _ | refine blk_drew ?_ | refine blk_alloc ?_ _)); exact BK357.out), (by (with_reducible repeat (first | refine blk_drewN ?_ _ | refine blk_drew ?_ | refine blk_alloc ?_ _)); exact BK358.out), (by (with_reducible repeat (first | refine blk_drewN ?_ _ | refine blk_drew ?_ | refine blk_alloc ?_ _)); exact BK369.out), (by (with_reducible repeat (first | refine blk_drewN ?_ _ | refine blk_drew ?_ | refine blk_alloc ?_ _)); exact BK370.out), (by (with_reducible repeat (first | refine blk_drewN ?_ _ | refine blk_drew ?_ | refine blk_alloc ?_ _)); exact BK378.out), (by (with_reducible repeat (first | refine blk_drewN ?_ _ | refine blk_drew ?_ | refine blk_alloc ?_ _)); exact BK386.out), GW386.out, GE386.out, NB357_386.out, NB386_357.out, NB358_386.out, NB386_358.out, NB369_386.out, NB386_369.out, NB370_386.out, NB386_370.out, NB378_386.out, NB386_378.out, (bl_ HB).out⟩)
      rintro gb386 w57 ⟨hS_, h0_, h1_, h2_, h3_, h4_, h5_, h6_, h7_, h8_, h9_, h10_, h11_, h12_, h13_, h14_, h15_, h16_, h17_, h18_⟩
      have n0_ : Aside0 (w57.heap[gb357]? = some (.cells #[.bool a0_0, .slice A0_1 l0_1.length c0_1, .int .i64 a0_2] 24 (0, 0))) := ⟨h0_⟩
      have n1_ : Aside0 (w57.heap[gb358]? = some (.cells #[.int .i64 a1_0, .int .i64 a1_1, .int .i64 a1_2, .int .i64 a1_3, .int .i64 a1_4, .int .i64 a1_5, .int .i64 a1_6] 42 (0, 0))) := ⟨h1_⟩
      have n2_ : Aside0 (w57.heap[gb369]? = some (.cells #[.int .i64 t361, .int .i64 t362, .int .i64 t363, .bool t364, .string t365, .int .i64 t366, .int .i64 t367, .int .i64 ji8] 32 (0, 0))) := ⟨h2_⟩
      have n3_ : Aside0 (w57.heap[gb370]? = some (.cells #[.int .i64 t361, .int .i64 (wrap64 (t362 + 1)), .int .i64 t363, .bool t364, .string t365, .int .i64 t366, .int .i64 t367, .int .i64 ji8] 32 (0, 0))) := ⟨h3_⟩
      have n4_ : Aside0 (w57.heap[gb378]? = some (.cells #[.bool t374, .string t375, .string t376] 35 (0, 0))) := ⟨h4_⟩
      have n5_ : Aside0 (w57.heap[gb386]? = some (.cells #[.bool false, .string (⟨#[]⟩ : ByteArray), .string (⟨#[]⟩ : ByteArray)] 35 (0, 0))) := ⟨h5_⟩
      have n6_ : Aside0 (w.heap.size ≤ gb386) := ⟨h6_⟩
      have n7_ : Aside0 (w.heap.size ≤ gb386) := ⟨h7_⟩
      have n8_ : Aside0 (gb357 ≠ gb386) := ⟨h8_⟩
      have n9_ : Aside0 (gb386 ≠ gb357) := ⟨h9_⟩
      have n10_ : Aside0 (gb358 ≠ gb386) := ⟨h10_⟩
      have n11_ : Aside0 (gb386 ≠ gb358) := ⟨h11_⟩
      have n12_ : Aside0 (gb369 ≠ gb386) := ⟨h12_⟩
      have n13_ : Aside0 (gb386 ≠ gb369) := ⟨h13_⟩
      have n14_ : Aside0 (gb370 ≠ gb386) := ⟨h14_⟩
      have n15_ : Aside0 (gb386 ≠ gb370) := ⟨h15_⟩
      have n16_ : Aside0 (gb378 ≠ gb386) := ⟨h16_⟩
      have n17_ : Aside0 (gb386 ≠ gb378) := ⟨h17_⟩
      have n18_ : Aside0 (Below w.heap.size w w57) := ⟨h18_⟩
      clear BK357
      clear BK358
      clear BK369
      clear BK370
      clear BK378
      clear HB
      clear h0_ h1_ h2_ h3_ h4_ h5_ h6_ h7_ h8_ h9_ h10_ h11_ h12_ h13_ h14_ h15_ h16_ h17_ h18_
      have BK357 := n0_
      have BK358 := n1_
      have BK369 := n2_
      have BK370 := n3_
      have BK378 := n4_
      have BK386 := n5_
      have GW386 := n6_
      have GE386 := n7_
      have NB357_386 := n8_
      have NB386_357 := n9_
      have NB358_386 := n10_
      have NB386_358 := n11_
      have NB369_386 := n12_
      have NB386_369 := n13_
      have NB370_386 := n14_
      have NB386_370 := n15_
      have NB378_386 := n16_
      have NB386_378 := n17_
      have HB := n18_
      clear n0_ n1_ n2_ n3_ n4_ n5_ n6_ n7_ n8_ n9_ n10_ n11_ n12_ n13_ n14_ n15_ n16_ n17_ n18_
      have hHeld : w57.cell? ⟨gb370, 0, none⟩ = some (.int .i64 t361) ∧ w57.cell? ⟨gb370, 1, none⟩ = some (.int .i64 (wrap64 (t362 + 1))) ∧ w57.cell? ⟨gb370, 2, none⟩ = some (.int .i64 t363) ∧ w57.cell? ⟨gb370, 3, none⟩ = some (.bool t364) ∧ w57.cell? ⟨gb370, 4, none⟩ = some (.string t365) ∧ w57.cell? ⟨gb370, 5, none⟩ = some (.int .i64 t366) ∧ w57.cell? ⟨gb370, 6, none⟩ = some (.int .i64 t367) ∧ w57.cell? ⟨gb370, 7, none⟩ = some (.int .i64 ji8) ∧ w57.cell? ⟨gb357, 0, none⟩ = some (.bool a0_0) ∧ w57.cell? ⟨gb357, 1, none⟩ = some (.slice A0_1 l0_1.length c0_1) ∧ w57.cell? ⟨gb357, 2, none⟩ = some (.int .i64 a0_2) := hS_
      refine norm_ (a' := ?_) ?_ ?_
      rotate_left
      ·simp only [putAll, Act.put, List.setIfInBounds_toArray, List.set_cons_zero, List.set_cons_succ]
       rfl
      refine one_ (i := 8) (N := none) (bm_ 10 511) rfl rfl (one_of HT_.out (by kernel_rfl)) (by decide) (fun K hK => ?_)
      have hs58 : w57.cell? ⟨gb386, 0, none⟩ = some (.bool false) := bc_ BK386 0
      have hfs58 := blk_frozen BK386.out 0
      have hns58_0 := NB357_386.out
      have hns58_1 := NB358_386.out
      have hns58_2 := NB369_386.out
      have hns58_3 := NB370_386.out
      have hns58_4 := NB378_386.out
      have hms58_0 := NB386_357.out
      have hms58_1 := NB386_358.out
      have hms58_2 := NB386_369.out
      have hms58_3 := NB386_370.out
      have hms58_4 := NB386_378.out
      have hs59 : w57.cell? ⟨gb386, 1, none⟩ = some (.string (⟨#[]⟩ : ByteArray)) := bc_ BK386 1
      have hfs59 := blk_frozen BK386.out 1
      have hns59_0 := NB357_386.out
      have hns59_1 := NB358_386.out
      have hns59_2 := NB369_386.out
      have hns59_3 := NB370_386.out
      have hns59_4 := NB378_386.out
      have hms59_0 := NB386_357.out
      have hms59_1 := NB386_358.out
      have hms59_2 := NB386_369.out
      have hms59_3 := NB386_370.out
      have hms59_4 := NB386_378.out
      have hs60 : w57.cell? ⟨gb386, 2, none⟩ = some (.string (⟨#[]⟩ : ByteArray)) := bc_ BK386 2
      have hfs60 := blk_frozen BK386.out 2
      have hns60_0 := NB357_386.out
      have hns60_1 := NB358_386.out
      have hns60_2 := NB369_386.out
      have hns60_3 := NB370_386.out
      have hns60_4 := NB378_386.out
      have hms60_0 := NB386_357.out
      have hms60_1 := NB386_358.out
      have hms60_2 := NB386_369.out
      have hms60_3 := NB386_370.out
      have hms60_4 := NB386_378.out
      refine skip_ (w1 := ?_) (by rfl) rfl ?_ ?_
      rotate_left
      ·go_simp
       rfl
      refine hK.out _ _ ⟨((cell_far (p := ⟨gb386, _, none⟩) NB370_386.out _).trans (((cell_far (p := ⟨gb386, _, none⟩) NB370_386.out _).trans (((cell_far (p := ⟨gb386, _, none⟩) NB370_386.out _).trans (hHeld.1)))))), ((cell_far (p := ⟨gb386, _, none⟩) NB370_386.out _).trans (((cell_far (p := ⟨gb386, _, none⟩) NB370_386.out _).trans (((cell_far (p := ⟨gb386, _, none⟩) NB370_386.out _).trans (hHeld.2.1)))))), ((cell_far (p := ⟨gb386, _, none⟩) NB370_386.out _).trans (((cell_far (p := ⟨gb386, _, none⟩) NB370_386.out _).trans (((cell_far (p := ⟨gb386, _, none⟩) NB370_386.out _).trans (hHeld.2.2.1)))))), ((cell_far (p := ⟨gb386, _, none⟩) NB370_386.out _).trans (((cell_far (p := ⟨gb386, _, none⟩) NB370_386.out _).trans (((cell_far (p := ⟨gb386, _, none⟩) NB370_386.out _).trans (hHeld.2.2.2.1)))))), ((cell_far (p := ⟨gb386, _, none⟩) NB370_386.out _).trans (((cell_far (p := ⟨gb386, _, none⟩) NB370_386.out _).trans (((cell_far (p := ⟨gb386, _, none⟩) NB370_386.out _).trans (hHeld.2.2.2.2.1)))))), ((cell_far (p := ⟨gb386, _, none⟩) NB370_386.out _).trans (((cell_far (p := ⟨gb386, _, none⟩) NB370_386.out _).trans (((cell_far (p := ⟨gb386, _, none⟩) NB370_386.out _).trans (hHeld.2.2.2.2.2.1)))))), ((cell_far (p := ⟨gb386, _, none⟩) NB370_386.out _).trans (((cell_far (p := ⟨gb386, _, none⟩) NB370_386.out _).trans (((cell_far (p := ⟨gb386, _, none⟩) NB370_386.out _).trans (hHeld.2.2.2.2.2.2.1)))))), ((cell_far (p := ⟨gb386, _, none⟩) NB370_386.out _).trans (((cell_far (p := ⟨gb386, _, none⟩) NB370_386.out _).trans (((cell_far (p := ⟨gb386, _, none⟩) NB370_386.out _).trans (hHeld.2.2.2.2.2.2.2.1)))))), ((cell_far (p := ⟨gb386, _, none⟩) NB357_386.out _).trans (((cell_far (p := ⟨gb386, _, none⟩) NB357_386.out _).trans (((cell_far (p := ⟨gb386, _, none⟩) NB357_386.out _).trans (hHeld.2.2.2.2.2.2.2.2.1)))))), ((cell_far (p := ⟨gb386, _, none⟩) NB357_386.out _).trans (((cell_far (p := ⟨gb386, _, none⟩) NB357_386.out _).trans (((cell_far (p := ⟨gb386, _, none⟩) NB357_386.out _).trans (hHeld.2.2.2.2.2.2.2.2.2.1)))))), ((cell_far (p := ⟨gb386, _, none⟩) NB357_386.out _).trans (((cell_far (p := ⟨gb386, _, none⟩) NB357_386.out _).trans (((cell_far (p := ⟨gb386, _, none⟩) NB357_386.out _).trans (hHeld.2.2.2.2.2.2.2.2.2.2))))))⟩ (fun hHeld => ?_)
      clear hK K
      refine pu_ 9 10 (bm_ 10 1023) HT_ ?_
      refine done_ (done_of HT_.out (by kernel_rfl)) ?_
      go_upto_region 13 with (fail)
      go_cut [4] (fun v4 wc => ∃ (kq : Nat) (x4_33 : Bool), v4 = .bool x4_33 ∧ Aside0 (florinlaw04_ShowMore.j1 kq x4_33 = some r) ∧ Aside0 (kq ≤ kj8) ∧ Aside0 (wc.heap[gb357]? = some (.cells #[.bool a0_0, (.slice A0_1 l0_1.length c0_1), .int .i64 a0_2] 24 (0, 0))) ∧ Aside0 (wc.heap[gb358]? = some (.cells #[.int .i64 a1_0, .int .i64 a1_1, .int .i64 a1_2, .int .i64 a1_3, .int .i64 a1_4, .int .i64 a1_5, .int .i64 a1_6] 42 (0, 0))) ∧ Aside0 (wc.heap[gb369]? = some (.cells #[.int .i64 t361, .int .i64 t362, .int .i64 t363, .bool t364, .string t365, .int .i64 t366, .int .i64 t367, .int .i64 ji8] 32 (0, 0))) ∧ Aside0 (wc.heap[gb370]? = some (.cells #[.int .i64 t361, .int .i64 (wrap64 (t362 + 1)), .int .i64 t363, .bool t364, .string t365, .int .i64 t366, .int .i64 t367, .int .i64 ji8] 32 (0, 0))) ∧ Aside0 (wc.heap[gb378]? = some (.cells #[.bool t374, .string t375, .string t376] 35 (0, 0))) ∧ Aside0 (wc.heap[gb386]? = some (.cells #[.bool t382, .string t383, .string t384] 35 (0, 0))) ∧ Aside0 (Below w.heap.size w wc))
      case first =>
       have H := HC34.out
       clear HC34
       by_cases c61 : t377 = 0
       ·rw [if_pos c61] at H
        have c61b0 : (t377 == 0) = true := beq_iff_eq.mpr c61
        have c61b1 : (t377 != 0) = false := bne_eq_false_iff_eq.mpr c61
        clear c61
        (first | rw [c61b0] | (simp only [i64_w, i32_w]; rw [c61b0]) | skip)
        by_cases c62 : t385 = 0
        ·rw [if_pos c62] at H
         have c62b0 : (t385 == 0) = true := beq_iff_eq.mpr c62
         have c62b1 : (t385 != 0) = false := bne_eq_false_iff_eq.mpr c62
         clear c62
         by_cases c63 : (t382 == t374) = true
         ·rw [if_pos c63] at H
          have c63b0 : (t382 == t374) = true := c63
          (try (have c63b1 : decide (t382 = t374) = true := by simpa using c63))
          (try (have c63b2 : (t382 == t374) = true := by simpa using c63))
          clear c63
          by_cases c64 : t383.toList = t375.toList
          ·rw [if_pos c64] at H
           have c64b0 : (t383.toList == t375.toList) = true := beq_iff_eq.mpr c64
           have c64b1 : (t383.toList != t375.toList) = false := bne_eq_false_iff_eq.mpr c64
           clear c64
           by_cases c65 : t384.toList = t376.toList
           ·rw [if_pos c65] at H
            have c65b0 : (t384.toList == t376.toList) = true := beq_iff_eq.mpr c65
            have c65b1 : (t384.toList != t376.toList) = false := bne_eq_false_iff_eq.mpr c65
            clear c65
            have H' := Aside0.mk H
            clear H
            have hnb66 := NB386_357.out
            have hnc66 := NB357_386.out
            have hnb67 := NB386_358.out
            have hnc67 := NB358_386.out
            have hnb68 := NB386_369.out
            have hnc68 := NB369_386.out
            have hnb69 := NB386_370.out
            have hnc69 := NB370_386.out
            have hnb70 := NB386_378.out
            have hnc70 := NB378_386.out
            obtain ⟨hcz71_0, hcz71_1, hcz71_2, hfz71_0, hfz71_1, hfz71_2⟩ := bo3_ BK386
            have hnb72 := NB378_357.out
            have hnc72 := NB357_378.out
            have hnb73 := NB378_358.out
            have hnc73 := NB358_378.out
            have hnb74 := NB378_369.out
            have hnc74 := NB369_378.out
            have hnb75 := NB378_370.out
            have hnc75 := NB370_378.out
            obtain ⟨hcz76_0, hcz76_1, hcz76_2, hfz76_0, hfz76_1, hfz76_2⟩ := bo3_ BK378
            go_wp2
            go_meet
            case rel => first | (exact ⟨_, (true), eq_, (by first | exact H' | (rw [hji8]; exact H') | (simp only [hji8]; exact H')), ⟨by have := HJ8.out; first | omega | exact Nat.le_refl _⟩, ⟨by (with_reducible repeat (first | refine blk_drewN ?_ _ | refine blk_drew ?_ | refine blk_alloc ?_ _)); refine blk_far ?_ NB357_386.out _; (with_reducible repeat (first | refine blk_drewN ?_ _ | refine blk_drew ?_ | refine blk_alloc ?_ _)); refine blk_far ?_ NB357_386.out _; (with_reducible repeat (first | refine blk_drewN ?_ _ | refine blk_drew ?_ | refine blk_alloc ?_ _)); refine blk_far ?_ NB357_386.out _; (with_reducible repeat (first | refine blk_drewN ?_ _ | refine blk_drew ?_ | refine blk_alloc ?_ _)); exact BK357.out⟩, ⟨by (with_reducible repeat (first | refine blk_drewN ?_ _ | refine blk_drew ?_ | refine blk_alloc ?_ _)); refine blk_far ?_ NB358_386.out _; (with_reducible repeat (first | refine blk_drewN ?_ _ | refine blk_drew ?_ | refine blk_alloc ?_ _)); refine blk_far ?_ NB358_386.out _; (with_reducible repeat (first | refine blk_drewN ?_ _ | refine blk_drew ?_ | refine blk_alloc ?_ _)); refine blk_far ?_ NB358_386.out _; (with_reducible repeat (first | refine blk_drewN ?_ _ | refine blk_drew ?_ | refine blk_alloc ?_ _)); exact BK358.out⟩, ⟨by (with_reducible repeat (first | refine blk_drewN ?_ _ | refine blk_drew ?_ | refine blk_alloc ?_ _)); refine blk_far ?_ NB369_386.out _; (with_reducible repeat (first | refine blk_drewN ?_ _ | refine blk_drew ?_ | refine blk_alloc ?_ _)); refine blk_far ?_ NB369_386.out _; (with_reducible repeat (first | refine blk_drewN ?_ _ | refine blk_drew ?_ | refine blk_alloc ?_ _)); refine blk_far ?_ NB369_386.out _; (with_reducible repeat (first | refine blk_drewN ?_ _ | refine blk_drew ?_ | refine blk_alloc ?_ _)); exact BK369.out⟩, ⟨by (with_reducible repeat (first | refine blk_drewN ?_ _ | refine blk_drew ?_ | refine blk_alloc ?_ _)); refine blk_far ?_ NB370_386.out _; (with_reducible repeat (first | refine blk_drewN ?_ _ | refine blk_drew ?_ | refine blk_alloc ?_ _)); refine blk_far ?_ NB370_386.out _; (with_reducible repeat (first | refine blk_drewN ?_ _ | refine blk_drew ?_ | refine blk_alloc ?_ _)); refine blk_far ?_ NB370_386.out _; (with_reducible repeat (first | refine blk_drewN ?_ _ | refine blk_drew ?_ | refine blk_alloc ?_ _)); exact BK370.out⟩, ⟨by (with_reducible repeat (first | refine blk_drewN ?_ _ | refine blk_drew ?_ | refine blk_alloc ?_ _)); refine blk_far ?_ NB378_386.out _; (with_reducible repeat (first | refine blk_drewN ?_ _ | refine blk_drew ?_ | refine blk_alloc ?_ _)); refine blk_far ?_ NB378_386.out _; (with_reducible repeat (first | refine blk_drewN ?_ _ | refine blk_drew ?_ | refine blk_alloc ?_ _)); refine blk_far ?_ NB378_386.out _; (with_reducible repeat (first | refine blk_drewN ?_ _ | refine blk_drew ?_ | refine blk_alloc ?_ _)); exact BK378.out⟩, ⟨by (with_reducible repeat (first | refine blk_drewN ?_ _ | refine blk_drew ?_ | refine blk_alloc ?_ _)); refine blk_put (cs := #[.bool t382, .string t383, .string (⟨#[]⟩ : ByteArray)]) ?_ 2 _ rfl; (with_reducible repeat (first | refine blk_drewN ?_ _ | refine blk_drew ?_ | refine blk_alloc ?_ _)); refine blk_put (cs := #[.bool t382, .string (⟨#[]⟩ : ByteArray), .string (⟨#[]⟩ : ByteArray)]) ?_ 1 _ rfl; (with_reducible repeat (first | refine blk_drewN ?_ _ | refine blk_drew ?_ | refine blk_alloc ?_ _)); refine blk_put (cs := #[.bool false, .string (⟨#[]⟩ : ByteArray), .string (⟨#[]⟩ : ByteArray)]) ?_ 0 _ rfl; (with_reducible repeat (first | refine blk_drewN ?_ _ | refine blk_drew ?_ | refine blk_alloc ?_ _)); exact BK386.out⟩, (bl_ HB)⟩) | (rw [← hji8] at H'; exact ⟨_, (true), eq_, (by first | exact H' | (rw [hji8]; exact H') | (simp only [hji8]; exact H')), ⟨by have := HJ8.out; first | omega | exact Nat.le_refl _⟩, ⟨by (with_reducible repeat (first | refine blk_drewN ?_ _ | refine blk_drew ?_ | refine blk_alloc ?_ _)); refine blk_far ?_ NB357_386.out _; (with_reducible repeat (first | refine blk_drewN ?_ _ | refine blk_drew ?_ | refine blk_alloc ?_ _)); refine blk_far ?_ NB357_386.out _; (with_reducible repeat (first | refine blk_drewN ?_ _ | refine blk_drew ?_ | refine blk_alloc ?_ _)); refine blk_far ?_ NB357_386.out _; (with_reducible repeat (first | refine blk_drewN ?_ _ | refine blk_drew ?_ | refine blk_alloc ?_ _)); exact BK357.out⟩, ⟨by (with_reducible repeat (first | refine blk_drewN ?_ _ | refine blk_drew ?_ | refine blk_alloc ?_ _)); refine blk_far ?_ NB358_386.out _; (with_reducible repeat (first | refine blk_drewN ?_ _ | refine blk_drew ?_ | refine blk_alloc ?_ _)); refine blk_far ?_ NB358_386.out _; (with_reducible repeat (first | refine blk_drewN ?_ _ | refine blk_drew ?_ | refine blk_alloc ?_ _)); refine blk_far ?_ NB358_386.out _; (with_reducible repeat (first | refine blk_drewN ?_ _ | refine blk_drew ?_ | refine blk_alloc ?_ _)); exact BK358.out⟩, ⟨by (with_reducible repeat (first | refine blk_drewN ?_ _ | refine blk_drew ?_ | refine blk_alloc ?_ _)); refine blk_far ?_ NB369_386.out _; (with_reducible repeat (first | refine blk_drewN ?_ _ | refine blk_drew ?_ | refine blk_alloc ?_ _)); refine blk_far ?_ NB369_386.out _; (with_reducible repeat (first | refine blk_drewN ?_ _ | refine blk_drew ?_ | refine blk_alloc ?_ _)); refine blk_far ?_ NB369_386.out _; (with_reducible repeat (first | refine blk_drewN ?_ _ | refine blk_drew ?_ | refine blk_alloc ?_ _)); exact BK369.out⟩, ⟨by (with_reducible repeat (first | refine blk_drewN ?_ _ | refine blk_drew ?_ | refine blk_alloc ?_ _)); refine blk_far ?_ NB370_386.out _; (with_reducible repeat (first | refine blk_drewN ?_ _ | refine blk_drew ?_ | refine blk_alloc ?_ _)); refine blk_far ?_ NB370_386.out _; (with_reducible repeat (first | refine blk_drewN ?_ _ | refine blk_drew ?_ | refine blk_alloc ?_ _)); refine blk_far ?_ NB370_386.out _; (with_reducible repeat (first | refine blk_drewN ?_ _ | refine blk_drew ?_ | refine blk_alloc ?_ _)); exact BK370.out⟩, ⟨by (with_reducible repeat (first | refine blk_drewN ?_ _ | refine blk_drew ?_ | refine blk_alloc ?_ _)); refine blk_far ?_ NB378_386.out _; (with_reducible repeat (first | refine blk_drewN ?_ _ | refine blk_drew ?_ | refine blk_alloc ?_ _)); refine blk_far ?_ NB378_386.out _; (with_reducible repeat (first | refine blk_drewN ?_ _ | refine blk_drew ?_ | refine blk_alloc ?_ _)); refine blk_far ?_ NB378_386.out _; (with_reducible repeat (first | refine blk_drewN ?_ _ | refine blk_drew ?_ | refine blk_alloc ?_ _)); exact BK378.out⟩, ⟨by (with_reducible repeat (first | refine blk_drewN ?_ _ | refine blk_drew ?_ | refine blk_alloc ?_ _)); refine blk_put (cs := #[.bool t382, .string t383, .string (⟨#[]⟩ : ByteArray)]) ?_ 2 _ rfl; (with_reducible repeat (first | refine blk_drewN ?_ _ | refine blk_drew ?_ | refine blk_alloc ?_ _)); refine blk_put (cs := #[.bool t382, .string (⟨#[]⟩ : ByteArray), .string (⟨#[]⟩ : ByteArray)]) ?_ 1 _ rfl; (with_reducible repeat (first | refine blk_drewN ?_ _ | refine blk_drew ?_ | refine blk_alloc ?_ _)); refine blk_put (cs := #[.bool false, .string (⟨#[]⟩ : ByteArray), .string (⟨#[]⟩ : ByteArray)]) ?_ 0 _ rfl; (with_reducible repeat (first | refine blk_drewN ?_ _ | refine blk_drew ?_ | refine blk_alloc ?_ _)); exact BK386.out⟩, (bl_ HB)⟩)
           ·rw [if_neg c65] at H
            have c65b0 : (t384.toList == t376.toList) = false := beq_eq_false_iff_ne.mpr c65
            have c65b1 : (t384.toList != t376.toList) = true := bne_iff_ne.mpr c65
            by_cases c77 : t376.size + 1 ≤ 9223372036854775807
            ·rw [if_pos c77] at H
             have c77b0 := eq_true c77
             have c77b1 : decide (t376.size + 1 ≤ 9223372036854775807) = true := decide_eq_true c77
             try have c77b2 : (9223372036854775807 < t376.size + 1) = False := eq_false (Nat.not_lt.2 c77)
             have H' := Aside0.mk H
             clear H
             have hnb78 := NB386_357.out
             have hnc78 := NB357_386.out
             have hnb79 := NB386_358.out
             have hnc79 := NB358_386.out
             have hnb80 := NB386_369.out
             have hnc80 := NB369_386.out
             have hnb81 := NB386_370.out
             have hnc81 := NB370_386.out
             have hnb82 := NB386_378.out
             have hnc82 := NB378_386.out
             obtain ⟨hcz83_0, hcz83_1, hcz83_2, hfz83_0, hfz83_1, hfz83_2⟩ := bo3_ BK386
             have hnb84 := NB378_357.out
             have hnc84 := NB357_378.out
             have hnb85 := NB378_358.out
             have hnc85 := NB358_378.out
             have hnb86 := NB378_369.out
             have hnc86 := NB369_378.out
             have hnb87 := NB378_370.out
             have hnc87 := NB370_378.out
             obtain ⟨hcz88_0, hcz88_1, hcz88_2, hfz88_0, hfz88_1, hfz88_2⟩ := bo3_ BK378
             go_wp2
             go_meet
             case rel => first | (exact ⟨_, ((t384.toList == (t376 ++ (⟨#[48]⟩ : ByteArray)).toList)), eq_, (by first | exact H' | (rw [hji8]; exact H') | (simp only [hji8]; exact H')), ⟨by have := HJ8.out; first | omega | exact Nat.le_refl _⟩, ⟨by (with_reducible repeat (first | refine blk_drewN ?_ _ | refine blk_drew ?_ | refine blk_alloc ?_ _)); refine blk_far ?_ NB357_386.out _; (with_reducible repeat (first | refine blk_drewN ?_ _ | refine blk_drew ?_ | refine blk_alloc ?_ _)); refine blk_far ?_ NB357_386.out _; (with_reducible repeat (first | refine blk_drewN ?_ _ | refine blk_drew ?_ | refine blk_alloc ?_ _)); refine blk_far ?_ NB357_386.out _; (with_reducible repeat (first | refine blk_drewN ?_ _ | refine blk_drew ?_ | refine blk_alloc ?_ _)); exact BK357.out⟩, ⟨by (with_reducible repeat (first | refine blk_drewN ?_ _ | refine blk_drew ?_ | refine blk_alloc ?_ _)); refine blk_far ?_ NB358_386.out _; (with_reducible repeat (first | refine blk_drewN ?_ _ | refine blk_drew ?_ | refine blk_alloc ?_ _)); refine blk_far ?_ NB358_386.out _; (with_reducible repeat (first | refine blk_drewN ?_ _ | refine blk_drew ?_ | refine blk_alloc ?_ _)); refine blk_far ?_ NB358_386.out _; (with_reducible repeat (first | refine blk_drewN ?_ _ | refine blk_drew ?_ | refine blk_alloc ?_ _)); exact BK358.out⟩, ⟨by (with_reducible repeat (first | refine blk_drewN ?_ _ | refine blk_drew ?_ | refine blk_alloc ?_ _)); refine blk_far ?_ NB369_386.out _; (with_reducible repeat (first | refine blk_drewN ?_ _ | refine blk_drew ?_ | refine blk_alloc ?_ _)); refine blk_far ?_ NB369_386.out _; (with_reducible repeat (first | refine blk_drewN ?_ _ | refine blk_drew ?_ | refine blk_alloc ?_ _)); refine blk_far ?_ NB369_386.out _; (with_reducible repeat (first | refine blk_drewN ?_ _ | refine blk_drew ?_ | refine blk_alloc ?_ _)); exact BK369.out⟩, ⟨by (with_reducible repeat (first | refine blk_drewN ?_ _ | refine blk_drew ?_ | refine blk_alloc ?_ _)); refine blk_far ?_ NB370_386.out _; (with_reducible repeat (first | refine blk_drewN ?_ _ | refine blk_drew ?_ | refine blk_alloc ?_ _)); refine blk_far ?_ NB370_386.out _; (with_reducible repeat (first | refine blk_drewN ?_ _ | refine blk_drew ?_ | refine blk_alloc ?_ _)); refine blk_far ?_ NB370_386.out _; (with_reducible repeat (first | refine blk_drewN ?_ _ | refine blk_drew ?_ | refine blk_alloc ?_ _)); exact BK370.out⟩, ⟨by (with_reducible repeat (first | refine blk_drewN ?_ _ | refine blk_drew ?_ | refine blk_alloc ?_ _)); refine blk_far ?_ NB378_386.out _; (with_reducible repeat (first | refine blk_drewN ?_ _ | refine blk_drew ?_ | refine blk_alloc ?_ _)); refine blk_far ?_ NB378_386.out _; (with_reducible repeat (first | refine blk_drewN ?_ _ | refine blk_drew ?_ | refine blk_alloc ?_ _)); refine blk_far ?_ NB378_386.out _; (with_reducible repeat (first | refine blk_drewN ?_ _ | refine blk_drew ?_ | refine blk_alloc ?_ _)); exact BK378.out⟩, ⟨by (with_reducible repeat (first | refine blk_drewN ?_ _ | refine blk_drew ?_ | refine blk_alloc ?_ _)); refine blk_put (cs := #[.bool t382, .string t383, .string (⟨#[]⟩ : ByteArray)]) ?_ 2 _ rfl; (with_reducible repeat (first | refine blk_drewN ?_ _ | refine blk_drew ?_ | refine blk_alloc ?_ _)); refine blk_put (cs := #[.bool t382, .string (⟨#[]⟩ : ByteArray), .string (⟨#[]⟩ : ByteArray)]) ?_ 1 _ rfl; (with_reducible repeat (first | refine blk_drewN ?_ _ | refine blk_drew ?_ | refine blk_alloc ?_ _)); refine blk_put (cs := #[.bool false, .string (⟨#[]⟩ : ByteArray), .string (⟨#[]⟩ : ByteArray)]) ?_ 0 _ rfl; (with_reducible repeat (first | refine blk_drewN ?_ _ | refine blk_drew ?_ | refine blk_alloc ?_ _)); exact BK386.out⟩, (bl_ HB)⟩) | (rw [← hji8] at H'; exact ⟨_, ((t384.toList == (t376 ++ (⟨#[48]⟩ : ByteArray)).toList)), eq_, (by first | exact H' | (rw [hji8]; exact H') | (simp only [hji8]; exact H')), ⟨by have := HJ8.out; first | omega | exact Nat.le_refl _⟩, ⟨by (with_reducible repeat (first | refine blk_drewN ?_ _ | refine blk_drew ?_ | refine blk_alloc ?_ _)); refine blk_far ?_ NB357_386.out _; (with_reducible repeat (first | refine blk_drewN ?_ _ | refine blk_drew ?_ | refine blk_alloc ?_ _)); refine blk_far ?_ NB357_386.out _; (with_reducible repeat (first | refine blk_drewN ?_ _ | refine blk_drew ?_ | refine blk_alloc ?_ _)); refine blk_far ?_ NB357_386.out _; (with_reducible repeat (first | refine blk_drewN ?_ _ | refine blk_drew ?_ | refine blk_alloc ?_ _)); exact BK357.out⟩, ⟨by (with_reducible repeat (first | refine blk_drewN ?_ _ | refine blk_drew ?_ | refine blk_alloc ?_ _)); refine blk_far ?_ NB358_386.out _; (with_reducible repeat (first | refine blk_drewN ?_ _ | refine blk_drew ?_ | refine blk_alloc ?_ _)); refine blk_far ?_ NB358_386.out _; (with_reducible repeat (first | refine blk_drewN ?_ _ | refine blk_drew ?_ | refine blk_alloc ?_ _)); refine blk_far ?_ NB358_386.out _; (with_reducible repeat (first | refine blk_drewN ?_ _ | refine blk_drew ?_ | refine blk_alloc ?_ _)); exact BK358.out⟩, ⟨by (with_reducible repeat (first | refine blk_drewN ?_ _ | refine blk_drew ?_ | refine blk_alloc ?_ _)); refine blk_far ?_ NB369_386.out _; (with_reducible repeat (first | refine blk_drewN ?_ _ | refine blk_drew ?_ | refine blk_alloc ?_ _)); refine blk_far ?_ NB369_386.out _; (with_reducible repeat (first | refine blk_drewN ?_ _ | refine blk_drew ?_ | refine blk_alloc ?_ _)); refine blk_far ?_ NB369_386.out _; (with_reducible repeat (first | refine blk_drewN ?_ _ | refine blk_drew ?_ | refine blk_alloc ?_ _)); exact BK369.out⟩, ⟨by (with_reducible repeat (first | refine blk_drewN ?_ _ | refine blk_drew ?_ | refine blk_alloc ?_ _)); refine blk_far ?_ NB370_386.out _; (with_reducible repeat (first | refine blk_drewN ?_ _ | refine blk_drew ?_ | refine blk_alloc ?_ _)); refine blk_far ?_ NB370_386.out _; (with_reducible repeat (first | refine blk_drewN ?_ _ | refine blk_drew ?_ | refine blk_alloc ?_ _)); refine blk_far ?_ NB370_386.out _; (with_reducible repeat (first | refine blk_drewN ?_ _ | refine blk_drew ?_ | refine blk_alloc ?_ _)); exact BK370.out⟩, ⟨by (with_reducible repeat (first | refine blk_drewN ?_ _ | refine blk_drew ?_ | refine blk_alloc ?_ _)); refine blk_far ?_ NB378_386.out _; (with_reducible repeat (first | refine blk_drewN ?_ _ | refine blk_drew ?_ | refine blk_alloc ?_ _)); refine blk_far ?_ NB378_386.out _; (with_reducible repeat (first | refine blk_drewN ?_ _ | refine blk_drew ?_ | refine blk_alloc ?_ _)); refine blk_far ?_ NB378_386.out _; (with_reducible repeat (first | refine blk_drewN ?_ _ | refine blk_drew ?_ | refine blk_alloc ?_ _)); exact BK378.out⟩, ⟨by (with_reducible repeat (first | refine blk_drewN ?_ _ | refine blk_drew ?_ | refine blk_alloc ?_ _)); refine blk_put (cs := #[.bool t382, .string t383, .string (⟨#[]⟩ : ByteArray)]) ?_ 2 _ rfl; (with_reducible repeat (first | refine blk_drewN ?_ _ | refine blk_drew ?_ | refine blk_alloc ?_ _)); refine blk_put (cs := #[.bool t382, .string (⟨#[]⟩ : ByteArray), .string (⟨#[]⟩ : ByteArray)]) ?_ 1 _ rfl; (with_reducible repeat (first | refine blk_drewN ?_ _ | refine blk_drew ?_ | refine blk_alloc ?_ _)); refine blk_put (cs := #[.bool false, .string (⟨#[]⟩ : ByteArray), .string (⟨#[]⟩ : ByteArray)]) ?_ 0 _ rfl; (with_reducible repeat (first | refine blk_drewN ?_ _ | refine blk_drew ?_ | refine blk_alloc ?_ _)); exact BK386.out⟩, (bl_ HB)⟩)
            ·rw [if_neg c77] at H
             exact absurd H (by simp)
          ·rw [if_neg c64] at H
           have c64b0 : (t383.toList == t375.toList) = false := beq_eq_false_iff_ne.mpr c64
           have c64b1 : (t383.toList != t375.toList) = true := bne_iff_ne.mpr c64
           have H' := Aside0.mk H
           clear H
           have hnb89 := NB386_357.out
           have hnc89 := NB357_386.out
           have hnb90 := NB386_358.out
           have hnc90 := NB358_386.out
           have hnb91 := NB386_369.out
           have hnc91 := NB369_386.out
           have hnb92 := NB386_370.out
           have hnc92 := NB370_386.out
           have hnb93 := NB386_378.out
           have hnc93 := NB378_386.out
           obtain ⟨hcz94_0, hcz94_1, hcz94_2, hfz94_0, hfz94_1, hfz94_2⟩ := bo3_ BK386
           have hnb95 := NB378_357.out
           have hnc95 := NB357_378.out
           have hnb96 := NB378_358.out
           have hnc96 := NB358_378.out
           have hnb97 := NB378_369.out
           have hnc97 := NB369_378.out
           have hnb98 := NB378_370.out
           have hnc98 := NB370_378.out
           obtain ⟨hcz99_0, hcz99_1, hcz99_2, hfz99_0, hfz99_1, hfz99_2⟩ := bo3_ BK378
           go_wp2
           go_meet
           case rel => first | (exact ⟨_, (false), eq_, (by first | exact H' | (rw [hji8]; exact H') | (simp only [hji8]; exact H')), ⟨by have := HJ8.out; first | omega | exact Nat.le_refl _⟩, ⟨by (with_reducible repeat (first | refine blk_drewN ?_ _ | refine blk_drew ?_ | refine blk_alloc ?_ _)); refine blk_far ?_ NB357_386.out _; (with_reducible repeat (first | refine blk_drewN ?_ _ | refine blk_drew ?_ | refine blk_alloc ?_ _)); refine blk_far ?_ NB357_386.out _; (with_reducible repeat (first | refine blk_drewN ?_ _ | refine blk_drew ?_ | refine blk_alloc ?_ _)); refine blk_far ?_ NB357_386.out _; (with_reducible repeat (first | refine blk_drewN ?_ _ | refine blk_drew ?_ | refine blk_alloc ?_ _)); exact BK357.out⟩, ⟨by (with_reducible repeat (first | refine blk_drewN ?_ _ | refine blk_drew ?_ | refine blk_alloc ?_ _)); refine blk_far ?_ NB358_386.out _; (with_reducible repeat (first | refine blk_drewN ?_ _ | refine blk_drew ?_ | refine blk_alloc ?_ _)); refine blk_far ?_ NB358_386.out _; (with_reducible repeat (first | refine blk_drewN ?_ _ | refine blk_drew ?_ | refine blk_alloc ?_ _)); refine blk_far ?_ NB358_386.out _; (with_reducible repeat (first | refine blk_drewN ?_ _ | refine blk_drew ?_ | refine blk_alloc ?_ _)); exact BK358.out⟩, ⟨by (with_reducible repeat (first | refine blk_drewN ?_ _ | refine blk_drew ?_ | refine blk_alloc ?_ _)); refine blk_far ?_ NB369_386.out _; (with_reducible repeat (first | refine blk_drewN ?_ _ | refine blk_drew ?_ | refine blk_alloc ?_ _)); refine blk_far ?_ NB369_386.out _; (with_reducible repeat (first | refine blk_drewN ?_ _ | refine blk_drew ?_ | refine blk_alloc ?_ _)); refine blk_far ?_ NB369_386.out _; (with_reducible repeat (first | refine blk_drewN ?_ _ | refine blk_drew ?_ | refine blk_alloc ?_ _)); exact BK369.out⟩, ⟨by (with_reducible repeat (first | refine blk_drewN ?_ _ | refine blk_drew ?_ | refine blk_alloc ?_ _)); refine blk_far ?_ NB370_386.out _; (with_reducible repeat (first | refine blk_drewN ?_ _ | refine blk_drew ?_ | refine blk_alloc ?_ _)); refine blk_far ?_ NB370_386.out _; (with_reducible repeat (first | refine blk_drewN ?_ _ | refine blk_drew ?_ | refine blk_alloc ?_ _)); refine blk_far ?_ NB370_386.out _; (with_reducible repeat (first | refine blk_drewN ?_ _ | refine blk_drew ?_ | refine blk_alloc ?_ _)); exact BK370.out⟩, ⟨by (with_reducible repeat (first | refine blk_drewN ?_ _ | refine blk_drew ?_ | refine blk_alloc ?_ _)); refine blk_far ?_ NB378_386.out _; (with_reducible repeat (first | refine blk_drewN ?_ _ | refine blk_drew ?_ | refine blk_alloc ?_ _)); refine blk_far ?_ NB378_386.out _; (with_reducible repeat (first | refine blk_drewN ?_ _ | refine blk_drew ?_ | refine blk_alloc ?_ _)); refine blk_far ?_ NB378_386.out _; (with_reducible repeat (first | refine blk_drewN ?_ _ | refine blk_drew ?_ | refine blk_alloc ?_ _)); exact BK378.out⟩, ⟨by (with_reducible repeat (first | refine blk_drewN ?_ _ | refine blk_drew ?_ | refine blk_alloc ?_ _)); refine blk_put (cs := #[.bool t382, .string t383, .string (⟨#[]⟩ : ByteArray)]) ?_ 2 _ rfl; (with_reducible repeat (first | refine blk_drewN ?_ _ | refine blk_drew ?_ | refine blk_alloc ?_ _)); refine blk_put (cs := #[.bool t382, .string (⟨#[]⟩ : ByteArray), .string (⟨#[]⟩ : ByteArray)]) ?_ 1 _ rfl; (with_reducible repeat (first | refine blk_drewN ?_ _ | refine blk_drew ?_ | refine blk_alloc ?_ _)); refine blk_put (cs := #[.bool false, .string (⟨#[]⟩ : ByteArray), .string (⟨#[]⟩ : ByteArray)]) ?_ 0 _ rfl; (with_reducible repeat (first | refine blk_drewN ?_ _ | refine blk_drew ?_ | refine blk_alloc ?_ _)); exact BK386.out⟩, (bl_ HB)⟩) | (rw [← hji8] at H'; exact ⟨_, (false), eq_, (by first | exact H' | (rw [hji8]; exact H') | (simp only [hji8]; exact H')), ⟨by have := HJ8.out; first | omega | exact Nat.le_refl _⟩, ⟨by (with_reducible repeat (first | refine blk_drewN ?_ _ | refine blk_drew ?_ | refine blk_alloc ?_ _)); refine blk_far ?_ NB357_386.out _; (with_reducible repeat (first | refine blk_drewN ?_ _ | refine blk_drew ?_ | refine blk_alloc ?_ _)); refine blk_far ?_ NB357_386.out _; (with_reducible repeat (first | refine blk_drewN ?_ _ | refine blk_drew ?_ | refine blk_alloc ?_ _)); refine blk_far ?_ NB357_386.out _; (with_reducible repeat (first | refine blk_drewN ?_ _ | refine blk_drew ?_ | refine blk_alloc ?_ _)); exact BK357.out⟩, ⟨by (with_reducible repeat (first | refine blk_drewN ?_ _ | refine blk_drew ?_ | refine blk_alloc ?_ _)); refine blk_far ?_ NB358_386.out _; (with_reducible repeat (first | refine blk_drewN ?_ _ | refine blk_drew ?_ | refine blk_alloc ?_ _)); refine blk_far ?_ NB358_386.out _; (with_reducible repeat (first | refine blk_drewN ?_ _ | refine blk_drew ?_ | refine blk_alloc ?_ _)); refine blk_far ?_ NB358_386.out _; (with_reducible repeat (first | refine blk_drewN ?_ _ | refine blk_drew ?_ | refine blk_alloc ?_ _)); exact BK358.out⟩, ⟨by (with_reducible repeat (first | refine blk_drewN ?_ _ | refine blk_drew ?_ | refine blk_alloc ?_ _)); refine blk_far ?_ NB369_386.out _; (with_reducible repeat (first | refine blk_drewN ?_ _ | refine blk_drew ?_ | refine blk_alloc ?_ _)); refine blk_far ?_ NB369_386.out _; (with_reducible repeat (first | refine blk_drewN ?_ _ | refine blk_drew ?_ | refine blk_alloc ?_ _)); refine blk_far ?_ NB369_386.out _; (with_reducible repeat (first | refine blk_drewN ?_ _ | refine blk_drew ?_ | refine blk_alloc ?_ _)); exact BK369.out⟩, ⟨by (with_reducible repeat (first | refine blk_drewN ?_ _ | refine blk_drew ?_ | refine blk_alloc ?_ _)); refine blk_far ?_ NB370_386.out _; (with_reducible repeat (first | refine blk_drewN ?_ _ | refine blk_drew ?_ | refine blk_alloc ?_ _)); refine blk_far ?_ NB370_386.out _; (with_reducible repeat (first | refine blk_drewN ?_ _ | refine blk_drew ?_ | refine blk_alloc ?_ _)); refine blk_far ?_ NB370_386.out _; (with_reducible repeat (first | refine blk_drewN ?_ _ | refine blk_drew ?_ | refine blk_alloc ?_ _)); exact BK370.out⟩, ⟨by (with_reducible repeat (first | refine blk_drewN ?_ _ | refine blk_drew ?_ | refine blk_alloc ?_ _)); refine blk_far ?_ NB378_386.out _; (with_reducible repeat (first | refine blk_drewN ?_ _ | refine blk_drew ?_ | refine blk_alloc ?_ _)); refine blk_far ?_ NB378_386.out _; (with_reducible repeat (first | refine blk_drewN ?_ _ | refine blk_drew ?_ | refine blk_alloc ?_ _)); refine blk_far ?_ NB378_386.out _; (with_reducible repeat (first | refine blk_drewN ?_ _ | refine blk_drew ?_ | refine blk_alloc ?_ _)); exact BK378.out⟩, ⟨by (with_reducible repeat (first | refine blk_drewN ?_ _ | refine blk_drew ?_ | refine blk_alloc ?_ _)); refine blk_put (cs := #[.bool t382, .string t383, .string (⟨#[]⟩ : ByteArray)]) ?_ 2 _ rfl; (with_reducible repeat (first | refine blk_drewN ?_ _ | refine blk_drew ?_ | refine blk_alloc ?_ _)); refine blk_put (cs := #[.bool t382, .string (⟨#[]⟩ : ByteArray), .string (⟨#[]⟩ : ByteArray)]) ?_ 1 _ rfl; (with_reducible repeat (first | refine blk_drewN ?_ _ | refine blk_drew ?_ | refine blk_alloc ?_ _)); refine blk_put (cs := #[.bool false, .string (⟨#[]⟩ : ByteArray), .string (⟨#[]⟩ : ByteArray)]) ?_ 0 _ rfl; (with_reducible repeat (first | refine blk_drewN ?_ _ | refine blk_drew ?_ | refine blk_alloc ?_ _)); exact BK386.out⟩, (bl_ HB)⟩)
         ·rw [if_neg c63] at H
          have c63b0 : (t382 == t374) = false := by simpa using c63
          (try (have c63b1 : decide (t382 = t374) = false := by simpa using c63))
          (try (have c63b2 : (t382 == t374) = false := by simpa using c63))
          (try (have c63b3 : ¬ (t382 = t374) := by simpa using c63))
          clear c63
          have H' := Aside0.mk H
          clear H
          have hnb100 := NB386_357.out
          have hnc100 := NB357_386.out
          have hnb101 := NB386_358.out
          have hnc101 := NB358_386.out
          have hnb102 := NB386_369.out
          have hnc102 := NB369_386.out
          have hnb103 := NB386_370.out
          have hnc103 := NB370_386.out
          have hnb104 := NB386_378.out
          have hnc104 := NB378_386.out
          obtain ⟨hcz105_0, hcz105_1, hcz105_2, hfz105_0, hfz105_1, hfz105_2⟩ := bo3_ BK386
          have hnb106 := NB378_357.out
          have hnc106 := NB357_378.out
          have hnb107 := NB378_358.out
          have hnc107 := NB358_378.out
          have hnb108 := NB378_369.out
          have hnc108 := NB369_378.out
          have hnb109 := NB378_370.out
          have hnc109 := NB370_378.out
          obtain ⟨hcz110_0, hcz110_1, hcz110_2, hfz110_0, hfz110_1, hfz110_2⟩ := bo3_ BK378
          go_wp2
          go_meet
          case rel => first | (exact ⟨_, (false), eq_, (by first | exact H' | (rw [hji8]; exact H') | (simp only [hji8]; exact H')), ⟨by have := HJ8.out; first | omega | exact Nat.le_refl _⟩, ⟨by (with_reducible repeat (first | refine blk_drewN ?_ _ | refine blk_drew ?_ | refine blk_alloc ?_ _)); refine blk_far ?_ NB357_386.out _; (with_reducible repeat (first | refine blk_drewN ?_ _ | refine blk_drew ?_ | refine blk_alloc ?_ _)); refine blk_far ?_ NB357_386.out _; (with_reducible repeat (first | refine blk_drewN ?_ _ | refine blk_drew ?_ | refine blk_alloc ?_ _)); refine blk_far ?_ NB357_386.out _; (with_reducible repeat (first | refine blk_drewN ?_ _ | refine blk_drew ?_ | refine blk_alloc ?_ _)); exact BK357.out⟩, ⟨by (with_reducible repeat (first | refine blk_drewN ?_ _ | refine blk_drew ?_ | refine blk_alloc ?_ _)); refine blk_far ?_ NB358_386.out _; (with_reducible repeat (first | refine blk_drewN ?_ _ | refine blk_drew ?_ | refine blk_alloc ?_ _)); refine blk_far ?_ NB358_386.out _; (with_reducible repeat (first | refine blk_drewN ?_ _ | refine blk_drew ?_ | refine blk_alloc ?_ _)); refine blk_far ?_ NB358_386.out _; (with_reducible repeat (first | refine blk_drewN ?_ _ | refine blk_drew ?_ | refine blk_alloc ?_ _)); exact BK358.out⟩, ⟨by (with_reducible repeat (first | refine blk_drewN ?_ _ | refine blk_drew ?_ | refine blk_alloc ?_ _)); refine blk_far ?_ NB369_386.out _; (with_reducible repeat (first | refine blk_drewN ?_ _ | refine blk_drew ?_ | refine blk_alloc ?_ _)); refine blk_far ?_ NB369_386.out _; (with_reducible repeat (first | refine blk_drewN ?_ _ | refine blk_drew ?_ | refine blk_alloc ?_ _)); refine blk_far ?_ NB369_386.out _; (with_reducible repeat (first | refine blk_drewN ?_ _ | refine blk_drew ?_ | refine blk_alloc ?_ _)); exact BK369.out⟩, ⟨by (with_reducible repeat (first | refine blk_drewN ?_ _ | refine blk_drew ?_ | refine blk_alloc ?_ _)); refine blk_far ?_ NB370_386.out _; (with_reducible repeat (first | refine blk_drewN ?_ _ | refine blk_drew ?_ | refine blk_alloc ?_ _)); refine blk_far ?_ NB370_386.out _; (with_reducible repeat (first | refine blk_drewN ?_ _ | refine blk_drew ?_ | refine blk_alloc ?_ _)); refine blk_far ?_ NB370_386.out _; (with_reducible repeat (first | refine blk_drewN ?_ _ | refine blk_drew ?_ | refine blk_alloc ?_ _)); exact BK370.out⟩, ⟨by (with_reducible repeat (first | refine blk_drewN ?_ _ | refine blk_drew ?_ | refine blk_alloc ?_ _)); refine blk_far ?_ NB378_386.out _; (with_reducible repeat (first | refine blk_drewN ?_ _ | refine blk_drew ?_ | refine blk_alloc ?_ _)); refine blk_far ?_ NB378_386.out _; (with_reducible repeat (first | refine blk_drewN ?_ _ | refine blk_drew ?_ | refine blk_alloc ?_ _)); refine blk_far ?_ NB378_386.out _; (with_reducible repeat (first | refine blk_drewN ?_ _ | refine blk_drew ?_ | refine blk_alloc ?_ _)); exact BK378.out⟩, ⟨by (with_reducible repeat (first | refine blk_drewN ?_ _ | refine blk_drew ?_ | refine blk_alloc ?_ _)); refine blk_put (cs := #[.bool t382, .string t383, .string (⟨#[]⟩ : ByteArray)]) ?_ 2 _ rfl; (with_reducible repeat (first | refine blk_drewN ?_ _ | refine blk_drew ?_ | refine blk_alloc ?_ _)); refine blk_put (cs := #[.bool t382, .string (⟨#[]⟩ : ByteArray), .string (⟨#[]⟩ : ByteArray)]) ?_ 1 _ rfl; (with_reducible repeat (first | refine blk_drewN ?_ _ | refine blk_drew ?_ | refine blk_alloc ?_ _)); refine blk_put (cs := #[.bool false, .string (⟨#[]⟩ : ByteArray), .string (⟨#[]⟩ : ByteArray)]) ?_ 0 _ rfl; (with_reducible repeat (first | refine blk_drewN ?_ _ | refine blk_drew ?_ | refine blk_alloc ?_ _)); exact BK386.out⟩, (bl_ HB)⟩) | (rw [← hji8] at H'; exact ⟨_, (false), eq_, (by first | exact H' | (rw [hji8]; exact H') | (simp only [hji8]; exact H')), ⟨by have := HJ8.out; first | omega | exact Nat.le_refl _⟩, ⟨by (with_reducible repeat (first | refine blk_drewN ?_ _ | refine blk_drew ?_ | refine blk_alloc ?_ _)); refine blk_far ?_ NB357_386.out _; (with_reducible repeat (first | refine blk_drewN ?_ _ | refine blk_drew ?_ | refine blk_alloc ?_ _)); refine blk_far ?_ NB357_386.out _; (with_reducible repeat (first | refine blk_drewN ?_ _ | refine blk_drew ?_ | refine blk_alloc ?_ _)); refine blk_far ?_ NB357_386.out _; (with_reducible repeat (first | refine blk_drewN ?_ _ | refine blk_drew ?_ | refine blk_alloc ?_ _)); exact BK357.out⟩, ⟨by (with_reducible repeat (first | refine blk_drewN ?_ _ | refine blk_drew ?_ | refine blk_alloc ?_ _)); refine blk_far ?_ NB358_386.out _; (with_reducible repeat (first | refine blk_drewN ?_ _ | refine blk_drew ?_ | refine blk_alloc ?_ _)); refine blk_far ?_ NB358_386.out _; (with_reducible repeat (first | refine blk_drewN ?_ _ | refine blk_drew ?_ | refine blk_alloc ?_ _)); refine blk_far ?_ NB358_386.out _; (with_reducible repeat (first | refine blk_drewN ?_ _ | refine blk_drew ?_ | refine blk_alloc ?_ _)); exact BK358.out⟩, ⟨by (with_reducible repeat (first | refine blk_drewN ?_ _ | refine blk_drew ?_ | refine blk_alloc ?_ _)); refine blk_far ?_ NB369_386.out _; (with_reducible repeat (first | refine blk_drewN ?_ _ | refine blk_drew ?_ | refine blk_alloc ?_ _)); refine blk_far ?_ NB369_386.out _; (with_reducible repeat (first | refine blk_drewN ?_ _ | refine blk_drew ?_ | refine blk_alloc ?_ _)); refine blk_far ?_ NB369_386.out _; (with_reducible repeat (first | refine blk_drewN ?_ _ | refine blk_drew ?_ | refine blk_alloc ?_ _)); exact BK369.out⟩, ⟨by (with_reducible repeat (first | refine blk_drewN ?_ _ | refine blk_drew ?_ | refine blk_alloc ?_ _)); refine blk_far ?_ NB370_386.out _; (with_reducible repeat (first | refine blk_drewN ?_ _ | refine blk_drew ?_ | refine blk_alloc ?_ _)); refine blk_far ?_ NB370_386.out _; (with_reducible repeat (first | refine blk_drewN ?_ _ | refine blk_drew ?_ | refine blk_alloc ?_ _)); refine blk_far ?_ NB370_386.out _; (with_reducible repeat (first | refine blk_drewN ?_ _ | refine blk_drew ?_ | refine blk_alloc ?_ _)); exact BK370.out⟩, ⟨by (with_reducible repeat (first | refine blk_drewN ?_ _ | refine blk_drew ?_ | refine blk_alloc ?_ _)); refine blk_far ?_ NB378_386.out _; (with_reducible repeat (first | refine blk_drewN ?_ _ | refine blk_drew ?_ | refine blk_alloc ?_ _)); refine blk_far ?_ NB378_386.out _; (with_reducible repeat (first | refine blk_drewN ?_ _ | refine blk_drew ?_ | refine blk_alloc ?_ _)); refine blk_far ?_ NB378_386.out _; (with_reducible repeat (first | refine blk_drewN ?_ _ | refine blk_drew ?_ | refine blk_alloc ?_ _)); exact BK378.out⟩, ⟨by (with_reducible repeat (first | refine blk_drewN ?_ _ | refine blk_drew ?_ | refine blk_alloc ?_ _)); refine blk_put (cs := #[.bool t382, .string t383, .string (⟨#[]⟩ : ByteArray)]) ?_ 2 _ rfl; (with_reducible repeat (first | refine blk_drewN ?_ _ | refine blk_drew ?_ | refine blk_alloc ?_ _)); refine blk_put (cs := #[.bool t382, .string (⟨#[]⟩ : ByteArray), .string (⟨#[]⟩ : ByteArray)]) ?_ 1 _ rfl; (with_reducible repeat (first | refine blk_drewN ?_ _ | refine blk_drew ?_ | refine blk_alloc ?_ _)); refine blk_put (cs := #[.bool false, .string (⟨#[]⟩ : ByteArray), .string (⟨#[]⟩ : ByteArray)]) ?_ 0 _ rfl; (with_reducible repeat (first | refine blk_drewN ?_ _ | refine blk_drew ?_ | refine blk_alloc ?_ _)); exact BK386.out⟩, (bl_ HB)⟩)
        ·rw [if_neg c62] at H
         have c62b0 : (t385 == 0) = false := beq_eq_false_iff_ne.mpr c62
         have c62b1 : (t385 != 0) = true := bne_iff_ne.mpr c62
         have H' := Aside0.mk H
         clear H
         go_wp2
         go_meet
         case rel => first | (exact ⟨_, (false), eq_, (by first | exact H' | (rw [hji8]; exact H') | (simp only [hji8]; exact H')), ⟨by have := HJ8.out; first | omega | exact Nat.le_refl _⟩, ⟨by (with_reducible repeat (first | refine blk_drewN ?_ _ | refine blk_drew ?_ | refine blk_alloc ?_ _)); refine blk_far ?_ NB357_386.out _; (with_reducible repeat (first | refine blk_drewN ?_ _ | refine blk_drew ?_ | refine blk_alloc ?_ _)); refine blk_far ?_ NB357_386.out _; (with_reducible repeat (first | refine blk_drewN ?_ _ | refine blk_drew ?_ | refine blk_alloc ?_ _)); refine blk_far ?_ NB357_386.out _; (with_reducible repeat (first | refine blk_drewN ?_ _ | refine blk_drew ?_ | refine blk_alloc ?_ _)); exact BK357.out⟩, ⟨by (with_reducible repeat (first | refine blk_drewN ?_ _ | refine blk_drew ?_ | refine blk_alloc ?_ _)); refine blk_far ?_ NB358_386.out _; (with_reducible repeat (first | refine blk_drewN ?_ _ | refine blk_drew ?_ | refine blk_alloc ?_ _)); refine blk_far ?_ NB358_386.out _; (with_reducible repeat (first | refine blk_drewN ?_ _ | refine blk_drew ?_ | refine blk_alloc ?_ _)); refine blk_far ?_ NB358_386.out _; (with_reducible repeat (first | refine blk_drewN ?_ _ | refine blk_drew ?_ | refine blk_alloc ?_ _)); exact BK358.out⟩, ⟨by (with_reducible repeat (first | refine blk_drewN ?_ _ | refine blk_drew ?_ | refine blk_alloc ?_ _)); refine blk_far ?_ NB369_386.out _; (with_reducible repeat (first | refine blk_drewN ?_ _ | refine blk_drew ?_ | refine blk_alloc ?_ _)); refine blk_far ?_ NB369_386.out _; (with_reducible repeat (first | refine blk_drewN ?_ _ | refine blk_drew ?_ | refine blk_alloc ?_ _)); refine blk_far ?_ NB369_386.out _; (with_reducible repeat (first | refine blk_drewN ?_ _ | refine blk_drew ?_ | refine blk_alloc ?_ _)); exact BK369.out⟩, ⟨by (with_reducible repeat (first | refine blk_drewN ?_ _ | refine blk_drew ?_ | refine blk_alloc ?_ _)); refine blk_far ?_ NB370_386.out _; (with_reducible repeat (first | refine blk_drewN ?_ _ | refine blk_drew ?_ | refine blk_alloc ?_ _)); refine blk_far ?_ NB370_386.out _; (with_reducible repeat (first | refine blk_drewN ?_ _ | refine blk_drew ?_ | refine blk_alloc ?_ _)); refine blk_far ?_ NB370_386.out _; (with_reducible repeat (first | refine blk_drewN ?_ _ | refine blk_drew ?_ | refine blk_alloc ?_ _)); exact BK370.out⟩, ⟨by (with_reducible repeat (first | refine blk_drewN ?_ _ | refine blk_drew ?_ | refine blk_alloc ?_ _)); refine blk_far ?_ NB378_386.out _; (with_reducible repeat (first | refine blk_drewN ?_ _ | refine blk_drew ?_ | refine blk_alloc ?_ _)); refine blk_far ?_ NB378_386.out _; (with_reducible repeat (first | refine blk_drewN ?_ _ | refine blk_drew ?_ | refine blk_alloc ?_ _)); refine blk_far ?_ NB378_386.out _; (with_reducible repeat (first | refine blk_drewN ?_ _ | refine blk_drew ?_ | refine blk_alloc ?_ _)); exact BK378.out⟩, ⟨by (with_reducible repeat (first | refine blk_drewN ?_ _ | refine blk_drew ?_ | refine blk_alloc ?_ _)); refine blk_put (cs := #[.bool t382, .string t383, .string (⟨#[]⟩ : ByteArray)]) ?_ 2 _ rfl; (with_reducible repeat (first | refine blk_drewN ?_ _ | refine blk_drew ?_ | refine blk_alloc ?_ _)); refine blk_put (cs := #[.bool t382, .string (⟨#[]⟩ : ByteArray), .string (⟨#[]⟩ : ByteArray)]) ?_ 1 _ rfl; (with_reducible repeat (first | refine blk_drewN ?_ _ | refine blk_drew ?_ | refine blk_alloc ?_ _)); refine blk_put (cs := #[.bool false, .string (⟨#[]⟩ : ByteArray), .string (⟨#[]⟩ : ByteArray)]) ?_ 0 _ rfl; (with_reducible repeat (first | refine blk_drewN ?_ _ | refine blk_drew ?_ | refine blk_alloc ?_ _)); exact BK386.out⟩, (bl_ HB)⟩) | (rw [← hji8] at H'; exact ⟨_, (false), eq_, (by first | exact H' | (rw [hji8]; exact H') | (simp only [hji8]; exact H')), ⟨by have := HJ8.out; first | omega | exact Nat.le_refl _⟩, ⟨by (with_reducible repeat (first | refine blk_drewN ?_ _ | refine blk_drew ?_ | refine blk_alloc ?_ _)); refine blk_far ?_ NB357_386.out _; (with_reducible repeat (first | refine blk_drewN ?_ _ | refine blk_drew ?_ | refine blk_alloc ?_ _)); refine blk_far ?_ NB357_386.out _; (with_reducible repeat (first | refine blk_drewN ?_ _ | refine blk_drew ?_ | refine blk_alloc ?_ _)); refine blk_far ?_ NB357_386.out _; (with_reducible repeat (first | refine blk_drewN ?_ _ | refine blk_drew ?_ | refine blk_alloc ?_ _)); exact BK357.out⟩, ⟨by (with_reducible repeat (first | refine blk_drewN ?_ _ | refine blk_drew ?_ | refine blk_alloc ?_ _)); refine blk_far ?_ NB358_386.out _; (with_reducible repeat (first | refine blk_drewN ?_ _ | refine blk_drew ?_ | refine blk_alloc ?_ _)); refine blk_far ?_ NB358_386.out _; (with_reducible repeat (first | refine blk_drewN ?_ _ | refine blk_drew ?_ | refine blk_alloc ?_ _)); refine blk_far ?_ NB358_386.out _; (with_reducible repeat (first | refine blk_drewN ?_ _ | refine blk_drew ?_ | refine blk_alloc ?_ _)); exact BK358.out⟩, ⟨by (with_reducible repeat (first | refine blk_drewN ?_ _ | refine blk_drew ?_ | refine blk_alloc ?_ _)); refine blk_far ?_ NB369_386.out _; (with_reducible repeat (first | refine blk_drewN ?_ _ | refine blk_drew ?_ | refine blk_alloc ?_ _)); refine blk_far ?_ NB369_386.out _; (with_reducible repeat (first | refine blk_drewN ?_ _ | refine blk_drew ?_ | refine blk_alloc ?_ _)); refine blk_far ?_ NB369_386.out _; (with_reducible repeat (first | refine blk_drewN ?_ _ | refine blk_drew ?_ | refine blk_alloc ?_ _)); exact BK369.out⟩, ⟨by (with_reducible repeat (first | refine blk_drewN ?_ _ | refine blk_drew ?_ | refine blk_alloc ?_ _)); refine blk_far ?_ NB370_386.out _; (with_reducible repeat (first | refine blk_drewN ?_ _ | refine blk_drew ?_ | refine blk_alloc ?_ _)); refine blk_far ?_ NB370_386.out _; (with_reducible repeat (first | refine blk_drewN ?_ _ | refine blk_drew ?_ | refine blk_alloc ?_ _)); refine blk_far ?_ NB370_386.out _; (with_reducible repeat (first | refine blk_drewN ?_ _ | refine blk_drew ?_ | refine blk_alloc ?_ _)); exact BK370.out⟩, ⟨by (with_reducible repeat (first | refine blk_drewN ?_ _ | refine blk_drew ?_ | refine blk_alloc ?_ _)); refine blk_far ?_ NB378_386.out _; (with_reducible repeat (first | refine blk_drewN ?_ _ | refine blk_drew ?_ | refine blk_alloc ?_ _)); refine blk_far ?_ NB378_386.out _; (with_reducible repeat (first | refine blk_drewN ?_ _ | refine blk_drew ?_ | refine blk_alloc ?_ _)); refine blk_far ?_ NB378_386.out _; (with_reducible repeat (first | refine blk_drewN ?_ _ | refine blk_drew ?_ | refine blk_alloc ?_ _)); exact BK378.out⟩, ⟨by (with_reducible repeat (first | refine blk_drewN ?_ _ | refine blk_drew ?_ | refine blk_alloc ?_ _)); refine blk_put (cs := #[.bool t382, .string t383, .string (⟨#[]⟩ : ByteArray)]) ?_ 2 _ rfl; (with_reducible repeat (first | refine blk_drewN ?_ _ | refine blk_drew ?_ | refine blk_alloc ?_ _)); refine blk_put (cs := #[.bool t382, .string (⟨#[]⟩ : ByteArray), .string (⟨#[]⟩ : ByteArray)]) ?_ 1 _ rfl; (with_reducible repeat (first | refine blk_drewN ?_ _ | refine blk_drew ?_ | refine blk_alloc ?_ _)); refine blk_put (cs := #[.bool false, .string (⟨#[]⟩ : ByteArray), .string (⟨#[]⟩ : ByteArray)]) ?_ 0 _ rfl; (with_reducible repeat (first | refine blk_drewN ?_ _ | refine blk_drew ?_ | refine blk_alloc ?_ _)); exact BK386.out⟩, (bl_ HB)⟩)
       ·rw [if_neg c61] at H
        have c61b0 : (t377 == 0) = false := beq_eq_false_iff_ne.mpr c61
        have c61b1 : (t377 != 0) = true := bne_iff_ne.mpr c61
        (first | rw [c61b0] | (simp only [i64_w, i32_w]; rw [c61b0]) | skip)
        have H' := Aside0.mk H
        clear H
        go_wp2
        go_meet
        case rel => first | (exact ⟨_, (false), eq_, (by first | exact H' | (rw [hji8]; exact H') | (simp only [hji8]; exact H')), ⟨by have := HJ8.out; first | omega | exact Nat.le_refl _⟩, ⟨by (with_reducible repeat (first | refine blk_drewN ?_ _ | refine blk_drew ?_ | refine blk_alloc ?_ _)); refine blk_far ?_ NB357_386.out _; (with_reducible repeat (first | refine blk_drewN ?_ _ | refine blk_drew ?_ | refine blk_alloc ?_ _)); refine blk_far ?_ NB357_386.out _; (with_reducible repeat (first | refine blk_drewN ?_ _ | refine blk_drew ?_ | refine blk_alloc ?_ _)); refine blk_far ?_ NB357_386.out _; (with_reducible repeat (first | refine blk_drewN ?_ _ | refine blk_drew ?_ | refine blk_alloc ?_ _)); exact BK357.out⟩, ⟨by (with_reducible repeat (first | refine blk_drewN ?_ _ | refine blk_drew ?_ | refine blk_alloc ?_ _)); refine blk_far ?_ NB358_386.out _; (with_reducible repeat (first | refine blk_drewN ?_ _ | refine blk_drew ?_ | refine blk_alloc ?_ _)); refine blk_far ?_ NB358_386.out _; (with_reducible repeat (first | refine blk_drewN ?_ _ | refine blk_drew ?_ | refine blk_alloc ?_ _)); refine blk_far ?_ NB358_386.out _; (with_reducible repeat (first | refine blk_drewN ?_ _ | refine blk_drew ?_ | refine blk_alloc ?_ _)); exact BK358.out⟩, ⟨by (with_reducible repeat (first | refine blk_drewN ?_ _ | refine blk_drew ?_ | refine blk_alloc ?_ _)); refine blk_far ?_ NB369_386.out _; (with_reducible repeat (first | refine blk_drewN ?_ _ | refine blk_drew ?_ | refine blk_alloc ?_ _)); refine blk_far ?_ NB369_386.out _; (with_reducible repeat (first | refine blk_drewN ?_ _ | refine blk_drew ?_ | refine blk_alloc ?_ _)); refine blk_far ?_ NB369_386.out _; (with_reducible repeat (first | refine blk_drewN ?_ _ | refine blk_drew ?_ | refine blk_alloc ?_ _)); exact BK369.out⟩, ⟨by (with_reducible repeat (first | refine blk_drewN ?_ _ | refine blk_drew ?_ | refine blk_alloc ?_ _)); refine blk_far ?_ NB370_386.out _; (with_reducible repeat (first | refine blk_drewN ?_ _ | refine blk_drew ?_ | refine blk_alloc ?_ _)); refine blk_far ?_ NB370_386.out _; (with_reducible repeat (first | refine blk_drewN ?_ _ | refine blk_drew ?_ | refine blk_alloc ?_ _)); refine blk_far ?_ NB370_386.out _; (with_reducible repeat (first | refine blk_drewN ?_ _ | refine blk_drew ?_ | refine blk_alloc ?_ _)); exact BK370.out⟩, ⟨by (with_reducible repeat (first | refine blk_drewN ?_ _ | refine blk_drew ?_ | refine blk_alloc ?_ _)); refine blk_far ?_ NB378_386.out _; (with_reducible repeat (first | refine blk_drewN ?_ _ | refine blk_drew ?_ | refine blk_alloc ?_ _)); refine blk_far ?_ NB378_386.out _; (with_reducible repeat (first | refine blk_drewN ?_ _ | refine blk_drew ?_ | refine blk_alloc ?_ _)); refine blk_far ?_ NB378_386.out _; (with_reducible repeat (first | refine blk_drewN ?_ _ | refine blk_drew ?_ | refine blk_alloc ?_ _)); exact BK378.out⟩, ⟨by (with_reducible repeat (first | refine blk_drewN ?_ _ | refine blk_drew ?_ | refine blk_alloc ?_ _)); refine blk_put (cs := #[.bool t382, .string t383, .string (⟨#[]⟩ : ByteArray)]) ?_ 2 _ rfl; (with_reducible repeat (first | refine blk_drewN ?_ _ | refine blk_drew ?_ | refine blk_alloc ?_ _)); refine blk_put (cs := #[.bool t382, .string (⟨#[]⟩ : ByteArray), .string (⟨#[]⟩ : ByteArray)]) ?_ 1 _ rfl; (with_reducible repeat (first | refine blk_drewN ?_ _ | refine blk_drew ?_ | refine blk_alloc ?_ _)); refine blk_put (cs := #[.bool false, .string (⟨#[]⟩ : ByteArray), .string (⟨#[]⟩ : ByteArray)]) ?_ 0 _ rfl; (with_reducible repeat (first | refine blk_drewN ?_ _ | refine blk_drew ?_ | refine blk_alloc ?_ _)); exact BK386.out⟩, (bl_ HB)⟩) | (rw [← hji8] at H'; exact ⟨_, (false), eq_, (by first | exact H' | (rw [hji8]; exact H') | (simp only [hji8]; exact H')), ⟨by have := HJ8.out; first | omega | exact Nat.le_refl _⟩, ⟨by (with_reducible repeat (first | refine blk_drewN ?_ _ | refine blk_drew ?_ | refine blk_alloc ?_ _)); refine blk_far ?_ NB357_386.out _; (with_reducible repeat (first | refine blk_drewN ?_ _ | refine blk_drew ?_ | refine blk_alloc ?_ _)); refine blk_far ?_ NB357_386.out _; (with_reducible repeat (first | refine blk_drewN ?_ _ | refine blk_drew ?_ | refine blk_alloc ?_ _)); refine blk_far ?_ NB357_386.out _; (with_reducible repeat (first | refine blk_drewN ?_ _ | refine blk_drew ?_ | refine blk_alloc ?_ _)); exact BK357.out⟩, ⟨by (with_reducible repeat (first | refine blk_drewN ?_ _ | refine blk_drew ?_ | refine blk_alloc ?_ _)); refine blk_far ?_ NB358_386.out _; (with_reducible repeat (first | refine blk_drewN ?_ _ | refine blk_drew ?_ | refine blk_alloc ?_ _)); refine blk_far ?_ NB358_386.out _; (with_reducible repeat (first | refine blk_drewN ?_ _ | refine blk_drew ?_ | refine blk_alloc ?_ _)); refine blk_far ?_ NB358_386.out _; (with_reducible repeat (first | refine blk_drewN ?_ _ | refine blk_drew ?_ | refine blk_alloc ?_ _)); exact BK358.out⟩, ⟨by (with_reducible repeat (first | refine blk_drewN ?_ _ | refine blk_drew ?_ | refine blk_alloc ?_ _)); refine blk_far ?_ NB369_386.out _; (with_reducible repeat (first | refine blk_drewN ?_ _ | refine blk_drew ?_ | refine blk_alloc ?_ _)); refine blk_far ?_ NB369_386.out _; (with_reducible repeat (first | refine blk_drewN ?_ _ | refine blk_drew ?_ | refine blk_alloc ?_ _)); refine blk_far ?_ NB369_386.out _; (with_reducible repeat (first | refine blk_drewN ?_ _ | refine blk_drew ?_ | refine blk_alloc ?_ _)); exact BK369.out⟩, ⟨by (with_reducible repeat (first | refine blk_drewN ?_ _ | refine blk_drew ?_ | refine blk_alloc ?_ _)); refine blk_far ?_ NB370_386.out _; (with_reducible repeat (first | refine blk_drewN ?_ _ | refine blk_drew ?_ | refine blk_alloc ?_ _)); refine blk_far ?_ NB370_386.out _; (with_reducible repeat (first | refine blk_drewN ?_ _ | refine blk_drew ?_ | refine blk_alloc ?_ _)); refine blk_far ?_ NB370_386.out _; (with_reducible repeat (first | refine blk_drewN ?_ _ | refine blk_drew ?_ | refine blk_alloc ?_ _)); exact BK370.out⟩, ⟨by (with_reducible repeat (first | refine blk_drewN ?_ _ | refine blk_drew ?_ | refine blk_alloc ?_ _)); refine blk_far ?_ NB378_386.out _; (with_reducible repeat (first | refine blk_drewN ?_ _ | refine blk_drew ?_ | refine blk_alloc ?_ _)); refine blk_far ?_ NB378_386.out _; (with_reducible repeat (first | refine blk_drewN ?_ _ | refine blk_drew ?_ | refine blk_alloc ?_ _)); refine blk_far ?_ NB378_386.out _; (with_reducible repeat (first | refine blk_drewN ?_ _ | refine blk_drew ?_ | refine blk_alloc ?_ _)); exact BK378.out⟩, ⟨by (with_reducible repeat (first | refine blk_drewN ?_ _ | refine blk_drew ?_ | refine blk_alloc ?_ _)); refine blk_put (cs := #[.bool t382, .string t383, .string (⟨#[]⟩ : ByteArray)]) ?_ 2 _ rfl; (with_reducible repeat (first | refine blk_drewN ?_ _ | refine blk_drew ?_ | refine blk_alloc ?_ _)); refine blk_put (cs := #[.bool t382, .string (⟨#[]⟩ : ByteArray), .string (⟨#[]⟩ : ByteArray)]) ?_ 1 _ rfl; (with_reducible repeat (first | refine blk_drewN ?_ _ | refine blk_drew ?_ | refine blk_alloc ?_ _)); refine blk_put (cs := #[.bool false, .string (⟨#[]⟩ : ByteArray), .string (⟨#[]⟩ : ByteArray)]) ?_ 0 _ rfl; (with_reducible repeat (first | refine blk_drewN ?_ _ | refine blk_drew ?_ | refine blk_alloc ?_ _)); exact BK386.out⟩, (bl_ HB)⟩)
      case rest =>
       clear HC34
       try clear c1
       try clear p2
       try clear c6
       try clear p6
       try clear c7
       try clear c8
       try clear c9
       try clear c10
       try clear c13
       try clear c61
       try clear c61b0
       try clear c61b1
       try clear c62
       try clear c62b0
       try clear c62b1
       try clear c63
       try clear c63b0
       try clear c63b1
       try clear c63b2
       try clear c64
       try clear c64b0
       try clear c64b1
       try clear p64
       try clear c65
       try clear c65b0
       try clear c65b1
       try clear c66
       try clear c67
       try clear c68
       try clear c69
       try clear c70
       try clear c72
       try clear c73
       try clear c74
       try clear c75
       try clear c77
       try clear c77b0
       try clear c77b1
       try clear c77b2
       try clear c78
       try clear c79
       try clear c80
       try clear c81
       try clear c82
       try clear c84
       try clear c85
       try clear c86
       try clear c87
       try clear c89
       try clear c90
       try clear c91
       try clear c92
       try clear c93
       try clear c95
       try clear c96
       try clear c97
       try clear c98
       try clear c100
       try clear c101
       try clear c102
       try clear c103
       try clear c104
       try clear c106
       try clear c107
       try clear c108
       try clear c109
       try clear hcz105_0
       try clear hcz105_1
       try clear hcz105_2
       try clear hcz110_0
       try clear hcz110_1
       try clear hcz110_2
       try clear hcz71_0
       try clear hcz71_1
       try clear hcz71_2
       try clear hcz76_0
       try clear hcz76_1
       try clear hcz76_2
       try clear hcz83_0
       try clear hcz83_1
       try clear hcz83_2
       try clear hcz88_0
       try clear hcz88_1
       try clear hcz88_2
       try clear hcz94_0
       try clear hcz94_1
       try clear hcz94_2
       try clear hcz99_0
       try clear hcz99_1
       try clear hcz99_2
       try clear hfz105_0
       try clear hfz105_1
       try clear hfz105_2
       try clear hfz110_0
       try clear hfz110_1
       try clear hfz110_2
       try clear hfz71_0
       try clear hfz71_1
       try clear hfz71_2
       try clear hfz76_0
       try clear hfz76_1
       try clear hfz76_2
       try clear hfz83_0
       try clear hfz83_1
       try clear hfz83_2
       try clear hfz88_0
       try clear hfz88_1
       try clear hfz88_2
       try clear hfz94_0
       try clear hfz94_1
       try clear hfz94_2
       try clear hfz99_0
       try clear hfz99_1
       try clear hfz99_2
       obtain ⟨kq, x4_33, rfl, HA, HJ33, BK357, BK358, BK369, BK370, BK378, BK386, HB⟩ := hcut
       cases kq with
       | zero => exact absurd HA.out (by simp [florinlaw04_ShowMore.j1])
       | succ kj33 =>
        have H := HA.out
        clear HA
        simp only [florinlaw04_ShowMore.j1] at H
        obtain rfl := Option.some.inj H
        go_wp2
        go_ret
        exact ⟨by first | rfl | (simp [errW_none, errW_some] <;> rfl) | (simp only [← hji8]; first | rfl | (simp [errW_none, errW_some] <;> rfl)) | (simp [*, errW_none, errW_some] <;> first | rfl | exact given_isEmpty _ | exact (given_isEmpty _).symm), by repeat (first | (with_reducible first | exact HB.out | apply below_alloc | apply pw_below_drewN | apply below_drew1 | refine below_set ?_ GE357.out | refine below_set ?_ GE358.out | refine below_set ?_ GE369.out | refine below_set ?_ GE370.out | refine below_set ?_ GE378.out | refine below_set ?_ GE386.out) | exact HB.out)⟩
  ·replace c6 := Bool.eq_false_iff.mpr c6
   subst c6
   have H1 : (some true) = some r := by rw [if_neg (show ¬ (false = true) by decide)] at H; exact H
   clear H
   have H := H1
   clear H1
   obtain rfl := Option.some.inj H
   go_enter Tryd.func5, Tryd.ntmps5
   go_wp2_with (first | ((with_reducible refine gate_dst (N := 2) rfl ?_); refine be_ 2 #[.bool a0_0, .slice A0_1 l0_1.length c0_1, .int .i64 a0_2] 24 ?_; intro gb357 hg w111 hbox hb; have BK357 := Aside0.mk (hbox); have GW357 := sz_ HB hg; have GE357 := sz_ HB hg; replace HB := Aside0.mk (below_step (bl_ HB).out hb); clear hb hbox hg) | ((with_reducible refine gate_dst (N := 3) rfl ?_); refine be_ 3 #[.int .i64 a1_0, .int .i64 a1_1, .int .i64 a1_2, .int .i64 a1_3, .int .i64 a1_4, .int .i64 a1_5, .int .i64 a1_6] 42 ?_; intro gb358 hg w112 hbox hb; have BK358 := Aside0.mk (hbox); have GW358 := sz_ HB hg; have GE358 := sz_ HB hg; have NB357_358 := na_ BK357 hg; have NB358_357 := nb_ BK357 hg; replace BK357 := bb_ BK357 hb; replace HB := Aside0.mk (below_step (bl_ HB).out hb); clear hb hbox hg) | ((with_reducible refine gate_callee (f := 8) rfl ?_); refine gl_ (some 11) Tryd.func8 #[] ?_; (with_reducible refine (florinlaw04_head.calls k  true _ A3.out).mono ?_); rintro e w113 ⟨rfl, hb⟩; refine ⟨_, rfl, ?_⟩; replace BK357 := bb_ BK357 hb; replace BK358 := bb_ BK358 hb; replace HB := Aside0.mk (below_step (bl_ HB).out hb); (try clear hb); (try clear hb2); (try clear hk); (try clear hi); have hnb114 := NB357_358.out; have hnc114 := NB358_357.out; obtain ⟨hcz115_0, hcz115_1, hcz115_2, hfz115_0, hfz115_1, hfz115_2⟩ := bo3_ BK357) | ((with_reducible refine gate_callee (f := 15) rfl ?_); refine gl_ (some 14) Tryd.func15 #[.agg #[.bool a0_0, .slice A0_1 l0_1.length c0_1, .int .i64 a0_2], .int .i64 30] ?_; (with_reducible refine (florinlaw02_Raw_Few.calls a0_0 _ _ l0_1 a0_2 30 false _ ?side1 ?side2 A5.out).mono ?_); (case side1 => repeat (first | exact (Kd.C_below HR0_1.out HB.out) | (with_reducible refine Kd.C_alloc ?_ _) | (with_reducible refine Kd.C_drewN ?_ _) | (with_reducible refine Kd.C_drew ?_))); (case side2 => exact HC0_1.out); rintro e w116 ⟨rfl, hb⟩; refine ⟨_, rfl, ?_⟩; replace BK357 := bb_ BK357 hb; replace BK358 := bb_ BK358 hb; replace HB := Aside0.mk (below_step (bl_ HB).out hb); (try clear hb); (try clear hb2); (try clear hk); (try clear hi)))
   go_ret
   exact ⟨ew_, (bl_ HB).out⟩
 ·replace c4 := Bool.eq_false_iff.mpr c4
  subst c4
  have H1 : (some false) = some r := by rw [if_neg (show ¬ (false = true) by decide)] at H; exact H
  clear H
  have H := H1
  clear H1
  obtain rfl := Option.some.inj H
  go_enter Tryd.func5, Tryd.ntmps5
  go_wp2_with (first | ((with_reducible refine gate_dst (N := 2) rfl ?_); refine be_ 2 #[.bool a0_0, .slice A0_1 l0_1.length c0_1, .int .i64 a0_2] 24 ?_; intro gb357 hg w117 hbox hb; have BK357 := Aside0.mk (hbox); have GW357 := sz_ HB hg; have GE357 := sz_ HB hg; replace HB := Aside0.mk (below_step (bl_ HB).out hb); clear hb hbox hg) | ((with_reducible refine gate_dst (N := 3) rfl ?_); refine be_ 3 #[.int .i64 a1_0, .int .i64 a1_1, .int .i64 a1_2, .int .i64 a1_3, .int .i64 a1_4, .int .i64 a1_5, .int .i64 a1_6] 42 ?_; intro gb358 hg w118 hbox hb; have BK358 := Aside0.mk (hbox); have GW358 := sz_ HB hg; have GE358 := sz_ HB hg; have NB357_358 := na_ BK357 hg; have NB358_357 := nb_ BK357 hg; replace BK357 := bb_ BK357 hb; replace HB := Aside0.mk (below_step (bl_ HB).out hb); clear hb hbox hg) | ((with_reducible refine gate_callee (f := 8) rfl ?_); refine gl_ (some 11) Tryd.func8 #[] ?_; (with_reducible refine (florinlaw04_head.calls k  false _ A3.out).mono ?_); rintro e w119 ⟨rfl, hb⟩; refine ⟨_, rfl, ?_⟩; replace BK357 := bb_ BK357 hb; replace BK358 := bb_ BK358 hb; replace HB := Aside0.mk (below_step (bl_ HB).out hb); (try clear hb); (try clear hb2); (try clear hk); (try clear hi)))
  go_ret
  exact ⟨ew_, (bl_ HB).out⟩

end Go.Proofs.YthkpmiajcmihjaaDoor.P
