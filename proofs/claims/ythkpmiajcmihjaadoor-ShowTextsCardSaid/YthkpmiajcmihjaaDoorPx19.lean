-- written by a program of this session (wip/p2)
import Derived.Test.YthkpmiajcmihjaaDoorPx0
import Derived.Test.YthkpmiajcmihjaaDoorPx1
import Derived.Test.YthkpmiajcmihjaaDoorPx7
import Derived.Test.YthkpmiajcmihjaaDoorPx8
import Derived.Test.YthkpmiajcmihjaaDoorPx10
import Derived.Test.YthkpmiajcmihjaaDoorPx12
import Derived.Test.YthkpmiajcmihjaaDoorPx14
import Derived.Test.YthkpmiajcmihjaaDoorPx18
namespace Go.Proofs.YthkpmiajcmihjaaDoor.P
open Go.RowKit Go.Proofs.YthkpmiajcmihjaaDoorW.PrintWords Go.Proofs.YthkpmiajcmihjaaDoorW.PrintLast Go.Proofs.YthkpmiajcmihjaaDoorW.PrintMore
attribute [local go_sem] max2_int min2_int max_two min_two max_three min_three max_four min_four   -- for this text's walks alone
set_option linter.unusedVariables false
set_option linter.unusedSimpArgs false

attribute [local go_sem high] eqA29
/-! ### florinlaw04_ShowTexts: function 6 -/
mutual
def florinlaw04_ShowTexts.j0 : Nat → Int → ByteArray → Bool → ByteArray → ByteArray → Option (Bool)
  | 0, _, _, _, _, _ => none
  | k + 1, x7, x8, x461000, x461001, x461002 => if x461002.toList = ([] : List UInt8) then (florinlaw04_ShowTexts.j1 k x7 x8 x461000 x461001 x461002) else (if x8.size + 1 ≤ 9223372036854775807 then (if (x8 ++ (⟨#[46]⟩ : ByteArray)).size + x461002.size ≤ 9223372036854775807 then (florinlaw04_ShowTexts.j1 k x7 ((x8 ++ (⟨#[46]⟩ : ByteArray)) ++ x461002) x461000 x461001 x461002) else (none)) else (none))
def florinlaw04_ShowTexts.j1 : Nat → Int → ByteArray → Bool → ByteArray → ByteArray → Option (Bool)
  | 0, _, _, _, _, _ => none
  | k + 1, x7, x8, x461000, x461001, x461002 => if x7 = 0 then ((show_Vis_Text.f x461000 x461001 x461002).bind fun t461 => (florinlaw04_ShowTexts.j2 k (t461.toList != x8.toList) x461000 x461001 x461002)) else (florinlaw04_ShowTexts.j2 k true x461000 x461001 x461002)
def florinlaw04_ShowTexts.j2 : Nat → Bool → Bool → ByteArray → ByteArray → Option (Bool)
  | 0, _, _, _, _ => none
  | k + 1, x46, x461000, x461001, x461002 => if x46 = true then (some false) else (if x461001.toList = ([] : List UInt8) then (some (x461002.toList != ([] : List UInt8))) else ((show_Vis_Text.f x461000 x461001 x461002).bind fun t462 => ((dec_Parse.f k t462).bind fun bt463 => (if bt463.2.2.2 = 0 then ((show_Vis_Value.f k x461000 x461001 x461002).bind fun bt468 => (some (bt463.1 == bt468.1 && (bt463.2.1.toList == bt468.2.1.toList && (bt463.2.2.1 == bt468.2.2))))) else (some false)))))
end
def florinlaw04_ShowTexts.f (k : Nat) (a0_0 : Bool) (l0_1 : List Int) (a0_2 : Int) (a1_0 : Int) (a1_1 : Int) (a1_2 : Int) (a1_3 : Int) (a1_4 : Int) (a1_5 : Int) (a1_6 : Int) : Option (Bool) := (florinlaw04_head.f k).bind fun t442 => (if t442 = true then ((florinlaw02_Raw_Few.f a0_0 l0_1 a0_2 30).bind fun t443 => (if t443 = true then ((florinlaw04_Ask_Prec.f k a1_0 a1_1 a1_2 a1_3 a1_4 a1_5 a1_6).bind fun bt444 => ((florinlaw02_Raw_Make.f k a0_0 l0_1 a0_2).bind fun bt453 => ((show_Prec_Apply.f k bt444.1 bt444.2.1 bt444.2.2.1 bt444.2.2.2.1 bt444.2.2.2.2.1 bt444.2.2.2.2.2.1 bt444.2.2.2.2.2.2.1 bt444.2.2.2.2.2.2.2 bt453.1 bt453.2.1 bt453.2.2).bind fun bt456 => (if bt456.1 = true then (if 1 + bt456.2.1.size ≤ 9223372036854775807 then (florinlaw04_ShowTexts.j0 k bt456.2.2.2 ((⟨#[45]⟩ : ByteArray) ++ bt456.2.1) bt456.1 bt456.2.1 bt456.2.2.1) else (none)) else (florinlaw04_ShowTexts.j0 k bt456.2.2.2 bt456.2.1 bt456.1 bt456.2.1 bt456.2.2.1))))) else (some true))) else (some false))
theorem florinlaw04_ShowTexts.mono_l : ∀ k, (∀ y0 y1 y2 y3 y4, LeO (florinlaw04_ShowTexts.j0 k y0 y1 y2 y3 y4) (florinlaw04_ShowTexts.j0 (k + 1) y0 y1 y2 y3 y4)) ∧ (∀ y0 y1 y2 y3 y4, LeO (florinlaw04_ShowTexts.j1 k y0 y1 y2 y3 y4) (florinlaw04_ShowTexts.j1 (k + 1) y0 y1 y2 y3 y4)) ∧ (∀ y0 y1 y2 y3, LeO (florinlaw04_ShowTexts.j2 k y0 y1 y2 y3) (florinlaw04_ShowTexts.j2 (k + 1) y0 y1 y2 y3))
  | 0 => ⟨fun _ _ _ _ _ r h => by simp [florinlaw04_ShowTexts.j0] at h, fun _ _ _ _ _ r h => by simp [florinlaw04_ShowTexts.j1] at h, fun _ _ _ _ r h => by simp [florinlaw04_ShowTexts.j2] at h⟩
  | k + 1 => by
    obtain ⟨ih0, ih1, ih2⟩ := florinlaw04_ShowTexts.mono_l k
    refine ⟨?_, ?_, ?_⟩
    · intro y0 y1 y2 y3 y4
      unfold florinlaw04_ShowTexts.j0
      repeat' first
      | (with_reducible exact ih0 _ _ _ _ _)
      | (with_reducible exact ih1 _ _ _ _ _)
      | (with_reducible exact ih2 _ _ _ _)
      | (with_reducible exact dec_Parse.mono _ _)
      | (with_reducible exact florinlaw02_Raw_Make.mono _ _ _ _)
      | (with_reducible exact florinlaw04_Ask_Prec.mono _ _ _ _ _ _ _ _)
      | (with_reducible exact florinlaw04_head.mono _)
      | (with_reducible exact show_Prec_Apply.mono _ _ _ _ _ _ _ _ _ _ _ _)
      | (with_reducible exact show_Vis_Value.mono _ _ _ _)
      | (with_reducible exact LeO.refl _)
      | (with_reducible exact LeO.none _)
      | (with_reducible refine LeO.ite ?_ ?_)
      | (with_reducible refine LeO.bind ?_ (fun _ => ?_))
      | exact ih0 _ _ _ _ _
      | exact ih1 _ _ _ _ _
      | exact ih2 _ _ _ _
      | exact dec_Parse.mono _ _
      | exact florinlaw02_Raw_Make.mono _ _ _ _
      | exact florinlaw04_Ask_Prec.mono _ _ _ _ _ _ _ _
      | exact florinlaw04_head.mono _
      | exact show_Prec_Apply.mono _ _ _ _ _ _ _ _ _ _ _ _
      | exact show_Vis_Value.mono _ _ _ _
      | exact LeO.none _
      | refine LeO.ite ?_ ?_
      | refine LeO.bind ?_ (fun _ => ?_)
    · intro y0 y1 y2 y3 y4
      unfold florinlaw04_ShowTexts.j1
      repeat' first
      | (with_reducible exact ih0 _ _ _ _ _)
      | (with_reducible exact ih1 _ _ _ _ _)
      | (with_reducible exact ih2 _ _ _ _)
      | (with_reducible exact dec_Parse.mono _ _)
      | (with_reducible exact florinlaw02_Raw_Make.mono _ _ _ _)
      | (with_reducible exact florinlaw04_Ask_Prec.mono _ _ _ _ _ _ _ _)
      | (with_reducible exact florinlaw04_head.mono _)
      | (with_reducible exact show_Prec_Apply.mono _ _ _ _ _ _ _ _ _ _ _ _)
      | (with_reducible exact show_Vis_Value.mono _ _ _ _)
      | (with_reducible exact LeO.refl _)
      | (with_reducible exact LeO.none _)
      | (with_reducible refine LeO.ite ?_ ?_)
      | (with_reducible refine LeO.bind ?_ (fun _ => ?_))
      | exact ih0 _ _ _ _ _
      | exact ih1 _ _ _ _ _
      | exact ih2 _ _ _ _
      | exact dec_Parse.mono _ _
      | exact florinlaw02_Raw_Make.mono _ _ _ _
      | exact florinlaw04_Ask_Prec.mono _ _ _ _ _ _ _ _
      | exact florinlaw04_head.mono _
      | exact show_Prec_Apply.mono _ _ _ _ _ _ _ _ _ _ _ _
      | exact show_Vis_Value.mono _ _ _ _
      | exact LeO.none _
      | refine LeO.ite ?_ ?_
      | refine LeO.bind ?_ (fun _ => ?_)
    · intro y0 y1 y2 y3
      unfold florinlaw04_ShowTexts.j2
      repeat' first
      | (with_reducible exact ih0 _ _ _ _ _)
      | (with_reducible exact ih1 _ _ _ _ _)
      | (with_reducible exact ih2 _ _ _ _)
      | (with_reducible exact dec_Parse.mono _ _)
      | (with_reducible exact florinlaw02_Raw_Make.mono _ _ _ _)
      | (with_reducible exact florinlaw04_Ask_Prec.mono _ _ _ _ _ _ _ _)
      | (with_reducible exact florinlaw04_head.mono _)
      | (with_reducible exact show_Prec_Apply.mono _ _ _ _ _ _ _ _ _ _ _ _)
      | (with_reducible exact show_Vis_Value.mono _ _ _ _)
      | (with_reducible exact LeO.refl _)
      | (with_reducible exact LeO.none _)
      | (with_reducible refine LeO.ite ?_ ?_)
      | (with_reducible refine LeO.bind ?_ (fun _ => ?_))
      | exact ih0 _ _ _ _ _
      | exact ih1 _ _ _ _ _
      | exact ih2 _ _ _ _
      | exact dec_Parse.mono _ _
      | exact florinlaw02_Raw_Make.mono _ _ _ _
      | exact florinlaw04_Ask_Prec.mono _ _ _ _ _ _ _ _
      | exact florinlaw04_head.mono _
      | exact show_Prec_Apply.mono _ _ _ _ _ _ _ _ _ _ _ _
      | exact show_Vis_Value.mono _ _ _ _
      | exact LeO.none _
      | refine LeO.ite ?_ ?_
      | refine LeO.bind ?_ (fun _ => ?_)
theorem florinlaw04_ShowTexts.mono : ∀ a0 a1 a2 a3 a4 a5 a6 a7 a8 a9 k, LeO (florinlaw04_ShowTexts.f k a0 a1 a2 a3 a4 a5 a6 a7 a8 a9) (florinlaw04_ShowTexts.f (k + 1) a0 a1 a2 a3 a4 a5 a6 a7 a8 a9) := by
  intro a0 a1 a2 a3 a4 a5 a6 a7 a8 a9 k
  obtain ⟨ih0, ih1, ih2⟩ := florinlaw04_ShowTexts.mono_l k
  unfold florinlaw04_ShowTexts.f
  repeat' first
      | (with_reducible exact ih0 _ _ _ _ _)
      | (with_reducible exact ih1 _ _ _ _ _)
      | (with_reducible exact ih2 _ _ _ _)
      | (with_reducible exact dec_Parse.mono _ _)
      | (with_reducible exact florinlaw02_Raw_Make.mono _ _ _ _)
      | (with_reducible exact florinlaw04_Ask_Prec.mono _ _ _ _ _ _ _ _)
      | (with_reducible exact florinlaw04_head.mono _)
      | (with_reducible exact show_Prec_Apply.mono _ _ _ _ _ _ _ _ _ _ _ _)
      | (with_reducible exact show_Vis_Value.mono _ _ _ _)
      | (with_reducible exact LeO.refl _)
      | (with_reducible exact LeO.none _)
      | (with_reducible refine LeO.ite ?_ ?_)
      | (with_reducible refine LeO.bind ?_ (fun _ => ?_))
      | exact ih0 _ _ _ _ _
      | exact ih1 _ _ _ _ _
      | exact ih2 _ _ _ _
      | exact dec_Parse.mono _ _
      | exact florinlaw02_Raw_Make.mono _ _ _ _
      | exact florinlaw04_Ask_Prec.mono _ _ _ _ _ _ _ _
      | exact florinlaw04_head.mono _
      | exact show_Prec_Apply.mono _ _ _ _ _ _ _ _ _ _ _ _
      | exact show_Vis_Value.mono _ _ _ _
      | exact LeO.none _
      | refine LeO.ite ?_ ?_
      | refine LeO.bind ?_ (fun _ => ?_)
def florinlaw04_ShowTexts.T6 : Bool × List (List Nat × List Nat) := (true, [([], []), ([], []), ([1], [1]), ([0, 2, 2], [0, 2]), ([3], [3]), ([4], [4]), ([4], [4]), ([], []), ([7, 5, 3, 0, 1, 2, 3, 4, 5, 7], [5, 7]), ([6, 8, 0, 1, 2, 3, 4, 5, 6, 7, 8], [6])])
def florinlaw04_ShowTexts.B6 : List Nat := [0, 0, 2, 7, 15, 31, 31, 0, 191, 511]
theorem florinlaw04_ShowTexts.tab6 : rtab .any (opsOf Tryd.f6 6) = florinlaw04_ShowTexts.T6 := by kernel_rfl
theorem florinlaw04_ShowTexts.bits6 : waitsOk florinlaw04_ShowTexts.T6.2 florinlaw04_ShowTexts.B6 = true := by kernel_rfl
def florinlaw04_ShowTexts.T17 : Bool × List (List Nat × List Nat) := (true, [([], []), ([0], [0]), ([1], [1]), ([2], [2]), ([2], [2]), ([4, 2, 2], [2, 4]), ([3, 5, 2], [2, 3, 5]), ([2, 6], [2, 6]), ([7, 5, 0, 1, 2, 3, 4, 5, 6, 7], [7])])
def florinlaw04_ShowTexts.B17 : List Nat := [0, 1, 3, 7, 7, 23, 63, 127, 255]
theorem florinlaw04_ShowTexts.tab17 : rtab .any (opsOf Tryd.f6 17) = florinlaw04_ShowTexts.T17 := by kernel_rfl
theorem florinlaw04_ShowTexts.bits17 : waitsOk florinlaw04_ShowTexts.T17.2 florinlaw04_ShowTexts.B17 = true := by kernel_rfl
set_option maxHeartbeats 8000000 in
set_option maxRecDepth 100000 in
theorem florinlaw04_ShowTexts.calls (k : Nat) (a0_0 : Bool) (A0_1 : Option Addr) (c0_1 : Nat) (l0_1 : List Int) (a0_2 : Int) (a1_0 : Int) (a1_1 : Int) (a1_2 : Int) (a1_3 : Int) (a1_4 : Int) (a1_5 : Int) (a1_6 : Int) (r : Bool) (w : World) (hr0_1 : Kd.C (Kd.int .u8) w A0_1 l0_1.length l0_1) (hc0_1 : l0_1.length ≤ c0_1) (h : florinlaw04_ShowTexts.f k a0_0 l0_1 a0_2 a1_0 a1_1 a1_2 a1_3 a1_4 a1_5 a1_6 = some r) :
    Calls Tryd.prog 6 #[.agg #[.bool a0_0, .slice A0_1 l0_1.length c0_1, .int .i64 a0_2], .agg #[.int .i64 a1_0, .int .i64 a1_1, .int .i64 a1_2, .int .i64 a1_3, .int .i64 a1_4, .int .i64 a1_5, .int .i64 a1_6]] w fun e w' => e = .returned (.bool r) ∧ Below w.heap.size w w' := by
  have hu24 := Tryd.underlying24
  have hu42 := Tryd.underlying42
  have hu32 := Tryd.underlying32
  have hu35 := Tryd.underlying35
  have hu29 := Tryd.underlying29
  have HR0_1 := Aside0.mk hr0_1
  have HC0_1 := Aside0.mk hc0_1
  clear hr0_1 hc0_1
  have HB := Aside0.mk (Below.refl w.heap.size w)
  have H : ((florinlaw04_head.f k).bind fun t442 => (if t442 = true then ((florinlaw02_Raw_Few.f a0_0 l0_1 a0_2 30).bind fun t443 => (if t443 = true then ((florinlaw04_Ask_Prec.f k a1_0 a1_1 a1_2 a1_3 a1_4 a1_5 a1_6).bind fun bt444 => ((florinlaw02_Raw_Make.f k a0_0 l0_1 a0_2).bind fun bt453 => ((show_Prec_Apply.f k bt444.1 bt444.2.1 bt444.2.2.1 bt444.2.2.2.1 bt444.2.2.2.2.1 bt444.2.2.2.2.2.1 bt444.2.2.2.2.2.2.1 bt444.2.2.2.2.2.2.2 bt453.1 bt453.2.1 bt453.2.2).bind fun bt456 => (if bt456.1 = true then (if 1 + bt456.2.1.size ≤ 9223372036854775807 then (florinlaw04_ShowTexts.j0 k bt456.2.2.2 ((⟨#[45]⟩ : ByteArray) ++ bt456.2.1) bt456.1 bt456.2.1 bt456.2.2.1) else (none)) else (florinlaw04_ShowTexts.j0 k bt456.2.2.2 bt456.2.1 bt456.1 bt456.2.1 bt456.2.2.1))))) else (some true))) else (some false))) = some r := h
  clear h
  replace H := Option.bind_eq_some_iff.mp H
  obtain ⟨t442, A30, H⟩ := H
  replace H : (if t442 = true then ((florinlaw02_Raw_Few.f a0_0 l0_1 a0_2 30).bind fun t443 => (if t443 = true then ((florinlaw04_Ask_Prec.f k a1_0 a1_1 a1_2 a1_3 a1_4 a1_5 a1_6).bind fun bt444 => ((florinlaw02_Raw_Make.f k a0_0 l0_1 a0_2).bind fun bt453 => ((show_Prec_Apply.f k bt444.1 bt444.2.1 bt444.2.2.1 bt444.2.2.2.1 bt444.2.2.2.2.1 bt444.2.2.2.2.2.1 bt444.2.2.2.2.2.2.1 bt444.2.2.2.2.2.2.2 bt453.1 bt453.2.1 bt453.2.2).bind fun bt456 => (if bt456.1 = true then (if 1 + bt456.2.1.size ≤ 9223372036854775807 then (florinlaw04_ShowTexts.j0 k bt456.2.2.2 ((⟨#[45]⟩ : ByteArray) ++ bt456.2.1) bt456.1 bt456.2.1 bt456.2.2.1) else (none)) else (florinlaw04_ShowTexts.j0 k bt456.2.2.2 bt456.2.1 bt456.1 bt456.2.1 bt456.2.2.1))))) else (some true))) else (some false)) = some r := H
  have A3 := Aside0.mk A30
  clear A30
  by_cases c4 : t442 = true
  · subst c4
    have H1 : ((florinlaw02_Raw_Few.f a0_0 l0_1 a0_2 30).bind fun t443 => (if t443 = true then ((florinlaw04_Ask_Prec.f k a1_0 a1_1 a1_2 a1_3 a1_4 a1_5 a1_6).bind fun bt444 => ((florinlaw02_Raw_Make.f k a0_0 l0_1 a0_2).bind fun bt453 => ((show_Prec_Apply.f k bt444.1 bt444.2.1 bt444.2.2.1 bt444.2.2.2.1 bt444.2.2.2.2.1 bt444.2.2.2.2.2.1 bt444.2.2.2.2.2.2.1 bt444.2.2.2.2.2.2.2 bt453.1 bt453.2.1 bt453.2.2).bind fun bt456 => (if bt456.1 = true then (if 1 + bt456.2.1.size ≤ 9223372036854775807 then (florinlaw04_ShowTexts.j0 k bt456.2.2.2 ((⟨#[45]⟩ : ByteArray) ++ bt456.2.1) bt456.1 bt456.2.1 bt456.2.2.1) else (none)) else (florinlaw04_ShowTexts.j0 k bt456.2.2.2 bt456.2.1 bt456.1 bt456.2.1 bt456.2.2.1))))) else (some true))) = some r := by rw [if_pos rfl] at H; exact H
    clear H
    have H := H1
    clear H1
    replace H := Option.bind_eq_some_iff.mp H
    obtain ⟨t443, A50, H⟩ := H
    replace H : (if t443 = true then ((florinlaw04_Ask_Prec.f k a1_0 a1_1 a1_2 a1_3 a1_4 a1_5 a1_6).bind fun bt444 => ((florinlaw02_Raw_Make.f k a0_0 l0_1 a0_2).bind fun bt453 => ((show_Prec_Apply.f k bt444.1 bt444.2.1 bt444.2.2.1 bt444.2.2.2.1 bt444.2.2.2.2.1 bt444.2.2.2.2.2.1 bt444.2.2.2.2.2.2.1 bt444.2.2.2.2.2.2.2 bt453.1 bt453.2.1 bt453.2.2).bind fun bt456 => (if bt456.1 = true then (if 1 + bt456.2.1.size ≤ 9223372036854775807 then (florinlaw04_ShowTexts.j0 k bt456.2.2.2 ((⟨#[45]⟩ : ByteArray) ++ bt456.2.1) bt456.1 bt456.2.1 bt456.2.2.1) else (none)) else (florinlaw04_ShowTexts.j0 k bt456.2.2.2 bt456.2.1 bt456.1 bt456.2.1 bt456.2.2.1))))) else (some true)) = some r := H
    have A5 := Aside0.mk A50
    clear A50
    by_cases c6 : t443 = true
    · subst c6
      have H1 : ((florinlaw04_Ask_Prec.f k a1_0 a1_1 a1_2 a1_3 a1_4 a1_5 a1_6).bind fun bt444 => ((florinlaw02_Raw_Make.f k a0_0 l0_1 a0_2).bind fun bt453 => ((show_Prec_Apply.f k bt444.1 bt444.2.1 bt444.2.2.1 bt444.2.2.2.1 bt444.2.2.2.2.1 bt444.2.2.2.2.2.1 bt444.2.2.2.2.2.2.1 bt444.2.2.2.2.2.2.2 bt453.1 bt453.2.1 bt453.2.2).bind fun bt456 => (if bt456.1 = true then (if 1 + bt456.2.1.size ≤ 9223372036854775807 then (florinlaw04_ShowTexts.j0 k bt456.2.2.2 ((⟨#[45]⟩ : ByteArray) ++ bt456.2.1) bt456.1 bt456.2.1 bt456.2.2.1) else (none)) else (florinlaw04_ShowTexts.j0 k bt456.2.2.2 bt456.2.1 bt456.1 bt456.2.1 bt456.2.2.1))))) = some r := by rw [if_pos rfl] at H; exact H
      clear H
      have H := H1
      clear H1
      replace H := Option.bind_eq_some_iff.mp H
      obtain ⟨⟨t444, t445, t446, t447, t448, t449, t450, t451⟩, A70, H⟩ := H
      replace H : ((florinlaw02_Raw_Make.f k a0_0 l0_1 a0_2).bind fun bt453 => ((show_Prec_Apply.f k t444 t445 t446 t447 t448 t449 t450 t451 bt453.1 bt453.2.1 bt453.2.2).bind fun bt456 => (if bt456.1 = true then (if 1 + bt456.2.1.size ≤ 9223372036854775807 then (florinlaw04_ShowTexts.j0 k bt456.2.2.2 ((⟨#[45]⟩ : ByteArray) ++ bt456.2.1) bt456.1 bt456.2.1 bt456.2.2.1) else (none)) else (florinlaw04_ShowTexts.j0 k bt456.2.2.2 bt456.2.1 bt456.1 bt456.2.1 bt456.2.2.1)))) = some r := H
      have A7 := Aside0.mk A70
      clear A70
      replace H := Option.bind_eq_some_iff.mp H
      obtain ⟨⟨t453, t454, t455⟩, A80, H⟩ := H
      replace H : ((show_Prec_Apply.f k t444 t445 t446 t447 t448 t449 t450 t451 t453 t454 t455).bind fun bt456 => (if bt456.1 = true then (if 1 + bt456.2.1.size ≤ 9223372036854775807 then (florinlaw04_ShowTexts.j0 k bt456.2.2.2 ((⟨#[45]⟩ : ByteArray) ++ bt456.2.1) bt456.1 bt456.2.1 bt456.2.2.1) else (none)) else (florinlaw04_ShowTexts.j0 k bt456.2.2.2 bt456.2.1 bt456.1 bt456.2.1 bt456.2.2.1))) = some r := H
      have A8 := Aside0.mk A80
      clear A80
      replace H := Option.bind_eq_some_iff.mp H
      obtain ⟨⟨t456, t457, t458, t459⟩, A90, H⟩ := H
      replace H : (if t456 = true then (if 1 + t457.size ≤ 9223372036854775807 then (florinlaw04_ShowTexts.j0 k t459 ((⟨#[45]⟩ : ByteArray) ++ t457) t456 t457 t458) else (none)) else (florinlaw04_ShowTexts.j0 k t459 t457 t456 t457 t458)) = some r := H
      have A9 := Aside0.mk A90
      clear A90
      have HC10 := Aside0.mk H
      clear H
      go_enter Tryd.func6, Tryd.ntmps6
      try go_wp2_with (first | ((with_reducible refine gate_dst (N := 2) rfl ?_); refine be_ 2 #[.bool a0_0, .slice A0_1 l0_1.length c0_1, .int .i64 a0_2] 24 ?_; intro gb440 hg w11 hbox hb; have BK440 := Aside0.mk (hbox); have GW440 := sz_ HB hg; have GE440 := sz_ HB hg; replace HB := Aside0.mk (below_step (bl_ HB).out hb); clear hb hbox hg) | ((with_reducible refine gate_dst (N := 3) rfl ?_); refine be_ 3 #[.int .i64 a1_0, .int .i64 a1_1, .int .i64 a1_2, .int .i64 a1_3, .int .i64 a1_4, .int .i64 a1_5, .int .i64 a1_6] 42 ?_; intro gb441 hg w12 hbox hb; have BK441 := Aside0.mk (hbox); have GW441 := sz_ HB hg; have GE441 := sz_ HB hg; have NB440_441 := na_ BK440 hg; have NB441_440 := nb_ BK440 hg; replace BK440 := bb_ BK440 hb; replace HB := Aside0.mk (below_step (bl_ HB).out hb); clear hb hbox hg) | ((with_reducible refine gate_callee (f := 8) rfl ?_); refine gl_ (some 11) Tryd.func8 #[] ?_; (with_reducible refine (florinlaw04_head.calls k  true _ A3.out).mono ?_); rintro e w13 ⟨rfl, hb⟩; refine ⟨_, rfl, ?_⟩; replace BK440 := bb_ BK440 hb; replace BK441 := bb_ BK441 hb; replace HB := Aside0.mk (below_step (bl_ HB).out hb); (try clear hb); (try clear hb2); (try clear hk); (try clear hi); have hnb14 := NB440_441.out; have hnc14 := NB441_440.out; obtain ⟨hcz15_0, hcz15_1, hcz15_2, hfz15_0, hfz15_1, hfz15_2⟩ := bo3_ BK440) | ((with_reducible refine gate_callee (f := 15) rfl ?_); refine gl_ (some 14) Tryd.func15 #[.agg #[.bool a0_0, .slice A0_1 l0_1.length c0_1, .int .i64 a0_2], .int .i64 30] ?_; (with_reducible refine (florinlaw02_Raw_Few.calls a0_0 _ _ l0_1 a0_2 30 true _ ?side1 ?side2 A5.out).mono ?_); (case side1 => repeat (first | exact (Kd.C_below HR0_1.out HB.out) | (with_reducible refine Kd.C_alloc ?_ _) | (with_reducible refine Kd.C_drewN ?_ _) | (with_reducible refine Kd.C_drew ?_))); (case side2 => exact HC0_1.out); rintro e w16 ⟨rfl, hb⟩; refine ⟨_, rfl, ?_⟩; replace BK440 := bb_ BK440 hb; replace BK441 := bb_ BK441 hb; replace HB := Aside0.mk (below_step (bl_ HB).out hb); (try clear hb); (try clear hb2); (try clear hk); (try clear hi); obtain ⟨hcz17_0, hcz17_1, hcz17_2, hcz17_3, hcz17_4, hcz17_5, hcz17_6, hfz17_0, hfz17_1, hfz17_2, hfz17_3, hfz17_4, hfz17_5, hfz17_6⟩ := bo7_ BK441) | ((with_reducible refine gate_callee (f := 16) rfl ?_); refine gl_ (some 17) Tryd.func16 #[.agg #[.int .i64 a1_0, .int .i64 a1_1, .int .i64 a1_2, .int .i64 a1_3, .int .i64 a1_4, .int .i64 a1_5, .int .i64 a1_6]] ?_; (with_reducible refine (florinlaw04_Ask_Prec.calls k a1_0 a1_1 a1_2 a1_3 a1_4 a1_5 a1_6 t444 t445 t446 t447 t448 t449 t450 t451 _ A7.out).mono ?_); rintro e w18 ⟨rfl, hb⟩; refine ⟨_, rfl, ?_⟩; replace BK440 := bb_ BK440 hb; replace BK441 := bb_ BK441 hb; replace HB := Aside0.mk (below_step (bl_ HB).out hb); (try clear hb); (try clear hb2); (try clear hk); (try clear hi)) | ((with_reducible refine gate_dst (N := 5) rfl ?_); refine be_ 5 #[.int .i64 0, .int .i64 0, .int .i64 0, .bool false, .string (⟨#[]⟩ : ByteArray), .int .i64 0, .int .i64 0, .int .i64 0] 32 ?_; intro gb452 hg w19 hbox hb; have BK452 := Aside0.mk (hbox); have GW452 := sz_ HB hg; have GE452 := sz_ HB hg; have NB440_452 := na_ BK440 hg; have NB452_440 := nb_ BK440 hg; have NB441_452 := na_ BK441 hg; have NB452_441 := nb_ BK441 hg; replace BK440 := bb_ BK440 hb; replace BK441 := bb_ BK441 hb; replace HB := Aside0.mk (below_step (bl_ HB).out hb); clear hb hbox hg; have hnb20 := NB452_440.out; have hnc20 := NB440_452.out; have hnb21 := NB452_441.out; have hnc21 := NB441_452.out; obtain ⟨hcz22_0, hcz22_1, hcz22_2, hcz22_3, hcz22_4, hcz22_5, hcz22_6, hcz22_7, hfz22_0, hfz22_1, hfz22_2, hfz22_3, hfz22_4, hfz22_5, hfz22_6, hfz22_7⟩ := bo8_ BK452))
      have n0_ : Aside0 (((((((((w19.setCell ⟨gb452, 0, none⟩ (.int .i64 t444)).setCell ⟨gb452, 1, none⟩ (.int .i64 t445)).setCell ⟨gb452, 2, none⟩ (.int .i64 t446)).setCell ⟨gb452, 3, none⟩ (.bool t447)).setCell ⟨gb452, 4, none⟩ (.string t448)).setCell ⟨gb452, 5, none⟩ (.int .i64 t449)).setCell ⟨gb452, 6, none⟩ (.int .i64 t450)).setCell ⟨gb452, 7, none⟩ (.int .i64 t451)).heap[gb440]? = _) := bf_ BK440
      have n1_ : Aside0 (((((((((w19.setCell ⟨gb452, 0, none⟩ (.int .i64 t444)).setCell ⟨gb452, 1, none⟩ (.int .i64 t445)).setCell ⟨gb452, 2, none⟩ (.int .i64 t446)).setCell ⟨gb452, 3, none⟩ (.bool t447)).setCell ⟨gb452, 4, none⟩ (.string t448)).setCell ⟨gb452, 5, none⟩ (.int .i64 t449)).setCell ⟨gb452, 6, none⟩ (.int .i64 t450)).setCell ⟨gb452, 7, none⟩ (.int .i64 t451)).heap[gb441]? = _) := bf_ BK441
      have n2_ : Aside0 (((((((((w19.setCell ⟨gb452, 0, none⟩ (.int .i64 t444)).setCell ⟨gb452, 1, none⟩ (.int .i64 t445)).setCell ⟨gb452, 2, none⟩ (.int .i64 t446)).setCell ⟨gb452, 3, none⟩ (.bool t447)).setCell ⟨gb452, 4, none⟩ (.string t448)).setCell ⟨gb452, 5, none⟩ (.int .i64 t449)).setCell ⟨gb452, 6, none⟩ (.int .i64 t450)).setCell ⟨gb452, 7, none⟩ (.int .i64 t451)).heap[gb452]? = some (.cells #[.int .i64 t444, .int .i64 t445, .int .i64 t446, .bool t447, .string t448, .int .i64 t449, .int .i64 t450, .int .i64 t451] 32 (0, 0))) := ⟨by (with_reducible repeat (first | refine blk_drewN ?_ _ | refine blk_drew ?_ | refine blk_alloc ?_ _)); refine blk_put (cs := #[.int .i64 t444, .int .i64 t445, .int .i64 t446, .bool t447, .string t448, .int .i64 t449, .int .i64 t450, .int .i64 0]) ?_ 7 _ rfl; (with_reducible repeat (first | refine blk_drewN ?_ _ | refine blk_drew ?_ | refine blk_alloc ?_ _)); refine blk_put (cs := #[.int .i64 t444, .int .i64 t445, .int .i64 t446, .bool t447, .string t448, .int .i64 t449, .int .i64 0, .int .i64 0]) ?_ 6 _ rfl; (with_reducible repeat (first | refine blk_drewN ?_ _ | refine blk_drew ?_ | refine blk_alloc ?_ _)); refine blk_put (cs := #[.int .i64 t444, .int .i64 t445, .int .i64 t446, .bool t447, .string t448, .int .i64 0, .int .i64 0, .int .i64 0]) ?_ 5 _ rfl; (with_reducible repeat (first | refine blk_drewN ?_ _ | refine blk_drew ?_ | refine blk_alloc ?_ _)); refine blk_put (cs := #[.int .i64 t444, .int .i64 t445, .int .i64 t446, .bool t447, .string (⟨#[]⟩ : ByteArray), .int .i64 0, .int .i64 0, .int .i64 0]) ?_ 4 _ rfl; (with_reducible repeat (first | refine blk_drewN ?_ _ | refine blk_drew ?_ | refine blk_alloc ?_ _)); refine blk_put (cs := #[.int .i64 t444, .int .i64 t445, .int .i64 t446, .bool false, .string (⟨#[]⟩ : ByteArray), .int .i64 0, .int .i64 0, .int .i64 0]) ?_ 3 _ rfl; (with_reducible repeat (first | refine blk_drewN ?_ _ | refine blk_drew ?_ | refine blk_alloc ?_ _)); refine blk_put (cs := #[.int .i64 t444, .int .i64 t445, .int .i64 0, .bool false, .string (⟨#[]⟩ : ByteArray), .int .i64 0, .int .i64 0, .int .i64 0]) ?_ 2 _ rfl; (with_reducible repeat (first | refine blk_drewN ?_ _ | refine blk_drew ?_ | refine blk_alloc ?_ _)); refine blk_put (cs := #[.int .i64 t444, .int .i64 0, .int .i64 0, .bool false, .string (⟨#[]⟩ : ByteArray), .int .i64 0, .int .i64 0, .int .i64 0]) ?_ 1 _ rfl; (with_reducible repeat (first | refine blk_drewN ?_ _ | refine blk_drew ?_ | refine blk_alloc ?_ _)); refine blk_put (cs := #[.int .i64 0, .int .i64 0, .int .i64 0, .bool false, .string (⟨#[]⟩ : ByteArray), .int .i64 0, .int .i64 0, .int .i64 0]) ?_ 0 _ rfl; (with_reducible repeat (first | refine blk_drewN ?_ _ | refine blk_drew ?_ | refine blk_alloc ?_ _)); exact BK452.out⟩
      have n3_ : Aside0 (Below w.heap.size w ((((((((w19.setCell ⟨gb452, 0, none⟩ (.int .i64 t444)).setCell ⟨gb452, 1, none⟩ (.int .i64 t445)).setCell ⟨gb452, 2, none⟩ (.int .i64 t446)).setCell ⟨gb452, 3, none⟩ (.bool t447)).setCell ⟨gb452, 4, none⟩ (.string t448)).setCell ⟨gb452, 5, none⟩ (.int .i64 t449)).setCell ⟨gb452, 6, none⟩ (.int .i64 t450)).setCell ⟨gb452, 7, none⟩ (.int .i64 t451))) := (bl_ HB)
      (try clear BK440)
      (try clear BK441)
      (try clear BK452)
      (try clear HB)
      generalize ((((((((w19.setCell ⟨gb452, 0, none⟩ (.int .i64 t444)).setCell ⟨gb452, 1, none⟩ (.int .i64 t445)).setCell ⟨gb452, 2, none⟩ (.int .i64 t446)).setCell ⟨gb452, 3, none⟩ (.bool t447)).setCell ⟨gb452, 4, none⟩ (.string t448)).setCell ⟨gb452, 5, none⟩ (.int .i64 t449)).setCell ⟨gb452, 6, none⟩ (.int .i64 t450)).setCell ⟨gb452, 7, none⟩ (.int .i64 t451)) = w23 at n0_ n1_ n2_ n3_ ⊢
      have BK440 := n0_
      have BK441 := n1_
      have BK452 := n2_
      have HB := n3_
      clear n0_ n1_ n2_ n3_
      replace BK440 := Aside0.mk (blk_drew BK440.out)
      replace BK441 := Aside0.mk (blk_drew BK441.out)
      replace BK452 := Aside0.mk (blk_drew BK452.out)
      replace HB := Aside0.mk (below_drew1 HB.out)
      refine start_ (n := 10) (S := fun w' => w'.cell? ⟨gb452, 0, none⟩ = some (.int .i64 t444) ∧ w'.cell? ⟨gb452, 1, none⟩ = some (.int .i64 t445) ∧ w'.cell? ⟨gb452, 2, none⟩ = some (.int .i64 t446) ∧ w'.cell? ⟨gb452, 3, none⟩ = some (.bool t447) ∧ w'.cell? ⟨gb452, 4, none⟩ = some (.string t448) ∧ w'.cell? ⟨gb452, 5, none⟩ = some (.int .i64 t449) ∧ w'.cell? ⟨gb452, 6, none⟩ = some (.int .i64 t450) ∧ w'.cell? ⟨gb452, 7, none⟩ = some (.int .i64 t451) ∧ w'.cell? ⟨gb440, 0, none⟩ = some (.bool a0_0) ∧ w'.cell? ⟨gb440, 1, none⟩ = some (.slice A0_1 l0_1.length c0_1) ∧ w'.cell? ⟨gb440, 2, none⟩ = some (.int .i64 a0_2)) (ds := []) #[false, false, false, false, false, false, false, false, false, false] (by kernel_rfl) rfl rfl ⟨bc_ BK452 0, bc_ BK452 1, bc_ BK452 2, bc_ BK452 3, bc_ BK452 4, bc_ BK452 5, bc_ BK452 6, bc_ BK452 7, bc_ BK440 0, bc_ BK440 1, bc_ BK440 2⟩ (fun hHeld => ?_); refine with_tabW florinlaw04_ShowTexts.tab6 florinlaw04_ShowTexts.bits6 (fun HT_ HW_ => ?_)
      generalize w23.drew = w24 at BK440 BK441 BK452 HB hHeld ⊢
      refine tk_ 0 19 (bm_ 10 1) HT_ HW_ hHeld rfl (by rintro w' ⟨s0, s1, s2, s3, s4, s5, s6, s7, s8, s9, s10⟩; go_simp; with_reducible rfl) ?_
      refine tk_ 1 20 (bm_ 10 3) HT_ HW_ hHeld rfl (by rintro w' ⟨s0, s1, s2, s3, s4, s5, s6, s7, s8, s9, s10⟩; go_simp; with_reducible rfl) ?_
      refine join_ (σ := Nat) 2 #[true, true, true, true, true, true, true, true, false, false] (fun s_ => [(21, .agg #[.bool t453, .string t454, .int .i64 t455]), (22, .tuple #[.agg #[.bool t456, .string t457, .string t458], .int .i64 t459]), (6, .pointer (some ⟨s_, 0, none⟩)), (18, .tuple #[.agg #[.bool t456, .string t457, .string t458], .int .i64 t459]), (23, .agg #[.bool t456, .string t457, .string t458]), (24, .int .i64 t459)]) (fun s_ w' => (w'.cell? ⟨gb452, 0, none⟩ = some (.int .i64 t444) ∧ w'.cell? ⟨gb452, 1, none⟩ = some (.int .i64 t445) ∧ w'.cell? ⟨gb452, 2, none⟩ = some (.int .i64 t446) ∧ w'.cell? ⟨gb452, 3, none⟩ = some (.bool t447) ∧ w'.cell? ⟨gb452, 4, none⟩ = some (.string t448) ∧ w'.cell? ⟨gb452, 5, none⟩ = some (.int .i64 t449) ∧ w'.cell? ⟨gb452, 6, none⟩ = some (.int .i64 t450) ∧ w'.cell? ⟨gb452, 7, none⟩ = some (.int .i64 t451) ∧ w'.cell? ⟨gb440, 0, none⟩ = some (.bool a0_0) ∧ w'.cell? ⟨gb440, 1, none⟩ = some (.slice A0_1 l0_1.length c0_1) ∧ w'.cell? ⟨gb440, 2, none⟩ = some (.int .i64 a0_2)) ∧ (w'.heap[gb440]? = some (.cells #[.bool a0_0, .slice A0_1 l0_1.length c0_1, .int .i64 a0_2] 24 (0, 0))) ∧ (w'.heap[gb441]? = some (.cells #[.int .i64 a1_0, .int .i64 a1_1, .int .i64 a1_2, .int .i64 a1_3, .int .i64 a1_4, .int .i64 a1_5, .int .i64 a1_6] 42 (0, 0))) ∧ (w'.heap[gb452]? = some (.cells #[.int .i64 t444, .int .i64 t445, .int .i64 t446, .bool t447, .string t448, .int .i64 t449, .int .i64 t450, .int .i64 t451] 32 (0, 0))) ∧ (w'.heap[s_]? = some (.cells #[.bool false, .string (⟨#[]⟩ : ByteArray), .string (⟨#[]⟩ : ByteArray)] 35 (0, 0))) ∧ (w.heap.size ≤ s_) ∧ (w.heap.size ≤ s_) ∧ (gb440 ≠ s_) ∧ (s_ ≠ gb440) ∧ (gb441 ≠ s_) ∧ (s_ ≠ gb441) ∧ (gb452 ≠ s_) ∧ (s_ ≠ gb452) ∧ (Below w.heap.size w w')) ?_ ?_
      rotate_left
      · intro hCont
        refine two_ (i := 2) (j := 7) (Ni := some 21) (Nj := some 6) #[true, true, true, false, false, false, false, false, false, false] #[true, true, false, false, false, false, false, true, false, false] rfl rfl rfl rfl (two_of HT_.out (by kernel_rfl)) (by decide) (by decide) (fun K hK => ?_) (fun K hK => ?_)
        · skip
          refine gs_ Tryd.func9 #[.agg #[.bool a0_0, .slice A0_1 l0_1.length c0_1, .int .i64 a0_2]] ?_
          with_reducible refine (florinlaw02_Raw_Make.calls k a0_0 _ _ l0_1 a0_2 t453 t454 t455 _ ?side1 ?side2 A8.out).mono ?_
          (case side1 => repeat (first | exact (Kd.C_below HR0_1.out HB.out) | (with_reducible refine Kd.C_alloc ?_ _) | (with_reducible refine Kd.C_drewN ?_ _) | (with_reducible refine Kd.C_drew ?_)))
          (case side2 => exact HC0_1.out)
          rintro e w25 ⟨rfl, hb⟩
          refine ⟨_, rfl, ?_⟩
          replace BK440 := bb_ BK440 hb
          replace BK441 := bb_ BK441 hb
          replace BK452 := bb_ BK452 hb
          replace HB := Aside0.mk (below_step (bl_ HB).out hb)
          (try clear hb)
          (try clear hb2)
          (try clear hk)
          (try clear hi)
          refine hK.out _ _ ⟨bc_ BK452 0, bc_ BK452 1, bc_ BK452 2, bc_ BK452 3, bc_ BK452 4, bc_ BK452 5, bc_ BK452 6, bc_ BK452 7, bc_ BK440 0, bc_ BK440 1, bc_ BK440 2⟩ (fun hHeld => ?_)
          clear hK K
          refine nm_ 21 ?_
          refine two_ (i := 3) (j := 7) (Ni := some 22) (Nj := some 6) #[true, true, true, true, false, false, false, false, false, false] #[true, true, true, false, false, false, false, true, false, false] rfl rfl rfl rfl (two_of HT_.out (by kernel_rfl)) (by decide) (by decide) (fun K hK => ?_) (fun K hK => ?_)
          · skip
            refine gs_ Tryd.func13 #[.agg #[.int .i64 t444, .int .i64 t445, .int .i64 t446, .bool t447, .string t448, .int .i64 t449, .int .i64 t450, .int .i64 t451], .agg #[.bool t453, .string t454, .int .i64 t455]] ?_
            with_reducible refine (show_Prec_Apply.calls k t444 t445 t446 t447 t448 t449 t450 t451 t453 t454 t455 t456 t457 t458 t459 _ A9.out).mono ?_
            rintro e w26 ⟨rfl, hb⟩
            refine ⟨_, rfl, ?_⟩
            replace BK440 := bb_ BK440 hb
            replace BK441 := bb_ BK441 hb
            replace BK452 := bb_ BK452 hb
            replace HB := Aside0.mk (below_step (bl_ HB).out hb)
            (try clear hb)
            (try clear hb2)
            (try clear hk)
            (try clear hi)
            refine hK.out _ _ ⟨bc_ BK452 0, bc_ BK452 1, bc_ BK452 2, bc_ BK452 3, bc_ BK452 4, bc_ BK452 5, bc_ BK452 6, bc_ BK452 7, bc_ BK440 0, bc_ BK440 1, bc_ BK440 2⟩ (fun hHeld => ?_)
            clear hK K
            refine nm_ 22 ?_
            refine pu_ 4 18 (bm_ 10 31) HT_ ?_
            refine pu_ 5 23 (bm_ 10 63) HT_ ?_
            refine pu_ 6 24 (bm_ 10 127) HT_ ?_
            refine one_ (i := 7) (N := some 6) (bm_ 10 255) rfl rfl (one_of HT_.out (by kernel_rfl)) (by decide) (fun K hK => ?_)
            refine box_step ?hg (N := 6) ?hd (cs := #[.bool false, .string (⟨#[]⟩ : ByteArray), .string (⟨#[]⟩ : ByteArray)]) (t := 35) ?hr ?_; (case hd => rfl); (case hg => rfl); (case hr => first | (go_simp; done) | (go_simp; rfl))
            intro gb460 hg w27 hbox hb
            have n0_ := bb_ BK440 hb
            have n1_ := bb_ BK441 hb
            have n2_ := bb_ BK452 hb
            have n3_ := Aside0.mk (below_step (bl_ HB).out hb)
            have n4_ := Aside0.mk (hbox)
            have n5_ := sz_ HB hg
            have n6_ := sz_ HB hg
            have n7_ := na_ BK440 hg
            have n8_ := nb_ BK440 hg
            have n9_ := na_ BK441 hg
            have n10_ := nb_ BK441 hg
            have n11_ := na_ BK452 hg
            have n12_ := nb_ BK452 hg
            clear BK440
            clear BK441
            clear BK452
            clear HB
            have BK440 := n0_
            have BK441 := n1_
            have BK452 := n2_
            have HB := n3_
            have BK460 := n4_
            have GW460 := n5_
            have GE460 := n6_
            have NB440_460 := n7_
            have NB460_440 := n8_
            have NB441_460 := n9_
            have NB460_441 := n10_
            have NB452_460 := n11_
            have NB460_452 := n12_
            clear n0_ n1_ n2_ n3_ n4_ n5_ n6_ n7_ n8_ n9_ n10_ n11_ n12_
            clear hb hbox hg
            refine hK.out _ _ ⟨bc_ BK452 0, bc_ BK452 1, bc_ BK452 2, bc_ BK452 3, bc_ BK452 4, bc_ BK452 5, bc_ BK452 6, bc_ BK452 7, bc_ BK440 0, bc_ BK440 1, bc_ BK440 2⟩ (fun hHeld => ?_)
            clear hK K
            refine nm_ 6 ?_
            exact norm_ (by simp only [putAll, Act.put, List.setIfInBounds_toArray, List.set_cons_zero, List.set_cons_succ]) (hCont (gb460) _ ⟨hHeld, (by (with_reducible repeat (first | refine blk_drewN ?_ _ | refine blk_drew ?_ | refine blk_alloc ?_ _)); exact BK440.out), (by (with_reducible repeat (first | refine blk_drewN ?_ _ | refine blk_drew ?_ | refine blk_alloc ?_ _)); exact BK441.out), (by (with_reducible repeat (first | refine blk_drewN ?_ _ | refine blk_drew ?_ | refine blk_alloc ?_ _)); exact BK452.out), (by (with_reducible repeat (first | refine blk_drewN ?_ _ | refine blk_drew ?_ | refine blk_alloc ?_ _)); exact BK460.out), GW460.out, GE460.out, NB440_460.out, NB460_440.out, NB441_460.out, NB460_441.out, NB452_460.out, NB460_452.out, (bl_ HB).out⟩)
          · skip
            refine box_step ?hg (N := 6) ?hd (cs := #[.bool false, .string (⟨#[]⟩ : ByteArray), .string (⟨#[]⟩ : ByteArray)]) (t := 35) ?hr ?_; (case hd => rfl); (case hg => rfl); (case hr => first | (go_simp; done) | (go_simp; rfl))
            intro gb460 hg w26 hbox hb
            have n0_ := bb_ BK440 hb
            have n1_ := bb_ BK441 hb
            have n2_ := bb_ BK452 hb
            have n3_ := Aside0.mk (below_step (bl_ HB).out hb)
            have n4_ := Aside0.mk (hbox)
            have n5_ := sz_ HB hg
            have n6_ := sz_ HB hg
            have n7_ := na_ BK440 hg
            have n8_ := nb_ BK440 hg
            have n9_ := na_ BK441 hg
            have n10_ := nb_ BK441 hg
            have n11_ := na_ BK452 hg
            have n12_ := nb_ BK452 hg
            clear BK440
            clear BK441
            clear BK452
            clear HB
            have BK440 := n0_
            have BK441 := n1_
            have BK452 := n2_
            have HB := n3_
            have BK460 := n4_
            have GW460 := n5_
            have GE460 := n6_
            have NB440_460 := n7_
            have NB460_440 := n8_
            have NB441_460 := n9_
            have NB460_441 := n10_
            have NB452_460 := n11_
            have NB460_452 := n12_
            clear n0_ n1_ n2_ n3_ n4_ n5_ n6_ n7_ n8_ n9_ n10_ n11_ n12_
            clear hb hbox hg
            refine hK.out _ _ ⟨bc_ BK452 0, bc_ BK452 1, bc_ BK452 2, bc_ BK452 3, bc_ BK452 4, bc_ BK452 5, bc_ BK452 6, bc_ BK452 7, bc_ BK440 0, bc_ BK440 1, bc_ BK440 2⟩ (fun hHeld => ?_)
            clear hK K
            refine nm_ 6 ?_
            refine one_ (i := 3) (N := some 22) (bm_ 10 143) rfl rfl (one_of HT_.out (by kernel_rfl)) (by decide) (fun K hK => ?_)
            refine gs_ Tryd.func13 #[.agg #[.int .i64 t444, .int .i64 t445, .int .i64 t446, .bool t447, .string t448, .int .i64 t449, .int .i64 t450, .int .i64 t451], .agg #[.bool t453, .string t454, .int .i64 t455]] ?_
            with_reducible refine (show_Prec_Apply.calls k t444 t445 t446 t447 t448 t449 t450 t451 t453 t454 t455 t456 t457 t458 t459 _ A9.out).mono ?_
            rintro e w27 ⟨rfl, hb⟩
            refine ⟨_, rfl, ?_⟩
            replace BK440 := bb_ BK440 hb
            replace BK441 := bb_ BK441 hb
            replace BK452 := bb_ BK452 hb
            replace BK460 := bb_ BK460 hb
            replace HB := Aside0.mk (below_step (bl_ HB).out hb)
            (try clear hb)
            (try clear hb2)
            (try clear hk)
            (try clear hi)
            refine hK.out _ _ ⟨bc_ BK452 0, bc_ BK452 1, bc_ BK452 2, bc_ BK452 3, bc_ BK452 4, bc_ BK452 5, bc_ BK452 6, bc_ BK452 7, bc_ BK440 0, bc_ BK440 1, bc_ BK440 2⟩ (fun hHeld => ?_)
            clear hK K
            refine nm_ 22 ?_
            refine pu_ 4 18 (bm_ 10 159) HT_ ?_
            refine pu_ 5 23 (bm_ 10 191) HT_ ?_
            refine pu_ 6 24 (bm_ 10 255) HT_ ?_
            exact norm_ (by simp only [putAll, Act.put, List.setIfInBounds_toArray, List.set_cons_zero, List.set_cons_succ]) (hCont (gb460) _ ⟨hHeld, (by (with_reducible repeat (first | refine blk_drewN ?_ _ | refine blk_drew ?_ | refine blk_alloc ?_ _)); exact BK440.out), (by (with_reducible repeat (first | refine blk_drewN ?_ _ | refine blk_drew ?_ | refine blk_alloc ?_ _)); exact BK441.out), (by (with_reducible repeat (first | refine blk_drewN ?_ _ | refine blk_drew ?_ | refine blk_alloc ?_ _)); exact BK452.out), (by (with_reducible repeat (first | refine blk_drewN ?_ _ | refine blk_drew ?_ | refine blk_alloc ?_ _)); exact BK460.out), GW460.out, GE460.out, NB440_460.out, NB460_440.out, NB441_460.out, NB460_441.out, NB452_460.out, NB460_452.out, (bl_ HB).out⟩)
        · skip
          refine box_step ?hg (N := 6) ?hd (cs := #[.bool false, .string (⟨#[]⟩ : ByteArray), .string (⟨#[]⟩ : ByteArray)]) (t := 35) ?hr ?_; (case hd => rfl); (case hg => rfl); (case hr => first | (go_simp; done) | (go_simp; rfl))
          intro gb460 hg w25 hbox hb
          have n0_ := bb_ BK440 hb
          have n1_ := bb_ BK441 hb
          have n2_ := bb_ BK452 hb
          have n3_ := Aside0.mk (below_step (bl_ HB).out hb)
          have n4_ := Aside0.mk (hbox)
          have n5_ := sz_ HB hg
          have n6_ := sz_ HB hg
          have n7_ := na_ BK440 hg
          have n8_ := nb_ BK440 hg
          have n9_ := na_ BK441 hg
          have n10_ := nb_ BK441 hg
          have n11_ := na_ BK452 hg
          have n12_ := nb_ BK452 hg
          clear BK440
          clear BK441
          clear BK452
          clear HB
          have BK440 := n0_
          have BK441 := n1_
          have BK452 := n2_
          have HB := n3_
          have BK460 := n4_
          have GW460 := n5_
          have GE460 := n6_
          have NB440_460 := n7_
          have NB460_440 := n8_
          have NB441_460 := n9_
          have NB460_441 := n10_
          have NB452_460 := n11_
          have NB460_452 := n12_
          clear n0_ n1_ n2_ n3_ n4_ n5_ n6_ n7_ n8_ n9_ n10_ n11_ n12_
          clear hb hbox hg
          refine hK.out _ _ ⟨bc_ BK452 0, bc_ BK452 1, bc_ BK452 2, bc_ BK452 3, bc_ BK452 4, bc_ BK452 5, bc_ BK452 6, bc_ BK452 7, bc_ BK440 0, bc_ BK440 1, bc_ BK440 2⟩ (fun hHeld => ?_)
          clear hK K
          refine nm_ 6 ?_
          refine one_ (i := 2) (N := some 21) (bm_ 10 135) rfl rfl (one_of HT_.out (by kernel_rfl)) (by decide) (fun K hK => ?_)
          refine gs_ Tryd.func9 #[.agg #[.bool a0_0, .slice A0_1 l0_1.length c0_1, .int .i64 a0_2]] ?_
          with_reducible refine (florinlaw02_Raw_Make.calls k a0_0 _ _ l0_1 a0_2 t453 t454 t455 _ ?side1 ?side2 A8.out).mono ?_
          (case side1 => repeat (first | exact (Kd.C_below HR0_1.out HB.out) | (with_reducible refine Kd.C_alloc ?_ _) | (with_reducible refine Kd.C_drewN ?_ _) | (with_reducible refine Kd.C_drew ?_)))
          (case side2 => exact HC0_1.out)
          rintro e w26 ⟨rfl, hb⟩
          refine ⟨_, rfl, ?_⟩
          replace BK440 := bb_ BK440 hb
          replace BK441 := bb_ BK441 hb
          replace BK452 := bb_ BK452 hb
          replace BK460 := bb_ BK460 hb
          replace HB := Aside0.mk (below_step (bl_ HB).out hb)
          (try clear hb)
          (try clear hb2)
          (try clear hk)
          (try clear hi)
          refine hK.out _ _ ⟨bc_ BK452 0, bc_ BK452 1, bc_ BK452 2, bc_ BK452 3, bc_ BK452 4, bc_ BK452 5, bc_ BK452 6, bc_ BK452 7, bc_ BK440 0, bc_ BK440 1, bc_ BK440 2⟩ (fun hHeld => ?_)
          clear hK K
          refine nm_ 21 ?_
          refine one_ (i := 3) (N := some 22) (bm_ 10 143) rfl rfl (one_of HT_.out (by kernel_rfl)) (by decide) (fun K hK => ?_)
          refine gs_ Tryd.func13 #[.agg #[.int .i64 t444, .int .i64 t445, .int .i64 t446, .bool t447, .string t448, .int .i64 t449, .int .i64 t450, .int .i64 t451], .agg #[.bool t453, .string t454, .int .i64 t455]] ?_
          with_reducible refine (show_Prec_Apply.calls k t444 t445 t446 t447 t448 t449 t450 t451 t453 t454 t455 t456 t457 t458 t459 _ A9.out).mono ?_
          rintro e w27 ⟨rfl, hb⟩
          refine ⟨_, rfl, ?_⟩
          replace BK440 := bb_ BK440 hb
          replace BK441 := bb_ BK441 hb
          replace BK452 := bb_ BK452 hb
          replace BK460 := bb_ BK460 hb
          replace HB := Aside0.mk (below_step (bl_ HB).out hb)
          (try clear hb)
          (try clear hb2)
          (try clear hk)
          (try clear hi)
          refine hK.out _ _ ⟨bc_ BK452 0, bc_ BK452 1, bc_ BK452 2, bc_ BK452 3, bc_ BK452 4, bc_ BK452 5, bc_ BK452 6, bc_ BK452 7, bc_ BK440 0, bc_ BK440 1, bc_ BK440 2⟩ (fun hHeld => ?_)
          clear hK K
          refine nm_ 22 ?_
          refine pu_ 4 18 (bm_ 10 159) HT_ ?_
          refine pu_ 5 23 (bm_ 10 191) HT_ ?_
          refine pu_ 6 24 (bm_ 10 255) HT_ ?_
          exact norm_ (by simp only [putAll, Act.put, List.setIfInBounds_toArray, List.set_cons_zero, List.set_cons_succ]) (hCont (gb460) _ ⟨hHeld, (by (with_reducible repeat (first | refine blk_drewN ?_ _ | refine blk_drew ?_ | refine blk_alloc ?_ _)); exact BK440.out), (by (with_reducible repeat (first | refine blk_drewN ?_ _ | refine blk_drew ?_ | refine blk_alloc ?_ _)); exact BK441.out), (by (with_reducible repeat (first | refine blk_drewN ?_ _ | refine blk_drew ?_ | refine blk_alloc ?_ _)); exact BK452.out), (by (with_reducible repeat (first | refine blk_drewN ?_ _ | refine blk_drew ?_ | refine blk_alloc ?_ _)); exact BK460.out), GW460.out, GE460.out, NB440_460.out, NB460_440.out, NB441_460.out, NB460_441.out, NB452_460.out, NB460_452.out, (bl_ HB).out⟩)
      rintro gb460 w28 ⟨hS_, h0_, h1_, h2_, h3_, h4_, h5_, h6_, h7_, h8_, h9_, h10_, h11_, h12_⟩
      have n0_ : Aside0 (w28.heap[gb440]? = some (.cells #[.bool a0_0, .slice A0_1 l0_1.length c0_1, .int .i64 a0_2] 24 (0, 0))) := ⟨h0_⟩
      have n1_ : Aside0 (w28.heap[gb441]? = some (.cells #[.int .i64 a1_0, .int .i64 a1_1, .int .i64 a1_2, .int .i64 a1_3, .int .i64 a1_4, .int .i64 a1_5, .int .i64 a1_6] 42 (0, 0))) := ⟨h1_⟩
      have n2_ : Aside0 (w28.heap[gb452]? = some (.cells #[.int .i64 t444, .int .i64 t445, .int .i64 t446, .bool t447, .string t448, .int .i64 t449, .int .i64 t450, .int .i64 t451] 32 (0, 0))) := ⟨h2_⟩
      have n3_ : Aside0 (w28.heap[gb460]? = some (.cells #[.bool false, .string (⟨#[]⟩ : ByteArray), .string (⟨#[]⟩ : ByteArray)] 35 (0, 0))) := ⟨h3_⟩
      have n4_ : Aside0 (w.heap.size ≤ gb460) := ⟨h4_⟩
      have n5_ : Aside0 (w.heap.size ≤ gb460) := ⟨h5_⟩
      have n6_ : Aside0 (gb440 ≠ gb460) := ⟨h6_⟩
      have n7_ : Aside0 (gb460 ≠ gb440) := ⟨h7_⟩
      have n8_ : Aside0 (gb441 ≠ gb460) := ⟨h8_⟩
      have n9_ : Aside0 (gb460 ≠ gb441) := ⟨h9_⟩
      have n10_ : Aside0 (gb452 ≠ gb460) := ⟨h10_⟩
      have n11_ : Aside0 (gb460 ≠ gb452) := ⟨h11_⟩
      have n12_ : Aside0 (Below w.heap.size w w28) := ⟨h12_⟩
      clear BK440
      clear BK441
      clear BK452
      clear HB
      clear h0_ h1_ h2_ h3_ h4_ h5_ h6_ h7_ h8_ h9_ h10_ h11_ h12_
      have BK440 := n0_
      have BK441 := n1_
      have BK452 := n2_
      have BK460 := n3_
      have GW460 := n4_
      have GE460 := n5_
      have NB440_460 := n6_
      have NB460_440 := n7_
      have NB441_460 := n8_
      have NB460_441 := n9_
      have NB452_460 := n10_
      have NB460_452 := n11_
      have HB := n12_
      clear n0_ n1_ n2_ n3_ n4_ n5_ n6_ n7_ n8_ n9_ n10_ n11_ n12_
      have hHeld : w28.cell? ⟨gb452, 0, none⟩ = some (.int .i64 t444) ∧ w28.cell? ⟨gb452, 1, none⟩ = some (.int .i64 t445) ∧ w28.cell? ⟨gb452, 2, none⟩ = some (.int .i64 t446) ∧ w28.cell? ⟨gb452, 3, none⟩ = some (.bool t447) ∧ w28.cell? ⟨gb452, 4, none⟩ = some (.string t448) ∧ w28.cell? ⟨gb452, 5, none⟩ = some (.int .i64 t449) ∧ w28.cell? ⟨gb452, 6, none⟩ = some (.int .i64 t450) ∧ w28.cell? ⟨gb452, 7, none⟩ = some (.int .i64 t451) ∧ w28.cell? ⟨gb440, 0, none⟩ = some (.bool a0_0) ∧ w28.cell? ⟨gb440, 1, none⟩ = some (.slice A0_1 l0_1.length c0_1) ∧ w28.cell? ⟨gb440, 2, none⟩ = some (.int .i64 a0_2) := hS_
      refine norm_ (a' := ?_) ?_ ?_
      rotate_left
      · simp only [putAll, Act.put, List.setIfInBounds_toArray, List.set_cons_zero, List.set_cons_succ]
        rfl
      refine one_ (i := 8) (N := none) (bm_ 10 511) rfl rfl (one_of HT_.out (by kernel_rfl)) (by decide) (fun K hK => ?_)
      have hs29 : w28.cell? ⟨gb460, 0, none⟩ = some (.bool false) := bc_ BK460 0
      have hfs29 := blk_frozen BK460.out 0
      have hns29_0 := NB440_460.out
      have hns29_1 := NB441_460.out
      have hns29_2 := NB452_460.out
      have hms29_0 := NB460_440.out
      have hms29_1 := NB460_441.out
      have hms29_2 := NB460_452.out
      have hs30 : w28.cell? ⟨gb460, 1, none⟩ = some (.string (⟨#[]⟩ : ByteArray)) := bc_ BK460 1
      have hfs30 := blk_frozen BK460.out 1
      have hns30_0 := NB440_460.out
      have hns30_1 := NB441_460.out
      have hns30_2 := NB452_460.out
      have hms30_0 := NB460_440.out
      have hms30_1 := NB460_441.out
      have hms30_2 := NB460_452.out
      have hs31 : w28.cell? ⟨gb460, 2, none⟩ = some (.string (⟨#[]⟩ : ByteArray)) := bc_ BK460 2
      have hfs31 := blk_frozen BK460.out 2
      have hns31_0 := NB440_460.out
      have hns31_1 := NB441_460.out
      have hns31_2 := NB452_460.out
      have hms31_0 := NB460_440.out
      have hms31_1 := NB460_441.out
      have hms31_2 := NB460_452.out
      refine skip_ (w1 := ?_) (by rfl) rfl ?_ ?_
      rotate_left
      · go_simp
        rfl
      refine hK.out _ _ ⟨((cell_far (p := ⟨gb460, _, none⟩) NB452_460.out _).trans (((cell_far (p := ⟨gb460, _, none⟩) NB452_460.out _).trans (((cell_far (p := ⟨gb460, _, none⟩) NB452_460.out _).trans (hHeld.1)))))), ((cell_far (p := ⟨gb460, _, none⟩) NB452_460.out _).trans (((cell_far (p := ⟨gb460, _, none⟩) NB452_460.out _).trans (((cell_far (p := ⟨gb460, _, none⟩) NB452_460.out _).trans (hHeld.2.1)))))), ((cell_far (p := ⟨gb460, _, none⟩) NB452_460.out _).trans (((cell_far (p := ⟨gb460, _, none⟩) NB452_460.out _).trans (((cell_far (p := ⟨gb460, _, none⟩) NB452_460.out _).trans (hHeld.2.2.1)))))), ((cell_far (p := ⟨gb460, _, none⟩) NB452_460.out _).trans (((cell_far (p := ⟨gb460, _, none⟩) NB452_460.out _).trans (((cell_far (p := ⟨gb460, _, none⟩) NB452_460.out _).trans (hHeld.2.2.2.1)))))), ((cell_far (p := ⟨gb460, _, none⟩) NB452_460.out _).trans (((cell_far (p := ⟨gb460, _, none⟩) NB452_460.out _).trans (((cell_far (p := ⟨gb460, _, none⟩) NB452_460.out _).trans (hHeld.2.2.2.2.1)))))), ((cell_far (p := ⟨gb460, _, none⟩) NB452_460.out _).trans (((cell_far (p := ⟨gb460, _, none⟩) NB452_460.out _).trans (((cell_far (p := ⟨gb460, _, none⟩) NB452_460.out _).trans (hHeld.2.2.2.2.2.1)))))), ((cell_far (p := ⟨gb460, _, none⟩) NB452_460.out _).trans (((cell_far (p := ⟨gb460, _, none⟩) NB452_460.out _).trans (((cell_far (p := ⟨gb460, _, none⟩) NB452_460.out _).trans (hHeld.2.2.2.2.2.2.1)))))), ((cell_far (p := ⟨gb460, _, none⟩) NB452_460.out _).trans (((cell_far (p := ⟨gb460, _, none⟩) NB452_460.out _).trans (((cell_far (p := ⟨gb460, _, none⟩) NB452_460.out _).trans (hHeld.2.2.2.2.2.2.2.1)))))), ((cell_far (p := ⟨gb460, _, none⟩) NB440_460.out _).trans (((cell_far (p := ⟨gb460, _, none⟩) NB440_460.out _).trans (((cell_far (p := ⟨gb460, _, none⟩) NB440_460.out _).trans (hHeld.2.2.2.2.2.2.2.2.1)))))), ((cell_far (p := ⟨gb460, _, none⟩) NB440_460.out _).trans (((cell_far (p := ⟨gb460, _, none⟩) NB440_460.out _).trans (((cell_far (p := ⟨gb460, _, none⟩) NB440_460.out _).trans (hHeld.2.2.2.2.2.2.2.2.2.1)))))), ((cell_far (p := ⟨gb460, _, none⟩) NB440_460.out _).trans (((cell_far (p := ⟨gb460, _, none⟩) NB440_460.out _).trans (((cell_far (p := ⟨gb460, _, none⟩) NB440_460.out _).trans (hHeld.2.2.2.2.2.2.2.2.2.2))))))⟩ (fun hHeld => ?_)
      clear hK K
      refine pu_ 9 7 (bm_ 10 1023) HT_ ?_
      refine done_ (done_of HT_.out (by kernel_rfl)) ?_
      have hnb32 := NB460_440.out
      have hnc32 := NB440_460.out
      have hnb33 := NB460_441.out
      have hnc33 := NB441_460.out
      have hnb34 := NB460_452.out
      have hnc34 := NB452_460.out
      obtain ⟨hcz35_0, hcz35_1, hcz35_2, hfz35_0, hfz35_1, hfz35_2⟩ := bo3_ BK460
      go_upto_if 28 with (fail)
      go_cut [8] (fun v8 wc => ∃ (kq : Nat) (x8_9 : ByteArray), v8 = .string x8_9 ∧ Aside0 (florinlaw04_ShowTexts.j0 kq t459 x8_9 t456 t457 t458 = some r) ∧ Aside0 (kq ≤ k) ∧ Aside0 (wc.heap[gb440]? = some (.cells #[.bool a0_0, (.slice A0_1 l0_1.length c0_1), .int .i64 a0_2] 24 (0, 0))) ∧ Aside0 (wc.heap[gb441]? = some (.cells #[.int .i64 a1_0, .int .i64 a1_1, .int .i64 a1_2, .int .i64 a1_3, .int .i64 a1_4, .int .i64 a1_5, .int .i64 a1_6] 42 (0, 0))) ∧ Aside0 (wc.heap[gb452]? = some (.cells #[.int .i64 t444, .int .i64 t445, .int .i64 t446, .bool t447, .string t448, .int .i64 t449, .int .i64 t450, .int .i64 t451] 32 (0, 0))) ∧ Aside0 (wc.heap[gb460]? = some (.cells #[.bool t456, .string t457, .string t458] 35 (0, 0))) ∧ Aside0 (Below w.heap.size w wc))
      case first =>
        have H := HC10.out
        clear HC10
        by_cases c36 : t456 = true
        · subst c36
          have H1 : (if 1 + t457.size ≤ 9223372036854775807 then (florinlaw04_ShowTexts.j0 k t459 ((⟨#[45]⟩ : ByteArray) ++ t457) true t457 t458) else (none)) = some r := by rw [if_pos rfl] at H; exact H
          clear H
          have H := H1
          clear H1
          by_cases c37 : 1 + t457.size ≤ 9223372036854775807
          · rw [if_pos c37] at H
            have c37b0 := eq_true c37
            have c37b1 : decide (1 + t457.size ≤ 9223372036854775807) = true := decide_eq_true c37
            try have c37b2 : (9223372036854775807 < 1 + t457.size) = False := eq_false (Nat.not_lt.2 c37)
            have H' := Aside0.mk H
            clear H
            go_wp2
            go_meet
            case rel => exact ⟨_, ((⟨#[45]⟩ : ByteArray) ++ t457), eq_, H', ⟨by first | omega | exact Nat.le_refl _⟩, ⟨by (with_reducible repeat (first | refine blk_drewN ?_ _ | refine blk_drew ?_ | refine blk_alloc ?_ _)); refine blk_far ?_ NB440_460.out _; (with_reducible repeat (first | refine blk_drewN ?_ _ | refine blk_drew ?_ | refine blk_alloc ?_ _)); refine blk_far ?_ NB440_460.out _; (with_reducible repeat (first | refine blk_drewN ?_ _ | refine blk_drew ?_ | refine blk_alloc ?_ _)); refine blk_far ?_ NB440_460.out _; (with_reducible repeat (first | refine blk_drewN ?_ _ | refine blk_drew ?_ | refine blk_alloc ?_ _)); exact BK440.out⟩, ⟨by (with_reducible repeat (first | refine blk_drewN ?_ _ | refine blk_drew ?_ | refine blk_alloc ?_ _)); refine blk_far ?_ NB441_460.out _; (with_reducible repeat (first | refine blk_drewN ?_ _ | refine blk_drew ?_ | refine blk_alloc ?_ _)); refine blk_far ?_ NB441_460.out _; (with_reducible repeat (first | refine blk_drewN ?_ _ | refine blk_drew ?_ | refine blk_alloc ?_ _)); refine blk_far ?_ NB441_460.out _; (with_reducible repeat (first | refine blk_drewN ?_ _ | refine blk_drew ?_ | refine blk_alloc ?_ _)); exact BK441.out⟩, ⟨by (with_reducible repeat (first | refine blk_drewN ?_ _ | refine blk_drew ?_ | refine blk_alloc ?_ _)); refine blk_far ?_ NB452_460.out _; (with_reducible repeat (first | refine blk_drewN ?_ _ | refine blk_drew ?_ | refine blk_alloc ?_ _)); refine blk_far ?_ NB452_460.out _; (with_reducible repeat (first | refine blk_drewN ?_ _ | refine blk_drew ?_ | refine blk_alloc ?_ _)); refine blk_far ?_ NB452_460.out _; (with_reducible repeat (first | refine blk_drewN ?_ _ | refine blk_drew ?_ | refine blk_alloc ?_ _)); exact BK452.out⟩, ⟨by (with_reducible repeat (first | refine blk_drewN ?_ _ | refine blk_drew ?_ | refine blk_alloc ?_ _)); refine blk_put (cs := #[.bool true, .string t457, .string (⟨#[]⟩ : ByteArray)]) ?_ 2 _ rfl; (with_reducible repeat (first | refine blk_drewN ?_ _ | refine blk_drew ?_ | refine blk_alloc ?_ _)); refine blk_put (cs := #[.bool true, .string (⟨#[]⟩ : ByteArray), .string (⟨#[]⟩ : ByteArray)]) ?_ 1 _ rfl; (with_reducible repeat (first | refine blk_drewN ?_ _ | refine blk_drew ?_ | refine blk_alloc ?_ _)); refine blk_put (cs := #[.bool false, .string (⟨#[]⟩ : ByteArray), .string (⟨#[]⟩ : ByteArray)]) ?_ 0 _ rfl; (with_reducible repeat (first | refine blk_drewN ?_ _ | refine blk_drew ?_ | refine blk_alloc ?_ _)); exact BK460.out⟩, (bl_ HB)⟩
          · rw [if_neg c37] at H
            exact absurd H (by simp)
        · replace c36 := Bool.eq_false_iff.mpr c36
          subst c36
          have H1 : (florinlaw04_ShowTexts.j0 k t459 t457 false t457 t458) = some r := by rw [if_neg (show ¬ (false = true) by decide)] at H; exact H
          clear H
          have H := H1
          clear H1
          have H' := Aside0.mk H
          clear H
          go_wp2
          go_meet
          case rel => exact ⟨_, (t457), eq_, H', ⟨by first | omega | exact Nat.le_refl _⟩, ⟨by (with_reducible repeat (first | refine blk_drewN ?_ _ | refine blk_drew ?_ | refine blk_alloc ?_ _)); refine blk_far ?_ NB440_460.out _; (with_reducible repeat (first | refine blk_drewN ?_ _ | refine blk_drew ?_ | refine blk_alloc ?_ _)); refine blk_far ?_ NB440_460.out _; (with_reducible repeat (first | refine blk_drewN ?_ _ | refine blk_drew ?_ | refine blk_alloc ?_ _)); refine blk_far ?_ NB440_460.out _; (with_reducible repeat (first | refine blk_drewN ?_ _ | refine blk_drew ?_ | refine blk_alloc ?_ _)); exact BK440.out⟩, ⟨by (with_reducible repeat (first | refine blk_drewN ?_ _ | refine blk_drew ?_ | refine blk_alloc ?_ _)); refine blk_far ?_ NB441_460.out _; (with_reducible repeat (first | refine blk_drewN ?_ _ | refine blk_drew ?_ | refine blk_alloc ?_ _)); refine blk_far ?_ NB441_460.out _; (with_reducible repeat (first | refine blk_drewN ?_ _ | refine blk_drew ?_ | refine blk_alloc ?_ _)); refine blk_far ?_ NB441_460.out _; (with_reducible repeat (first | refine blk_drewN ?_ _ | refine blk_drew ?_ | refine blk_alloc ?_ _)); exact BK441.out⟩, ⟨by (with_reducible repeat (first | refine blk_drewN ?_ _ | refine blk_drew ?_ | refine blk_alloc ?_ _)); refine blk_far ?_ NB452_460.out _; (with_reducible repeat (first | refine blk_drewN ?_ _ | refine blk_drew ?_ | refine blk_alloc ?_ _)); refine blk_far ?_ NB452_460.out _; (with_reducible repeat (first | refine blk_drewN ?_ _ | refine blk_drew ?_ | refine blk_alloc ?_ _)); refine blk_far ?_ NB452_460.out _; (with_reducible repeat (first | refine blk_drewN ?_ _ | refine blk_drew ?_ | refine blk_alloc ?_ _)); exact BK452.out⟩, ⟨by (with_reducible repeat (first | refine blk_drewN ?_ _ | refine blk_drew ?_ | refine blk_alloc ?_ _)); refine blk_put (cs := #[.bool false, .string t457, .string (⟨#[]⟩ : ByteArray)]) ?_ 2 _ rfl; (with_reducible repeat (first | refine blk_drewN ?_ _ | refine blk_drew ?_ | refine blk_alloc ?_ _)); refine blk_put (cs := #[.bool false, .string (⟨#[]⟩ : ByteArray), .string (⟨#[]⟩ : ByteArray)]) ?_ 1 _ rfl; (with_reducible repeat (first | refine blk_drewN ?_ _ | refine blk_drew ?_ | refine blk_alloc ?_ _)); refine blk_put (cs := #[.bool false, .string (⟨#[]⟩ : ByteArray), .string (⟨#[]⟩ : ByteArray)]) ?_ 0 _ rfl; (with_reducible repeat (first | refine blk_drewN ?_ _ | refine blk_drew ?_ | refine blk_alloc ?_ _)); exact BK460.out⟩, (bl_ HB)⟩
      case rest =>
        clear HC10
        try clear c1
        try clear c2
        try clear p2
        try clear c3
        try clear c4
        try clear c6
        try clear p6
        try clear c8
        try clear c9
        try clear c13
        try clear c14
        try clear c15
        try clear c16
        try clear c20
        try clear c21
        try clear c32
        try clear c33
        try clear c34
        try clear c36
        try clear c37
        try clear c37b0
        try clear c37b1
        try clear c37b2
        try clear hcz15_0
        try clear hcz15_1
        try clear hcz15_2
        try clear hcz17_0
        try clear hcz17_1
        try clear hcz17_2
        try clear hcz17_3
        try clear hcz17_4
        try clear hcz17_5
        try clear hcz17_6
        try clear hcz22_0
        try clear hcz22_1
        try clear hcz22_2
        try clear hcz22_3
        try clear hcz22_4
        try clear hcz22_5
        try clear hcz22_6
        try clear hcz22_7
        try clear hcz35_0
        try clear hcz35_1
        try clear hcz35_2
        try clear hfz15_0
        try clear hfz15_1
        try clear hfz15_2
        try clear hfz17_0
        try clear hfz17_1
        try clear hfz17_2
        try clear hfz17_3
        try clear hfz17_4
        try clear hfz17_5
        try clear hfz17_6
        try clear hfz22_0
        try clear hfz22_1
        try clear hfz22_2
        try clear hfz22_3
        try clear hfz22_4
        try clear hfz22_5
        try clear hfz22_6
        try clear hfz22_7
        try clear hfz35_0
        try clear hfz35_1
        try clear hfz35_2
        obtain ⟨kq, x8_9, rfl, HA, HJ9, BK440, BK441, BK452, BK460, HB⟩ := hcut
        cases kq with
        | zero => exact absurd HA.out (by simp [florinlaw04_ShowTexts.j0])
        | succ kj9 =>
          have H := HA.out
          clear HA
          simp only [florinlaw04_ShowTexts.j0] at H
          have HC38 := Aside0.mk H
          clear H
          have hnb39 := NB460_440.out
          have hnc39 := NB440_460.out
          have hnb40 := NB460_441.out
          have hnc40 := NB441_460.out
          have hnb41 := NB460_452.out
          have hnc41 := NB452_460.out
          obtain ⟨hcz42_0, hcz42_1, hcz42_2, hfz42_0, hfz42_1, hfz42_2⟩ := bo3_ BK460
          go_upto_if 33 with (fail)
          go_cut [8] (fun v8 wc => ∃ (kq : Nat) (x8_37 : ByteArray), v8 = .string x8_37 ∧ Aside0 (florinlaw04_ShowTexts.j1 kq t459 x8_37 t456 t457 t458 = some r) ∧ Aside0 (kq ≤ kj9) ∧ Aside0 (wc.heap[gb440]? = some (.cells #[.bool a0_0, (.slice A0_1 l0_1.length c0_1), .int .i64 a0_2] 24 (0, 0))) ∧ Aside0 (wc.heap[gb441]? = some (.cells #[.int .i64 a1_0, .int .i64 a1_1, .int .i64 a1_2, .int .i64 a1_3, .int .i64 a1_4, .int .i64 a1_5, .int .i64 a1_6] 42 (0, 0))) ∧ Aside0 (wc.heap[gb452]? = some (.cells #[.int .i64 t444, .int .i64 t445, .int .i64 t446, .bool t447, .string t448, .int .i64 t449, .int .i64 t450, .int .i64 t451] 32 (0, 0))) ∧ Aside0 (wc.heap[gb460]? = some (.cells #[.bool t456, .string t457, .string t458] 35 (0, 0))) ∧ Aside0 (Below w.heap.size w wc))
          case first =>
            have H := HC38.out
            clear HC38
            by_cases c43 : t458.toList = ([] : List UInt8)
            · rw [if_pos c43] at H
              have c43b0 : (t458.toList == ([] : List UInt8)) = true := beq_iff_eq.mpr c43
              have c43b1 : (t458.toList != ([] : List UInt8)) = false := bne_eq_false_iff_eq.mpr c43
              have c43b2 : (t458.toList.isEmpty) = true := by rw [c43]; rfl
              clear c43
              (first | rw [c43b0] | (simp only [i64_w, i32_w]; rw [c43b0]) | rw [c43b2] | skip)
              have H' := Aside0.mk H
              clear H
              go_wp2
              go_meet
              case rel => exact ⟨_, (x8_9), eq_, H', ⟨by have := HJ9.out; first | omega | exact Nat.le_refl _⟩, (bk_ BK440), (bk_ BK441), (bk_ BK452), (bk_ BK460), (bl_ HB)⟩
            · rw [if_neg c43] at H
              have c43b0 : (t458.toList == ([] : List UInt8)) = false := beq_eq_false_iff_ne.mpr c43
              have c43b1 : (t458.toList != ([] : List UInt8)) = true := bne_iff_ne.mpr c43
              have c43b2 : (t458.toList.isEmpty) = false := by rw [given_isEmpty, bne_iff_ne.mpr c43]; rfl
              (first | rw [c43b0] | (simp only [i64_w, i32_w]; rw [c43b0]) | rw [c43b2] | skip)
              by_cases c44 : x8_9.size + 1 ≤ 9223372036854775807
              · rw [if_pos c44] at H
                have c44b0 := eq_true c44
                have c44b1 : decide (x8_9.size + 1 ≤ 9223372036854775807) = true := decide_eq_true c44
                try have c44b2 : (9223372036854775807 < x8_9.size + 1) = False := eq_false (Nat.not_lt.2 c44)
                by_cases c45 : (x8_9 ++ (⟨#[46]⟩ : ByteArray)).size + t458.size ≤ 9223372036854775807
                · rw [if_pos c45] at H
                  have c45b0 := eq_true c45
                  have c45b1 : decide ((x8_9 ++ (⟨#[46]⟩ : ByteArray)).size + t458.size ≤ 9223372036854775807) = true := decide_eq_true c45
                  try (have c45b5 := c45b0; simp only [ByteArray.size_append, Int.natCast_add] at c45b5)
                  try have c45b2 : (9223372036854775807 < (x8_9 ++ (⟨#[46]⟩ : ByteArray)).size + t458.size) = False := eq_false (Nat.not_lt.2 c45)
                  try have c45b3 : (9223372036854775807 < x8_9.size + 1 + t458.size) = False := eq_false (Nat.not_lt.2 (by have h_ := c45; simp only [ByteArray.size_append] at h_; exact h_))
                  try have c45b4 : (x8_9.size + 1 + t458.size ≤ 9223372036854775807) = True := eq_true (by have h_ := c45; simp only [ByteArray.size_append] at h_; exact h_)
                  have H' := Aside0.mk H
                  clear H
                  have hnb46 := NB460_440.out
                  have hnc46 := NB440_460.out
                  have hnb47 := NB460_441.out
                  have hnc47 := NB441_460.out
                  have hnb48 := NB460_452.out
                  have hnc48 := NB452_460.out
                  obtain ⟨hcz49_0, hcz49_1, hcz49_2, hfz49_0, hfz49_1, hfz49_2⟩ := bo3_ BK460
                  go_wp2
                  go_meet
                  case rel => exact ⟨_, ((x8_9 ++ (⟨#[46]⟩ : ByteArray)) ++ t458), eq_, H', ⟨by have := HJ9.out; first | omega | exact Nat.le_refl _⟩, (bk_ BK440), (bk_ BK441), (bk_ BK452), (bk_ BK460), (bl_ HB)⟩
                · rw [if_neg c45] at H
                  exact absurd H (by simp)
              · rw [if_neg c44] at H
                exact absurd H (by simp)
          case rest =>
            clear HC38
            try clear c1
            try clear c2
            try clear p2
            try clear c3
            try clear c4
            try clear c6
            try clear p6
            try clear c8
            try clear c9
            try clear c13
            try clear c14
            try clear c15
            try clear c16
            try clear c20
            try clear c21
            try clear c32
            try clear c33
            try clear c34
            try clear c36
            try clear c37
            try clear c37b0
            try clear c37b1
            try clear c37b2
            try clear c39
            try clear c40
            try clear c41
            try clear c43
            try clear c43b0
            try clear c43b1
            try clear c43b2
            try clear c44
            try clear c44b0
            try clear c44b1
            try clear c44b2
            try clear c45
            try clear c45b0
            try clear c45b1
            try clear c45b2
            try clear c46
            try clear c47
            try clear c48
            try clear hcz15_0
            try clear hcz15_1
            try clear hcz15_2
            try clear hcz17_0
            try clear hcz17_1
            try clear hcz17_2
            try clear hcz17_3
            try clear hcz17_4
            try clear hcz17_5
            try clear hcz17_6
            try clear hcz22_0
            try clear hcz22_1
            try clear hcz22_2
            try clear hcz22_3
            try clear hcz22_4
            try clear hcz22_5
            try clear hcz22_6
            try clear hcz22_7
            try clear hcz35_0
            try clear hcz35_1
            try clear hcz35_2
            try clear hcz42_0
            try clear hcz42_1
            try clear hcz42_2
            try clear hcz49_0
            try clear hcz49_1
            try clear hcz49_2
            try clear hfz15_0
            try clear hfz15_1
            try clear hfz15_2
            try clear hfz17_0
            try clear hfz17_1
            try clear hfz17_2
            try clear hfz17_3
            try clear hfz17_4
            try clear hfz17_5
            try clear hfz17_6
            try clear hfz22_0
            try clear hfz22_1
            try clear hfz22_2
            try clear hfz22_3
            try clear hfz22_4
            try clear hfz22_5
            try clear hfz22_6
            try clear hfz22_7
            try clear hfz35_0
            try clear hfz35_1
            try clear hfz35_2
            try clear hfz42_0
            try clear hfz42_1
            try clear hfz42_2
            try clear hfz49_0
            try clear hfz49_1
            try clear hfz49_2
            try clear p2
            try clear p6
            obtain ⟨kq, x8_37, rfl, HA, HJ37, BK440, BK441, BK452, BK460, HB⟩ := hcut
            cases kq with
            | zero => exact absurd HA.out (by simp [florinlaw04_ShowTexts.j1])
            | succ kj37 =>
              have H := HA.out
              clear HA
              simp only [florinlaw04_ShowTexts.j1] at H
              have HC50 := Aside0.mk H
              clear H
              go_upto_region 12 with (fail)
              go_cut [46] (fun v46 wc => ∃ (kq : Nat) (x46_49 : Bool), v46 = .bool x46_49 ∧ Aside0 (florinlaw04_ShowTexts.j2 kq x46_49 t456 t457 t458 = some r) ∧ Aside0 (kq ≤ kj37) ∧ Aside0 (wc.heap[gb440]? = some (.cells #[.bool a0_0, (.slice A0_1 l0_1.length c0_1), .int .i64 a0_2] 24 (0, 0))) ∧ Aside0 (wc.heap[gb441]? = some (.cells #[.int .i64 a1_0, .int .i64 a1_1, .int .i64 a1_2, .int .i64 a1_3, .int .i64 a1_4, .int .i64 a1_5, .int .i64 a1_6] 42 (0, 0))) ∧ Aside0 (wc.heap[gb452]? = some (.cells #[.int .i64 t444, .int .i64 t445, .int .i64 t446, .bool t447, .string t448, .int .i64 t449, .int .i64 t450, .int .i64 t451] 32 (0, 0))) ∧ Aside0 (wc.heap[gb460]? = some (.cells #[.bool t456, .string t457, .string t458] 35 (0, 0))) ∧ Aside0 (Below w.heap.size w wc))
              case first =>
                have H := HC50.out
                clear HC50
                by_cases c51 : t459 = 0
                · rw [if_pos c51] at H
                  have c51b0 : (t459 == 0) = true := beq_iff_eq.mpr c51
                  have c51b1 : (t459 != 0) = false := bne_eq_false_iff_eq.mpr c51
                  clear c51
                  (first | rw [c51b0] | (simp only [i64_w, i32_w]; rw [c51b0]) | skip)
                  replace H := Option.bind_eq_some_iff.mp H
                  obtain ⟨t461, A520, H⟩ := H
                  replace H : (florinlaw04_ShowTexts.j2 kj37 (t461.toList != x8_37.toList) t456 t457 t458) = some r := H
                  have A52 := Aside0.mk A520
                  clear A520
                  have H' := Aside0.mk H
                  clear H
                  have hnb53 := NB460_440.out
                  have hnc53 := NB440_460.out
                  have hnb54 := NB460_441.out
                  have hnc54 := NB441_460.out
                  have hnb55 := NB460_452.out
                  have hnc55 := NB452_460.out
                  obtain ⟨hcz56_0, hcz56_1, hcz56_2, hfz56_0, hfz56_1, hfz56_2⟩ := bo3_ BK460
                  go_wp2_with (first | (go_at_call 21; (with_reducible refine (show_Vis_Text.calls t456 t457 t458 t461 _ A52.out).mono ?_); rintro e w57 ⟨rfl, hb⟩; replace BK440 := bb_ BK440 hb; replace BK441 := bb_ BK441 hb; replace BK452 := bb_ BK452 hb; replace BK460 := bb_ BK460 hb; replace HB := Aside0.mk (below_step (bl_ HB).out hb); (try clear hb); (try clear hb2); (try clear hk); (try clear hi)))
                  go_meet
                  case rel => exact ⟨_, ((t461.toList != x8_37.toList)), eq_, H', ⟨by have := HJ9.out; have := HJ37.out; first | omega | exact Nat.le_refl _⟩, (bk_ BK440), (bk_ BK441), (bk_ BK452), (bk_ BK460), (bl_ HB)⟩
                · rw [if_neg c51] at H
                  have c51b0 : (t459 == 0) = false := beq_eq_false_iff_ne.mpr c51
                  have c51b1 : (t459 != 0) = true := bne_iff_ne.mpr c51
                  (first | rw [c51b0] | (simp only [i64_w, i32_w]; rw [c51b0]) | skip)
                  have H' := Aside0.mk H
                  clear H
                  go_wp2
                  go_meet
                  case rel => exact ⟨_, (true), eq_, H', ⟨by have := HJ9.out; have := HJ37.out; first | omega | exact Nat.le_refl _⟩, (bk_ BK440), (bk_ BK441), (bk_ BK452), (bk_ BK460), (bl_ HB)⟩
              case rest =>
                clear HC50
                try clear c1
                try clear c2
                try clear p2
                try clear c3
                try clear c4
                try clear c5
                try clear c6
                try clear p6
                try clear c8
                try clear c9
                try clear c13
                try clear c14
                try clear c15
                try clear c16
                try clear c20
                try clear c21
                try clear c32
                try clear c33
                try clear c34
                try clear c36
                try clear c37
                try clear c37b0
                try clear c37b1
                try clear c37b2
                try clear c39
                try clear c40
                try clear c41
                try clear c43
                try clear c43b0
                try clear c43b1
                try clear c43b2
                try clear c44
                try clear c44b0
                try clear c44b1
                try clear c44b2
                try clear c45
                try clear c45b0
                try clear c45b1
                try clear c45b2
                try clear c46
                try clear c47
                try clear c48
                try clear c51
                try clear c51b0
                try clear c51b1
                try clear c53
                try clear c54
                try clear c55
                try clear hcz15_0
                try clear hcz15_1
                try clear hcz15_2
                try clear hcz17_0
                try clear hcz17_1
                try clear hcz17_2
                try clear hcz17_3
                try clear hcz17_4
                try clear hcz17_5
                try clear hcz17_6
                try clear hcz22_0
                try clear hcz22_1
                try clear hcz22_2
                try clear hcz22_3
                try clear hcz22_4
                try clear hcz22_5
                try clear hcz22_6
                try clear hcz22_7
                try clear hcz35_0
                try clear hcz35_1
                try clear hcz35_2
                try clear hcz42_0
                try clear hcz42_1
                try clear hcz42_2
                try clear hcz49_0
                try clear hcz49_1
                try clear hcz49_2
                try clear hcz56_0
                try clear hcz56_1
                try clear hcz56_2
                try clear hfz15_0
                try clear hfz15_1
                try clear hfz15_2
                try clear hfz17_0
                try clear hfz17_1
                try clear hfz17_2
                try clear hfz17_3
                try clear hfz17_4
                try clear hfz17_5
                try clear hfz17_6
                try clear hfz22_0
                try clear hfz22_1
                try clear hfz22_2
                try clear hfz22_3
                try clear hfz22_4
                try clear hfz22_5
                try clear hfz22_6
                try clear hfz22_7
                try clear hfz35_0
                try clear hfz35_1
                try clear hfz35_2
                try clear hfz42_0
                try clear hfz42_1
                try clear hfz42_2
                try clear hfz49_0
                try clear hfz49_1
                try clear hfz49_2
                try clear hfz56_0
                try clear hfz56_1
                try clear hfz56_2
                try clear p2
                try clear p6
                obtain ⟨kq, x46_49, rfl, HA, HJ49, BK440, BK441, BK452, BK460, HB⟩ := hcut
                cases kq with
                | zero => exact absurd HA.out (by simp [florinlaw04_ShowTexts.j2])
                | succ kj49 =>
                  have H := HA.out
                  clear HA
                  simp only [florinlaw04_ShowTexts.j2] at H
                  by_cases c58 : x46_49 = true
                  · subst c58
                    have H1 : (some false) = some r := by rw [if_pos rfl] at H; exact H
                    clear H
                    have H := H1
                    clear H1
                    obtain rfl := Option.some.inj H
                    go_wp2
                    go_ret
                    exact ⟨ew_, (bl_ HB).out⟩
                  · replace c58 := Bool.eq_false_iff.mpr c58
                    subst c58
                    have H1 : (if t457.toList = ([] : List UInt8) then (some (t458.toList != ([] : List UInt8))) else ((show_Vis_Text.f t456 t457 t458).bind fun t462 => ((dec_Parse.f kj49 t462).bind fun bt463 => (if bt463.2.2.2 = 0 then ((show_Vis_Value.f kj49 t456 t457 t458).bind fun bt468 => (some (bt463.1 == bt468.1 && (bt463.2.1.toList == bt468.2.1.toList && (bt463.2.2.1 == bt468.2.2))))) else (some false))))) = some r := by rw [if_neg (show ¬ (false = true) by decide)] at H; exact H
                    clear H
                    have H := H1
                    clear H1
                    by_cases c59 : t457.toList = ([] : List UInt8)
                    · rw [if_pos c59] at H
                      have c59b0 : (t457.toList == ([] : List UInt8)) = true := beq_iff_eq.mpr c59
                      have c59b1 : (t457.toList != ([] : List UInt8)) = false := bne_eq_false_iff_eq.mpr c59
                      have c59b2 : (t457.toList.isEmpty) = true := by rw [c59]; rfl
                      clear c59
                      obtain rfl := Option.some.inj H
                      have hnb60 := NB460_440.out
                      have hnc60 := NB440_460.out
                      have hnb61 := NB460_441.out
                      have hnc61 := NB441_460.out
                      have hnb62 := NB460_452.out
                      have hnc62 := NB452_460.out
                      obtain ⟨hcz63_0, hcz63_1, hcz63_2, hfz63_0, hfz63_1, hfz63_2⟩ := bo3_ BK460
                      go_wp2
                      go_ret
                      exact ⟨ew_, (bl_ HB).out⟩
                    · rw [if_neg c59] at H
                      have c59b0 : (t457.toList == ([] : List UInt8)) = false := beq_eq_false_iff_ne.mpr c59
                      have c59b1 : (t457.toList != ([] : List UInt8)) = true := bne_iff_ne.mpr c59
                      have c59b2 : (t457.toList.isEmpty) = false := by rw [given_isEmpty, bne_iff_ne.mpr c59]; rfl
                      replace H := Option.bind_eq_some_iff.mp H
                      obtain ⟨t462, A640, H⟩ := H
                      replace H : ((dec_Parse.f kj49 t462).bind fun bt463 => (if bt463.2.2.2 = 0 then ((show_Vis_Value.f kj49 t456 t457 t458).bind fun bt468 => (some (bt463.1 == bt468.1 && (bt463.2.1.toList == bt468.2.1.toList && (bt463.2.2.1 == bt468.2.2))))) else (some false))) = some r := H
                      have A64 := Aside0.mk A640
                      clear A640
                      replace H := Option.bind_eq_some_iff.mp H
                      obtain ⟨⟨t463, t464, t465, t466⟩, A650, H⟩ := H
                      replace H : (if t466 = 0 then ((show_Vis_Value.f kj49 t456 t457 t458).bind fun bt468 => (some (t463 == bt468.1 && (t464.toList == bt468.2.1.toList && (t465 == bt468.2.2))))) else (some false)) = some r := H
                      have A65 := Aside0.mk A650
                      clear A650
                      by_cases c66 : t466 = 0
                      · rw [if_pos c66] at H
                        have c66b0 : (t466 == 0) = true := beq_iff_eq.mpr c66
                        have c66b1 : (t466 != 0) = false := bne_eq_false_iff_eq.mpr c66
                        clear c66
                        replace H := Option.bind_eq_some_iff.mp H
                        obtain ⟨⟨t468, t469, t470⟩, A670, H⟩ := H
                        replace H : (some (t463 == t468 && (t464.toList == t469.toList && (t465 == t470)))) = some r := H
                        have A67 := Aside0.mk A670
                        clear A670
                        obtain rfl := Option.some.inj H
                        have hnb68 := NB460_440.out
                        have hnc68 := NB440_460.out
                        have hnb69 := NB460_441.out
                        have hnc69 := NB441_460.out
                        have hnb70 := NB460_452.out
                        have hnc70 := NB452_460.out
                        obtain ⟨hcz71_0, hcz71_1, hcz71_2, hfz71_0, hfz71_1, hfz71_2⟩ := bo3_ BK460
                        try go_wp2_with (first | ((with_reducible refine gate_callee (f := 21) rfl ?_); refine gl_ (some 55) Tryd.func21 #[.agg #[.bool t456, .string t457, .string t458]] ?_; (with_reducible refine (show_Vis_Text.calls t456 t457 t458 t462 _ A64.out).mono ?_); rintro e w72 ⟨rfl, hb⟩; refine ⟨_, rfl, ?_⟩; replace BK440 := bb_ BK440 hb; replace BK441 := bb_ BK441 hb; replace BK452 := bb_ BK452 hb; replace BK460 := bb_ BK460 hb; replace HB := Aside0.mk (below_step (bl_ HB).out hb); (try clear hb); (try clear hb2); (try clear hk); (try clear hi)) | ((with_reducible refine gate_callee (f := 22) rfl ?_); refine gl_ (some 56) Tryd.func22 #[.string t462] ?_; (with_reducible refine (dec_Parse.calls kj49 t462 t463 t464 t465 t466 _ A65.out).mono ?_); rintro e w73 ⟨rfl, hb⟩; refine ⟨_, rfl, ?_⟩; replace BK440 := bb_ BK440 hb; replace BK441 := bb_ BK441 hb; replace BK452 := bb_ BK452 hb; replace BK460 := bb_ BK460 hb; replace HB := Aside0.mk (below_step (bl_ HB).out hb); (try clear hb); (try clear hb2); (try clear hk); (try clear hi)) | ((with_reducible refine gate_dst (N := 9) rfl ?_); refine be_ 9 #[.bool false, .string (⟨#[]⟩ : ByteArray), .int .i64 0] 29 ?_; intro gb467 hg w74 hbox hb; have BK467 := Aside0.mk (hbox); have GW467 := sz_ HB hg; have GE467 := sz_ HB hg; have NB440_467 := na_ BK440 hg; have NB467_440 := nb_ BK440 hg; have NB441_467 := na_ BK441 hg; have NB467_441 := nb_ BK441 hg; have NB452_467 := na_ BK452 hg; have NB467_452 := nb_ BK452 hg; have NB460_467 := na_ BK460 hg; have NB467_460 := nb_ BK460 hg; replace BK440 := bb_ BK440 hb; replace BK441 := bb_ BK441 hb; replace BK452 := bb_ BK452 hb; replace BK460 := bb_ BK460 hb; replace HB := Aside0.mk (below_step (bl_ HB).out hb); clear hb hbox hg; have hnb75 := NB467_440.out; have hnc75 := NB440_467.out; have hnb76 := NB467_441.out; have hnc76 := NB441_467.out; have hnb77 := NB467_452.out; have hnc77 := NB452_467.out; have hnb78 := NB467_460.out; have hnc78 := NB460_467.out; obtain ⟨hcz79_0, hcz79_1, hcz79_2, hfz79_0, hfz79_1, hfz79_2⟩ := bo3_ BK467))
                        have n0_ : Aside0 ((((w74.setCell ⟨gb467, 0, none⟩ (.bool t463)).setCell ⟨gb467, 1, none⟩ (.string t464)).setCell ⟨gb467, 2, none⟩ (.int .i64 t465)).heap[gb440]? = _) := bf_ BK440
                        have n1_ : Aside0 ((((w74.setCell ⟨gb467, 0, none⟩ (.bool t463)).setCell ⟨gb467, 1, none⟩ (.string t464)).setCell ⟨gb467, 2, none⟩ (.int .i64 t465)).heap[gb441]? = _) := bf_ BK441
                        have n2_ : Aside0 ((((w74.setCell ⟨gb467, 0, none⟩ (.bool t463)).setCell ⟨gb467, 1, none⟩ (.string t464)).setCell ⟨gb467, 2, none⟩ (.int .i64 t465)).heap[gb452]? = _) := bf_ BK452
                        have n3_ : Aside0 ((((w74.setCell ⟨gb467, 0, none⟩ (.bool t463)).setCell ⟨gb467, 1, none⟩ (.string t464)).setCell ⟨gb467, 2, none⟩ (.int .i64 t465)).heap[gb460]? = _) := bf_ BK460
                        have n4_ : Aside0 ((((w74.setCell ⟨gb467, 0, none⟩ (.bool t463)).setCell ⟨gb467, 1, none⟩ (.string t464)).setCell ⟨gb467, 2, none⟩ (.int .i64 t465)).heap[gb467]? = some (.cells #[.bool t463, .string t464, .int .i64 t465] 29 (0, 0))) := ⟨by (with_reducible repeat (first | refine blk_drewN ?_ _ | refine blk_drew ?_ | refine blk_alloc ?_ _)); refine blk_put (cs := #[.bool t463, .string t464, .int .i64 0]) ?_ 2 _ rfl; (with_reducible repeat (first | refine blk_drewN ?_ _ | refine blk_drew ?_ | refine blk_alloc ?_ _)); refine blk_put (cs := #[.bool t463, .string (⟨#[]⟩ : ByteArray), .int .i64 0]) ?_ 1 _ rfl; (with_reducible repeat (first | refine blk_drewN ?_ _ | refine blk_drew ?_ | refine blk_alloc ?_ _)); refine blk_put (cs := #[.bool false, .string (⟨#[]⟩ : ByteArray), .int .i64 0]) ?_ 0 _ rfl; (with_reducible repeat (first | refine blk_drewN ?_ _ | refine blk_drew ?_ | refine blk_alloc ?_ _)); exact BK467.out⟩
                        have n5_ : Aside0 (Below w.heap.size w (((w74.setCell ⟨gb467, 0, none⟩ (.bool t463)).setCell ⟨gb467, 1, none⟩ (.string t464)).setCell ⟨gb467, 2, none⟩ (.int .i64 t465))) := (bl_ HB)
                        (try clear BK440)
                        (try clear BK441)
                        (try clear BK452)
                        (try clear BK460)
                        (try clear BK467)
                        (try clear HB)
                        generalize (((w74.setCell ⟨gb467, 0, none⟩ (.bool t463)).setCell ⟨gb467, 1, none⟩ (.string t464)).setCell ⟨gb467, 2, none⟩ (.int .i64 t465)) = w80 at n0_ n1_ n2_ n3_ n4_ n5_ ⊢
                        have BK440 := n0_
                        have BK441 := n1_
                        have BK452 := n2_
                        have BK460 := n3_
                        have BK467 := n4_
                        have HB := n5_
                        clear n0_ n1_ n2_ n3_ n4_ n5_
                        replace BK440 := Aside0.mk (blk_drew BK440.out)
                        replace BK441 := Aside0.mk (blk_drew BK441.out)
                        replace BK452 := Aside0.mk (blk_drew BK452.out)
                        replace BK460 := Aside0.mk (blk_drew BK460.out)
                        replace BK467 := Aside0.mk (blk_drew BK467.out)
                        replace HB := Aside0.mk (below_drew1 HB.out)
                        refine start_ (n := 9) (S := fun w' => w'.cell? ⟨gb467, 0, none⟩ = some (.bool t463) ∧ w'.cell? ⟨gb467, 1, none⟩ = some (.string t464) ∧ w'.cell? ⟨gb467, 2, none⟩ = some (.int .i64 t465) ∧ w'.cell? ⟨gb460, 0, none⟩ = some (.bool t456) ∧ w'.cell? ⟨gb460, 1, none⟩ = some (.string t457) ∧ w'.cell? ⟨gb460, 2, none⟩ = some (.string t458)) (ds := []) #[false, false, false, false, false, false, false, false, false] (by kernel_rfl) rfl rfl ⟨bc_ BK467 0, bc_ BK467 1, bc_ BK467 2, bc_ BK460 0, bc_ BK460 1, bc_ BK460 2⟩ (fun hHeld => ?_); refine with_tabW florinlaw04_ShowTexts.tab17 florinlaw04_ShowTexts.bits17 (fun HT_ HW_ => ?_)
                        generalize w80.drew = w81 at BK440 BK441 BK452 BK460 BK467 HB hHeld ⊢
                        refine pu_ 0 59 #[true, false, false, false, false, false, false, false, false] HT_ ?_
                        refine pu_ 1 60 #[true, true, false, false, false, false, false, false, false] HT_ ?_
                        refine pu_ 2 61 #[true, true, true, false, false, false, false, false, false] HT_ ?_
                        refine tk_ 3 62 #[true, true, true, true, false, false, false, false, false] HT_ HW_ hHeld rfl (by rintro w' ⟨s0, s1, s2, s3, s4, s5⟩; go_simp; with_reducible rfl) ?_
                        refine tk_ 4 63 #[true, true, true, true, true, false, false, false, false] HT_ HW_ hHeld rfl (by rintro w' ⟨s0, s1, s2, s3, s4, s5⟩; go_simp; with_reducible rfl) ?_
                        refine one_ (i := 5) (N := some 64) #[true, true, true, true, true, true, false, false, false] rfl rfl (one_of HT_.out (by kernel_rfl)) (by decide) (fun K hK => ?_)
                        refine gs_ Tryd.func23 #[.agg #[.bool t456, .string t457, .string t458]] ?_
                        with_reducible refine (show_Vis_Value.calls kj49 t456 t457 t458 t468 t469 t470 _ A67.out).mono ?_
                        rintro e w82 ⟨rfl, hb⟩
                        refine ⟨_, rfl, ?_⟩
                        replace BK440 := bb_ BK440 hb
                        replace BK441 := bb_ BK441 hb
                        replace BK452 := bb_ BK452 hb
                        replace BK460 := bb_ BK460 hb
                        replace BK467 := bb_ BK467 hb
                        replace HB := Aside0.mk (below_step (bl_ HB).out hb)
                        (try clear hb)
                        (try clear hb2)
                        (try clear hk)
                        (try clear hi)
                        refine hK.out _ _ ⟨bc_ BK467 0, bc_ BK467 1, bc_ BK467 2, bc_ BK460 0, bc_ BK460 1, bc_ BK460 2⟩ (fun hHeld => ?_)
                        clear hK K
                        refine nm_ 64 ?_
                        refine pu_ 6 65 #[true, true, true, true, true, true, true, false, false] HT_ ?_
                        refine pu_ 7 66 #[true, true, true, true, true, true, true, true, false] HT_ ?_
                        refine pu_ 8 4 #[true, true, true, true, true, true, true, true, true] HT_ ?_
                        refine done_ (done_of HT_.out (by kernel_rfl)) ?_
                        try go_wp2
                        go_ret
                        exact ⟨ew_, (bl_ HB).out⟩
                      · rw [if_neg c66] at H
                        have c66b0 : (t466 == 0) = false := beq_eq_false_iff_ne.mpr c66
                        have c66b1 : (t466 != 0) = true := bne_iff_ne.mpr c66
                        obtain rfl := Option.some.inj H
                        have hnb83 := NB460_440.out
                        have hnc83 := NB440_460.out
                        have hnb84 := NB460_441.out
                        have hnc84 := NB441_460.out
                        have hnb85 := NB460_452.out
                        have hnc85 := NB452_460.out
                        obtain ⟨hcz86_0, hcz86_1, hcz86_2, hfz86_0, hfz86_1, hfz86_2⟩ := bo3_ BK460
                        try go_wp2_with (first | ((with_reducible refine gate_callee (f := 21) rfl ?_); refine gl_ (some 55) Tryd.func21 #[.agg #[.bool t456, .string t457, .string t458]] ?_; (with_reducible refine (show_Vis_Text.calls t456 t457 t458 t462 _ A64.out).mono ?_); rintro e w87 ⟨rfl, hb⟩; refine ⟨_, rfl, ?_⟩; replace BK440 := bb_ BK440 hb; replace BK441 := bb_ BK441 hb; replace BK452 := bb_ BK452 hb; replace BK460 := bb_ BK460 hb; replace HB := Aside0.mk (below_step (bl_ HB).out hb); (try clear hb); (try clear hb2); (try clear hk); (try clear hi)) | ((with_reducible refine gate_callee (f := 22) rfl ?_); refine gl_ (some 56) Tryd.func22 #[.string t462] ?_; (with_reducible refine (dec_Parse.calls kj49 t462 t463 t464 t465 t466 _ A65.out).mono ?_); rintro e w88 ⟨rfl, hb⟩; refine ⟨_, rfl, ?_⟩; replace BK440 := bb_ BK440 hb; replace BK441 := bb_ BK441 hb; replace BK452 := bb_ BK452 hb; replace BK460 := bb_ BK460 hb; replace HB := Aside0.mk (below_step (bl_ HB).out hb); (try clear hb); (try clear hb2); (try clear hk); (try clear hi)) | ((with_reducible refine gate_dst (N := 9) rfl ?_); refine be_ 9 #[.bool false, .string (⟨#[]⟩ : ByteArray), .int .i64 0] 29 ?_; intro gb467 hg w89 hbox hb; have BK467 := Aside0.mk (hbox); have GW467 := sz_ HB hg; have GE467 := sz_ HB hg; have NB440_467 := na_ BK440 hg; have NB467_440 := nb_ BK440 hg; have NB441_467 := na_ BK441 hg; have NB467_441 := nb_ BK441 hg; have NB452_467 := na_ BK452 hg; have NB467_452 := nb_ BK452 hg; have NB460_467 := na_ BK460 hg; have NB467_460 := nb_ BK460 hg; replace BK440 := bb_ BK440 hb; replace BK441 := bb_ BK441 hb; replace BK452 := bb_ BK452 hb; replace BK460 := bb_ BK460 hb; replace HB := Aside0.mk (below_step (bl_ HB).out hb); clear hb hbox hg; have hnb90 := NB467_440.out; have hnc90 := NB440_467.out; have hnb91 := NB467_441.out; have hnc91 := NB441_467.out; have hnb92 := NB467_452.out; have hnc92 := NB452_467.out; have hnb93 := NB467_460.out; have hnc93 := NB460_467.out; obtain ⟨hcz94_0, hcz94_1, hcz94_2, hfz94_0, hfz94_1, hfz94_2⟩ := bo3_ BK467))
                        have n0_ : Aside0 ((((w89.setCell ⟨gb467, 0, none⟩ (.bool t463)).setCell ⟨gb467, 1, none⟩ (.string t464)).setCell ⟨gb467, 2, none⟩ (.int .i64 t465)).heap[gb440]? = _) := bf_ BK440
                        have n1_ : Aside0 ((((w89.setCell ⟨gb467, 0, none⟩ (.bool t463)).setCell ⟨gb467, 1, none⟩ (.string t464)).setCell ⟨gb467, 2, none⟩ (.int .i64 t465)).heap[gb441]? = _) := bf_ BK441
                        have n2_ : Aside0 ((((w89.setCell ⟨gb467, 0, none⟩ (.bool t463)).setCell ⟨gb467, 1, none⟩ (.string t464)).setCell ⟨gb467, 2, none⟩ (.int .i64 t465)).heap[gb452]? = _) := bf_ BK452
                        have n3_ : Aside0 ((((w89.setCell ⟨gb467, 0, none⟩ (.bool t463)).setCell ⟨gb467, 1, none⟩ (.string t464)).setCell ⟨gb467, 2, none⟩ (.int .i64 t465)).heap[gb460]? = _) := bf_ BK460
                        have n4_ : Aside0 ((((w89.setCell ⟨gb467, 0, none⟩ (.bool t463)).setCell ⟨gb467, 1, none⟩ (.string t464)).setCell ⟨gb467, 2, none⟩ (.int .i64 t465)).heap[gb467]? = some (.cells #[.bool t463, .string t464, .int .i64 t465] 29 (0, 0))) := ⟨by (with_reducible repeat (first | refine blk_drewN ?_ _ | refine blk_drew ?_ | refine blk_alloc ?_ _)); refine blk_put (cs := #[.bool t463, .string t464, .int .i64 0]) ?_ 2 _ rfl; (with_reducible repeat (first | refine blk_drewN ?_ _ | refine blk_drew ?_ | refine blk_alloc ?_ _)); refine blk_put (cs := #[.bool t463, .string (⟨#[]⟩ : ByteArray), .int .i64 0]) ?_ 1 _ rfl; (with_reducible repeat (first | refine blk_drewN ?_ _ | refine blk_drew ?_ | refine blk_alloc ?_ _)); refine blk_put (cs := #[.bool false, .string (⟨#[]⟩ : ByteArray), .int .i64 0]) ?_ 0 _ rfl; (with_reducible repeat (first | refine blk_drewN ?_ _ | refine blk_drew ?_ | refine blk_alloc ?_ _)); exact BK467.out⟩
                        have n5_ : Aside0 (Below w.heap.size w (((w89.setCell ⟨gb467, 0, none⟩ (.bool t463)).setCell ⟨gb467, 1, none⟩ (.string t464)).setCell ⟨gb467, 2, none⟩ (.int .i64 t465))) := (bl_ HB)
                        (try clear BK440)
                        (try clear BK441)
                        (try clear BK452)
                        (try clear BK460)
                        (try clear BK467)
                        (try clear HB)
                        generalize (((w89.setCell ⟨gb467, 0, none⟩ (.bool t463)).setCell ⟨gb467, 1, none⟩ (.string t464)).setCell ⟨gb467, 2, none⟩ (.int .i64 t465)) = w95 at n0_ n1_ n2_ n3_ n4_ n5_ ⊢
                        have BK440 := n0_
                        have BK441 := n1_
                        have BK452 := n2_
                        have BK460 := n3_
                        have BK467 := n4_
                        have HB := n5_
                        clear n0_ n1_ n2_ n3_ n4_ n5_
                        replace BK440 := Aside0.mk (blk_drew BK440.out)
                        replace BK441 := Aside0.mk (blk_drew BK441.out)
                        replace BK452 := Aside0.mk (blk_drew BK452.out)
                        replace BK460 := Aside0.mk (blk_drew BK460.out)
                        replace BK467 := Aside0.mk (blk_drew BK467.out)
                        replace HB := Aside0.mk (below_drew1 HB.out)
                        refine start_ (n := 9) (S := fun w' => True) (ds := []) #[false, false, false, false, false, false, false, false, false] (by kernel_rfl) rfl rfl trivial (fun hHeld => ?_); refine with_tabW florinlaw04_ShowTexts.tab17 florinlaw04_ShowTexts.bits17 (fun HT_ HW_ => ?_)
                        generalize w95.drew = w96 at BK440 BK441 BK452 BK460 BK467 HB hHeld ⊢
                        refine pu_ 0 59 #[true, false, false, false, false, false, false, false, false] HT_ ?_
                        refine pu_ 1 60 #[true, true, false, false, false, false, false, false, false] HT_ ?_
                        refine pu_ 2 61 #[true, true, true, false, false, false, false, false, false] HT_ ?_
                        refine pn_ 3 62 #[true, true, true, true, false, false, false, false, false] HT_ ?_
                        refine pn_ 4 63 #[true, true, true, true, true, false, false, false, false] HT_ ?_
                        refine pn_ 5 64 #[true, true, true, true, true, true, false, false, false] HT_ ?_
                        refine pn_ 6 65 #[true, true, true, true, true, true, true, false, false] HT_ ?_
                        refine pu_ 7 66 #[true, true, true, true, true, true, true, true, false] HT_ ?_
                        refine pu_ 8 4 #[true, true, true, true, true, true, true, true, true] HT_ ?_
                        refine done_ (done_of HT_.out (by kernel_rfl)) ?_
                        try go_wp2
                        go_ret
                        exact ⟨ew_, (bl_ HB).out⟩
    · replace c6 := Bool.eq_false_iff.mpr c6
      subst c6
      have H1 : (some true) = some r := by rw [if_neg (show ¬ (false = true) by decide)] at H; exact H
      clear H
      have H := H1
      clear H1
      obtain rfl := Option.some.inj H
      go_enter Tryd.func6, Tryd.ntmps6
      go_wp2_with (first | ((with_reducible refine gate_dst (N := 2) rfl ?_); refine be_ 2 #[.bool a0_0, .slice A0_1 l0_1.length c0_1, .int .i64 a0_2] 24 ?_; intro gb440 hg w97 hbox hb; have BK440 := Aside0.mk (hbox); have GW440 := sz_ HB hg; have GE440 := sz_ HB hg; replace HB := Aside0.mk (below_step (bl_ HB).out hb); clear hb hbox hg) | ((with_reducible refine gate_dst (N := 3) rfl ?_); refine be_ 3 #[.int .i64 a1_0, .int .i64 a1_1, .int .i64 a1_2, .int .i64 a1_3, .int .i64 a1_4, .int .i64 a1_5, .int .i64 a1_6] 42 ?_; intro gb441 hg w98 hbox hb; have BK441 := Aside0.mk (hbox); have GW441 := sz_ HB hg; have GE441 := sz_ HB hg; have NB440_441 := na_ BK440 hg; have NB441_440 := nb_ BK440 hg; replace BK440 := bb_ BK440 hb; replace HB := Aside0.mk (below_step (bl_ HB).out hb); clear hb hbox hg) | ((with_reducible refine gate_callee (f := 8) rfl ?_); refine gl_ (some 11) Tryd.func8 #[] ?_; (with_reducible refine (florinlaw04_head.calls k  true _ A3.out).mono ?_); rintro e w99 ⟨rfl, hb⟩; refine ⟨_, rfl, ?_⟩; replace BK440 := bb_ BK440 hb; replace BK441 := bb_ BK441 hb; replace HB := Aside0.mk (below_step (bl_ HB).out hb); (try clear hb); (try clear hb2); (try clear hk); (try clear hi); have hnb100 := NB440_441.out; have hnc100 := NB441_440.out; obtain ⟨hcz101_0, hcz101_1, hcz101_2, hfz101_0, hfz101_1, hfz101_2⟩ := bo3_ BK440) | ((with_reducible refine gate_callee (f := 15) rfl ?_); refine gl_ (some 14) Tryd.func15 #[.agg #[.bool a0_0, .slice A0_1 l0_1.length c0_1, .int .i64 a0_2], .int .i64 30] ?_; (with_reducible refine (florinlaw02_Raw_Few.calls a0_0 _ _ l0_1 a0_2 30 false _ ?side1 ?side2 A5.out).mono ?_); (case side1 => repeat (first | exact (Kd.C_below HR0_1.out HB.out) | (with_reducible refine Kd.C_alloc ?_ _) | (with_reducible refine Kd.C_drewN ?_ _) | (with_reducible refine Kd.C_drew ?_))); (case side2 => exact HC0_1.out); rintro e w102 ⟨rfl, hb⟩; refine ⟨_, rfl, ?_⟩; replace BK440 := bb_ BK440 hb; replace BK441 := bb_ BK441 hb; replace HB := Aside0.mk (below_step (bl_ HB).out hb); (try clear hb); (try clear hb2); (try clear hk); (try clear hi)))
      go_ret
      exact ⟨ew_, (bl_ HB).out⟩
  · replace c4 := Bool.eq_false_iff.mpr c4
    subst c4
    have H1 : (some false) = some r := by rw [if_neg (show ¬ (false = true) by decide)] at H; exact H
    clear H
    have H := H1
    clear H1
    obtain rfl := Option.some.inj H
    go_enter Tryd.func6, Tryd.ntmps6
    go_wp2_with (first | ((with_reducible refine gate_dst (N := 2) rfl ?_); refine be_ 2 #[.bool a0_0, .slice A0_1 l0_1.length c0_1, .int .i64 a0_2] 24 ?_; intro gb440 hg w103 hbox hb; have BK440 := Aside0.mk (hbox); have GW440 := sz_ HB hg; have GE440 := sz_ HB hg; replace HB := Aside0.mk (below_step (bl_ HB).out hb); clear hb hbox hg) | ((with_reducible refine gate_dst (N := 3) rfl ?_); refine be_ 3 #[.int .i64 a1_0, .int .i64 a1_1, .int .i64 a1_2, .int .i64 a1_3, .int .i64 a1_4, .int .i64 a1_5, .int .i64 a1_6] 42 ?_; intro gb441 hg w104 hbox hb; have BK441 := Aside0.mk (hbox); have GW441 := sz_ HB hg; have GE441 := sz_ HB hg; have NB440_441 := na_ BK440 hg; have NB441_440 := nb_ BK440 hg; replace BK440 := bb_ BK440 hb; replace HB := Aside0.mk (below_step (bl_ HB).out hb); clear hb hbox hg) | ((with_reducible refine gate_callee (f := 8) rfl ?_); refine gl_ (some 11) Tryd.func8 #[] ?_; (with_reducible refine (florinlaw04_head.calls k  false _ A3.out).mono ?_); rintro e w105 ⟨rfl, hb⟩; refine ⟨_, rfl, ?_⟩; replace BK440 := bb_ BK440 hb; replace BK441 := bb_ BK441 hb; replace HB := Aside0.mk (below_step (bl_ HB).out hb); (try clear hb); (try clear hb2); (try clear hk); (try clear hi)))
    go_ret
    exact ⟨ew_, (bl_ HB).out⟩

end Go.Proofs.YthkpmiajcmihjaaDoor.P
