-- written by a program of this session (wip/p2)
import Derived.Test.YthkpmiajcmihjaaDoorPx0
import Derived.Test.YthkpmiajcmihjaaDoorPx1
import Derived.Test.YthkpmiajcmihjaaDoorPx2
import Derived.Test.YthkpmiajcmihjaaDoorPx3
import Derived.Test.YthkpmiajcmihjaaDoorPx7
import Derived.Test.YthkpmiajcmihjaaDoorPx8
import Derived.Test.YthkpmiajcmihjaaDoorPx10
namespace Go.Proofs.YthkpmiajcmihjaaDoor.P
open Go.RowKit Go.Proofs.YthkpmiajcmihjaaDoorW.PrintWords Go.Proofs.YthkpmiajcmihjaaDoorW.PrintLast Go.Proofs.YthkpmiajcmihjaaDoorW.PrintMore
attribute [local go_sem] max2_int min2_int max_two min_two max_three min_three max_four min_four   -- for this text's walks alone
set_option linter.unusedVariables false
set_option linter.unusedSimpArgs false

attribute [local go_sem high] eqA29 eqA35
/-! ### florinlaw04_ShowValid: function 3 -/
mutual
def florinlaw04_ShowValid.j0 : Nat → Int → Int → Int → Bool → Int → Int → Int → Bool → ByteArray → Int → Int → Int → Bool → ByteArray → Int → Option (Bool)
 | 0, _, _, _, _, _, _, _, _, _, _, _, _, _, _, _ => none
 | k + 1, x0, x1, x2, x15, x287000, x287001, x287002, x287003, x287004, x287005, x287006, x287007, x294000, x294001, x294002 => if x0 = 0 then (if x15 = true then (if x2 ≥ x1 then (florinlaw04_ShowValid.j1 k (decide (x2 ≤ 100)) x287000 x287001 x287002 x287003 x287004 x287005 x287006 x287007) else (florinlaw04_ShowValid.j1 k false x287000 x287001 x287002 x287003 x287004 x287005 x287006 x287007)) else (florinlaw04_ShowValid.j1 k false x287000 x287001 x287002 x287003 x287004 x287005 x287006 x287007)) else (if x0 = 1 then (if x15 = true then (if x1 ≥ 1 then (if x2 ≥ x1 then (florinlaw04_ShowValid.j1 k (decide (x2 ≤ 100)) x287000 x287001 x287002 x287003 x287004 x287005 x287006 x287007) else (florinlaw04_ShowValid.j1 k false x287000 x287001 x287002 x287003 x287004 x287005 x287006 x287007)) else (florinlaw04_ShowValid.j1 k false x287000 x287001 x287002 x287003 x287004 x287005 x287006 x287007)) else (florinlaw04_ShowValid.j1 k false x287000 x287001 x287002 x287003 x287004 x287005 x287006 x287007)) else (if x0 = 2 then (if x15 = true then (if x294000 = true then (florinlaw04_ShowValid.j1 k false x287000 x287001 x287002 x287003 x287004 x287005 x287006 x287007) else (if (x294001.size : Int) ≥ 1 then (if (x294001.size : Int) ≤ 9 then (if x294002 ≥ (-100) then (florinlaw04_ShowValid.j1 k (decide (x294002 ≤ 100)) x287000 x287001 x287002 x287003 x287004 x287005 x287006 x287007) else (florinlaw04_ShowValid.j1 k false x287000 x287001 x287002 x287003 x287004 x287005 x287006 x287007)) else (florinlaw04_ShowValid.j1 k false x287000 x287001 x287002 x287003 x287004 x287005 x287006 x287007)) else (florinlaw04_ShowValid.j1 k false x287000 x287001 x287002 x287003 x287004 x287005 x287006 x287007))) else (florinlaw04_ShowValid.j1 k false x287000 x287001 x287002 x287003 x287004 x287005 x287006 x287007)) else (florinlaw04_ShowValid.j1 k false x287000 x287001 x287002 x287003 x287004 x287005 x287006 x287007)))
def florinlaw04_ShowValid.j1 : Nat → Bool → Int → Int → Int → Bool → ByteArray → Int → Int → Int → Option (Bool)
 | 0, _, _, _, _, _, _, _, _, _ => none
 | k + 1, x15, x287000, x287001, x287002, x287003, x287004, x287005, x287006, x287007 => (show_Prec_Valid.f k x287000 x287001 x287002 x287003 x287004 x287005 x287006 x287007).bind fun t294 => (if (t294 != x15) = true then (some false) else ((dec_Made.f k false (⟨#[55]⟩ : ByteArray) 0).bind fun bt295 => ((show_Prec_Apply.f k x287000 x287001 x287002 x287003 x287004 x287005 x287006 x287007 bt295.1 bt295.2.1 bt295.2.2).bind fun bt299 => (if x15 = true then (some (bt299.2.2.2 == 0)) else (if bt299.2.2.2 = 3 then (if (!bt299.1 && (bt299.2.1.toList == ([] : List UInt8) && (bt299.2.2.1.toList == ([] : List UInt8)))) = true then ((show_Prec_Round.f k x287000 x287001 x287002 x287003 x287004 x287005 x287006 x287007 bt295.1 bt295.2.1 bt295.2.2).bind fun bt304 => (some (!bt304.1 && (bt304.2.1.toList == ([] : List UInt8) && (bt304.2.2 == 0))))) else (some false)) else (some false))))))
end
def florinlaw04_ShowValid.f (k : Nat) (a0 : Int) (a1 : Int) (a2 : Int) (a3 : Int) (a4 : Int) (a5_0 : Bool) (l5_1 : List Int) (a5_2 : Int) : Option (Bool) := (florinlaw04_head.f k).bind fun t282 => (if t282 = true then (if (l5_1.length : Int) > 30 then (some true) else ((florinlaw02_Raw_Make.f k a5_0 l5_1 a5_2).bind fun bt283 => ((florinlaw02_Raw_Make.f k a5_0 l5_1 a5_2).bind fun bt287 => ((dec_Dec_Norm.f k bt287.1 bt287.2.1 bt287.2.2).bind fun bt290 => (if a3 ≥ 0 then (if a3 ≤ 6 then (if a4 ≥ 0 then (if a4 ≤ 100 then (if a1 ≥ 0 then (florinlaw04_ShowValid.j0 k a0 a1 a2 (decide (a1 ≤ 100)) a0 a1 a2 bt283.1 bt283.2.1 bt283.2.2 a3 a4 bt290.1 bt290.2.1 bt290.2.2) else (florinlaw04_ShowValid.j0 k a0 a1 a2 false a0 a1 a2 bt283.1 bt283.2.1 bt283.2.2 a3 a4 bt290.1 bt290.2.1 bt290.2.2)) else (florinlaw04_ShowValid.j0 k a0 a1 a2 false a0 a1 a2 bt283.1 bt283.2.1 bt283.2.2 a3 a4 bt290.1 bt290.2.1 bt290.2.2)) else (florinlaw04_ShowValid.j0 k a0 a1 a2 false a0 a1 a2 bt283.1 bt283.2.1 bt283.2.2 a3 a4 bt290.1 bt290.2.1 bt290.2.2)) else (florinlaw04_ShowValid.j0 k a0 a1 a2 false a0 a1 a2 bt283.1 bt283.2.1 bt283.2.2 a3 a4 bt290.1 bt290.2.1 bt290.2.2)) else (florinlaw04_ShowValid.j0 k a0 a1 a2 false a0 a1 a2 bt283.1 bt283.2.1 bt283.2.2 a3 a4 bt290.1 bt290.2.1 bt290.2.2)))))) else (some false))
theorem florinlaw04_ShowValid.mono_l : ∀ k, (∀ y0 y1 y2 y3 y4 y5 y6 y7 y8 y9 y10 y11 y12 y13 y14, LeO (florinlaw04_ShowValid.j0 k y0 y1 y2 y3 y4 y5 y6 y7 y8 y9 y10 y11 y12 y13 y14) (florinlaw04_ShowValid.j0 (k + 1) y0 y1 y2 y3 y4 y5 y6 y7 y8 y9 y10 y11 y12 y13 y14)) ∧ (∀ y0 y1 y2 y3 y4 y5 y6 y7 y8, LeO (florinlaw04_ShowValid.j1 k y0 y1 y2 y3 y4 y5 y6 y7 y8) (florinlaw04_ShowValid.j1 (k + 1) y0 y1 y2 y3 y4 y5 y6 y7 y8))
 | 0 => ⟨fun _ _ _ _ _ _ _ _ _ _ _ _ _ _ _ r h => by simp [florinlaw04_ShowValid.j0] at h, fun _ _ _ _ _ _ _ _ _ r h => by simp [florinlaw04_ShowValid.j1] at h⟩
 | k + 1 => by
  obtain ⟨ih0, ih1⟩ := florinlaw04_ShowValid.mono_l k
  refine ⟨?_, ?_⟩
  ·intro y0 y1 y2 y3 y4 y5 y6 y7 y8 y9 y10 y11 y12 y13 y14
   unfold florinlaw04_ShowValid.j0
   repeat' first
   | (with_reducible exact ih0 _ _ _ _ _ _ _ _ _ _ _ _ _ _ _)
   | (with_reducible exact ih1 _ _ _ _ _ _ _ _ _)
   | (with_reducible exact dec_Dec_Norm.mono _ _ _ _)
   | (with_reducible exact dec_Made.mono _ _ _ _)
   | (with_reducible exact florinlaw02_Raw_Make.mono _ _ _ _)
   | (with_reducible exact florinlaw04_head.mono _)
   | (with_reducible exact show_Prec_Apply.mono _ _ _ _ _ _ _ _ _ _ _ _)
   | (with_reducible exact show_Prec_Round.mono _ _ _ _ _ _ _ _ _ _ _ _)
   | (with_reducible exact show_Prec_Valid.mono _ _ _ _ _ _ _ _ _)
   | (with_reducible exact LeO.refl _)
   | (with_reducible exact LeO.none _)
   | (with_reducible refine LeO.ite ?_ ?_)
   | (with_reducible refine LeO.bind ?_ (fun _ => ?_))
   | exact ih0 _ _ _ _ _ _ _ _ _ _ _ _ _ _ _
   | exact ih1 _ _ _ _ _ _ _ _ _
   | exact dec_Dec_Norm.mono _ _ _ _
   | exact dec_Made.mono _ _ _ _
   | exact florinlaw02_Raw_Make.mono _ _ _ _
   | exact florinlaw04_head.mono _
   | exact show_Prec_Apply.mono _ _ _ _ _ _ _ _ _ _ _ _
   | exact show_Prec_Round.mono _ _ _ _ _ _ _ _ _ _ _ _
   | exact show_Prec_Valid.mono _ _ _ _ _ _ _ _ _
   | exact LeO.none _
   | refine LeO.ite ?_ ?_
   | refine LeO.bind ?_ (fun _ => ?_)
  ·intro y0 y1 y2 y3 y4 y5 y6 y7 y8
   unfold florinlaw04_ShowValid.j1
   repeat' first
   | (with_reducible exact ih0 _ _ _ _ _ _ _ _ _ _ _ _ _ _ _)
   | (with_reducible exact ih1 _ _ _ _ _ _ _ _ _)
   | (with_reducible exact dec_Dec_Norm.mono _ _ _ _)
   | (with_reducible exact dec_Made.mono _ _ _ _)
   | (with_reducible exact florinlaw02_Raw_Make.mono _ _ _ _)
   | (with_reducible exact florinlaw04_head.mono _)
   | (with_reducible exact show_Prec_Apply.mono _ _ _ _ _ _ _ _ _ _ _ _)
   | (with_reducible exact show_Prec_Round.mono _ _ _ _ _ _ _ _ _ _ _ _)
   | (with_reducible exact show_Prec_Valid.mono _ _ _ _ _ _ _ _ _)
   | (with_reducible exact LeO.refl _)
   | (with_reducible exact LeO.none _)
   | (with_reducible refine LeO.ite ?_ ?_)
   | (with_reducible refine LeO.bind ?_ (fun _ => ?_))
   | exact ih0 _ _ _ _ _ _ _ _ _ _ _ _ _ _ _
   | exact ih1 _ _ _ _ _ _ _ _ _
   | exact dec_Dec_Norm.mono _ _ _ _
   | exact dec_Made.mono _ _ _ _
   | exact florinlaw02_Raw_Make.mono _ _ _ _
   | exact florinlaw04_head.mono _
   | exact show_Prec_Apply.mono _ _ _ _ _ _ _ _ _ _ _ _
   | exact show_Prec_Round.mono _ _ _ _ _ _ _ _ _ _ _ _
   | exact show_Prec_Valid.mono _ _ _ _ _ _ _ _ _
   | exact LeO.none _
   | refine LeO.ite ?_ ?_
   | refine LeO.bind ?_ (fun _ => ?_)
theorem florinlaw04_ShowValid.mono : ∀ a0 a1 a2 a3 a4 a5 a6 a7 k, LeO (florinlaw04_ShowValid.f k a0 a1 a2 a3 a4 a5 a6 a7) (florinlaw04_ShowValid.f (k + 1) a0 a1 a2 a3 a4 a5 a6 a7) := by
 intro a0 a1 a2 a3 a4 a5 a6 a7 k
 obtain ⟨ih0, ih1⟩ := florinlaw04_ShowValid.mono_l k
 unfold florinlaw04_ShowValid.f
 repeat' first
   | (with_reducible exact ih0 _ _ _ _ _ _ _ _ _ _ _ _ _ _ _)
   | (with_reducible exact ih1 _ _ _ _ _ _ _ _ _)
   | (with_reducible exact dec_Dec_Norm.mono _ _ _ _)
   | (with_reducible exact dec_Made.mono _ _ _ _)
   | (with_reducible exact florinlaw02_Raw_Make.mono _ _ _ _)
   | (with_reducible exact florinlaw04_head.mono _)
   | (with_reducible exact show_Prec_Apply.mono _ _ _ _ _ _ _ _ _ _ _ _)
   | (with_reducible exact show_Prec_Round.mono _ _ _ _ _ _ _ _ _ _ _ _)
   | (with_reducible exact show_Prec_Valid.mono _ _ _ _ _ _ _ _ _)
   | (with_reducible exact LeO.refl _)
   | (with_reducible exact LeO.none _)
   | (with_reducible refine LeO.ite ?_ ?_)
   | (with_reducible refine LeO.bind ?_ (fun _ => ?_))
   | exact ih0 _ _ _ _ _ _ _ _ _ _ _ _ _ _ _
   | exact ih1 _ _ _ _ _ _ _ _ _
   | exact dec_Dec_Norm.mono _ _ _ _
   | exact dec_Made.mono _ _ _ _
   | exact florinlaw02_Raw_Make.mono _ _ _ _
   | exact florinlaw04_head.mono _
   | exact show_Prec_Apply.mono _ _ _ _ _ _ _ _ _ _ _ _
   | exact show_Prec_Round.mono _ _ _ _ _ _ _ _ _ _ _ _
   | exact show_Prec_Valid.mono _ _ _ _ _ _ _ _ _
   | exact LeO.none _
   | refine LeO.ite ?_ ?_
   | refine LeO.bind ?_ (fun _ => ?_)
set_option maxHeartbeats 8000000 in
set_option maxRecDepth 100000 in
theorem florinlaw04_ShowValid.calls (k : Nat) (a0 : Int) (a1 : Int) (a2 : Int) (a3 : Int) (a4 : Int) (a5_0 : Bool) (A5_1 : Option Addr) (c5_1 : Nat) (l5_1 : List Int) (a5_2 : Int) (r : Bool) (w : World) (hr5_1 : Kd.C (Kd.int .u8) w A5_1 l5_1.length l5_1) (hc5_1 : l5_1.length ≤ c5_1) (h : florinlaw04_ShowValid.f k a0 a1 a2 a3 a4 a5_0 l5_1 a5_2 = some r) :
  Calls Tryd.prog 3 #[.int .i64 a0, .int .i64 a1, .int .i64 a2, .int .i64 a3, .int .i64 a4, .agg #[.bool a5_0, .slice A5_1 l5_1.length c5_1, .int .i64 a5_2]] w fun e w' => e = .returned (.bool r) ∧ Below w.heap.size w w' := by
 have hu24 := Tryd.underlying24
 have hu32 := Tryd.underlying32
 have hu29 := Tryd.underlying29
 have hu35 := Tryd.underlying35
 have HR5_1 := Aside0.mk hr5_1
 have HC5_1 := Aside0.mk hc5_1
 clear hr5_1 hc5_1
 have HB := Aside0.mk (Below.refl w.heap.size w)
 have H : ((florinlaw04_head.f k).bind fun t282 => (if t282 = true then (if (l5_1.length : Int) > 30 then (some true) else ((florinlaw02_Raw_Make.f k a5_0 l5_1 a5_2).bind fun bt283 => ((florinlaw02_Raw_Make.f k a5_0 l5_1 a5_2).bind fun bt287 => ((dec_Dec_Norm.f k bt287.1 bt287.2.1 bt287.2.2).bind fun bt290 => (if a3 ≥ 0 then (if a3 ≤ 6 then (if a4 ≥ 0 then (if a4 ≤ 100 then (if a1 ≥ 0 then (florinlaw04_ShowValid.j0 k a0 a1 a2 (decide (a1 ≤ 100)) a0 a1 a2 bt283.1 bt283.2.1 bt283.2.2 a3 a4 bt290.1 bt290.2.1 bt290.2.2) else (florinlaw04_ShowValid.j0 k a0 a1 a2 false a0 a1 a2 bt283.1 bt283.2.1 bt283.2.2 a3 a4 bt290.1 bt290.2.1 bt290.2.2)) else (florinlaw04_ShowValid.j0 k a0 a1 a2 false a0 a1 a2 bt283.1 bt283.2.1 bt283.2.2 a3 a4 bt290.1 bt290.2.1 bt290.2.2)) else (florinlaw04_ShowValid.j0 k a0 a1 a2 false a0 a1 a2 bt283.1 bt283.2.1 bt283.2.2 a3 a4 bt290.1 bt290.2.1 bt290.2.2)) else (florinlaw04_ShowValid.j0 k a0 a1 a2 false a0 a1 a2 bt283.1 bt283.2.1 bt283.2.2 a3 a4 bt290.1 bt290.2.1 bt290.2.2)) else (florinlaw04_ShowValid.j0 k a0 a1 a2 false a0 a1 a2 bt283.1 bt283.2.1 bt283.2.2 a3 a4 bt290.1 bt290.2.1 bt290.2.2)))))) else (some false))) = some r := h
 clear h
 replace H := Option.bind_eq_some_iff.mp H
 obtain ⟨t282, A70, H⟩ := H
 replace H : (if t282 = true then (if (l5_1.length : Int) > 30 then (some true) else ((florinlaw02_Raw_Make.f k a5_0 l5_1 a5_2).bind fun bt283 => ((florinlaw02_Raw_Make.f k a5_0 l5_1 a5_2).bind fun bt287 => ((dec_Dec_Norm.f k bt287.1 bt287.2.1 bt287.2.2).bind fun bt290 => (if a3 ≥ 0 then (if a3 ≤ 6 then (if a4 ≥ 0 then (if a4 ≤ 100 then (if a1 ≥ 0 then (florinlaw04_ShowValid.j0 k a0 a1 a2 (decide (a1 ≤ 100)) a0 a1 a2 bt283.1 bt283.2.1 bt283.2.2 a3 a4 bt290.1 bt290.2.1 bt290.2.2) else (florinlaw04_ShowValid.j0 k a0 a1 a2 false a0 a1 a2 bt283.1 bt283.2.1 bt283.2.2 a3 a4 bt290.1 bt290.2.1 bt290.2.2)) else (florinlaw04_ShowValid.j0 k a0 a1 a2 false a0 a1 a2 bt283.1 bt283.2.1 bt283.2.2 a3 a4 bt290.1 bt290.2.1 bt290.2.2)) else (florinlaw04_ShowValid.j0 k a0 a1 a2 false a0 a1 a2 bt283.1 bt283.2.1 bt283.2.2 a3 a4 bt290.1 bt290.2.1 bt290.2.2)) else (florinlaw04_ShowValid.j0 k a0 a1 a2 false a0 a1 a2 bt283.1 bt283.2.1 bt283.2.2 a3 a4 bt290.1 bt290.2.1 bt290.2.2)) else (florinlaw04_ShowValid.j0 k a0 a1 a2 false a0 a1 a2 bt283.1 bt283.2.1 bt283.2.2 a3 a4 bt290.1 bt290.2.1 bt290.2.2)))))) else (some false)) = some r := H
 have A7 := Aside0.mk A70
 clear A70
 by_cases c8 : t282 = true
 ·subst c8
  have H1 : (if (l5_1.length : Int) > 30 then (some true) else ((florinlaw02_Raw_Make.f k a5_0 l5_1 a5_2).bind fun bt283 => ((florinlaw02_Raw_Make.f k a5_0 l5_1 a5_2).bind fun bt287 => ((dec_Dec_Norm.f k bt287.1 bt287.2.1 bt287.2.2).bind fun bt290 => (if a3 ≥ 0 then (if a3 ≤ 6 then (if a4 ≥ 0 then (if a4 ≤ 100 then (if a1 ≥ 0 then (florinlaw04_ShowValid.j0 k a0 a1 a2 (decide (a1 ≤ 100)) a0 a1 a2 bt283.1 bt283.2.1 bt283.2.2 a3 a4 bt290.1 bt290.2.1 bt290.2.2) else (florinlaw04_ShowValid.j0 k a0 a1 a2 false a0 a1 a2 bt283.1 bt283.2.1 bt283.2.2 a3 a4 bt290.1 bt290.2.1 bt290.2.2)) else (florinlaw04_ShowValid.j0 k a0 a1 a2 false a0 a1 a2 bt283.1 bt283.2.1 bt283.2.2 a3 a4 bt290.1 bt290.2.1 bt290.2.2)) else (florinlaw04_ShowValid.j0 k a0 a1 a2 false a0 a1 a2 bt283.1 bt283.2.1 bt283.2.2 a3 a4 bt290.1 bt290.2.1 bt290.2.2)) else (florinlaw04_ShowValid.j0 k a0 a1 a2 false a0 a1 a2 bt283.1 bt283.2.1 bt283.2.2 a3 a4 bt290.1 bt290.2.1 bt290.2.2)) else (florinlaw04_ShowValid.j0 k a0 a1 a2 false a0 a1 a2 bt283.1 bt283.2.1 bt283.2.2 a3 a4 bt290.1 bt290.2.1 bt290.2.2)))))) = some r := by rw [if_pos rfl] at H; exact H
  clear H
  have H := H1
  clear H1
  by_cases c9 : (l5_1.length : Int) > 30
  ·rw [if_pos c9] at H
   have c9b0 : decide (30 < (l5_1.length : Int)) = true := decide_eq_true c9
   have c9b1 : decide (30 < l5_1.length) = true := decide_eq_true (by omega)
   clear c9
   obtain rfl := Option.some.inj H
   go_enter Tryd.func3, Tryd.ntmps3
   go_wp2_with (first | ((with_reducible refine gate_dst (N := 11) rfl ?_); (try (refine gate_guard (by rfl) ?_; dsimp only)); refine be_ 11 #[.bool a5_0, .slice A5_1 l5_1.length c5_1, .int .i64 a5_2] 24 ?_; intro gb281 hg w10 hbox hb; have BK281 := Aside0.mk (hbox); have GW281 := sz_ HB hg; have GE281 := sz_ HB hg; replace HB := Aside0.mk (below_step (bl_ HB).out hb); clear hb hbox hg) | ((with_reducible refine gate_callee (f := 8) rfl ?_); refine gl_ (some 19) Tryd.func8 #[] ?_; (with_reducible refine (florinlaw04_head.calls k  true _ A7.out).mono ?_); rintro e w11 ⟨rfl, hb⟩; refine ⟨_, rfl, ?_⟩; replace BK281 := bb_ BK281 hb; replace HB := Aside0.mk (below_step (bl_ HB).out hb); (try clear hb); (try clear hb2); (try clear hk); (try clear hi); obtain ⟨hcz12_0, hcz12_1, hcz12_2, hfz12_0, hfz12_1, hfz12_2⟩ := bo3_ BK281))
   go_ret
   exact ⟨ew_, (bl_ HB).out⟩
  ·rw [if_neg c9] at H
   have c9b0 : decide (30 < (l5_1.length : Int)) = false := decide_eq_false c9
   have c9b1 : decide (30 < l5_1.length) = false := decide_eq_false (by omega)
   clear c9
   replace H := Option.bind_eq_some_iff.mp H
   obtain ⟨⟨t283, t284, t285⟩, A130, H⟩ := H
   replace H : ((florinlaw02_Raw_Make.f k a5_0 l5_1 a5_2).bind fun bt287 => ((dec_Dec_Norm.f k bt287.1 bt287.2.1 bt287.2.2).bind fun bt290 => (if a3 ≥ 0 then (if a3 ≤ 6 then (if a4 ≥ 0 then (if a4 ≤ 100 then (if a1 ≥ 0 then (florinlaw04_ShowValid.j0 k a0 a1 a2 (decide (a1 ≤ 100)) a0 a1 a2 t283 t284 t285 a3 a4 bt290.1 bt290.2.1 bt290.2.2) else (florinlaw04_ShowValid.j0 k a0 a1 a2 false a0 a1 a2 t283 t284 t285 a3 a4 bt290.1 bt290.2.1 bt290.2.2)) else (florinlaw04_ShowValid.j0 k a0 a1 a2 false a0 a1 a2 t283 t284 t285 a3 a4 bt290.1 bt290.2.1 bt290.2.2)) else (florinlaw04_ShowValid.j0 k a0 a1 a2 false a0 a1 a2 t283 t284 t285 a3 a4 bt290.1 bt290.2.1 bt290.2.2)) else (florinlaw04_ShowValid.j0 k a0 a1 a2 false a0 a1 a2 t283 t284 t285 a3 a4 bt290.1 bt290.2.1 bt290.2.2)) else (florinlaw04_ShowValid.j0 k a0 a1 a2 false a0 a1 a2 t283 t284 t285 a3 a4 bt290.1 bt290.2.1 bt290.2.2)))) = some r := H
   have A13 := Aside0.mk A130
   clear A130
   replace H := Option.bind_eq_some_iff.mp H
   obtain ⟨⟨t287, t288, t289⟩, A140, H⟩ := H
   replace H : ((dec_Dec_Norm.f k t287 t288 t289).bind fun bt290 => (if a3 ≥ 0 then (if a3 ≤ 6 then (if a4 ≥ 0 then (if a4 ≤ 100 then (if a1 ≥ 0 then (florinlaw04_ShowValid.j0 k a0 a1 a2 (decide (a1 ≤ 100)) a0 a1 a2 t283 t284 t285 a3 a4 bt290.1 bt290.2.1 bt290.2.2) else (florinlaw04_ShowValid.j0 k a0 a1 a2 false a0 a1 a2 t283 t284 t285 a3 a4 bt290.1 bt290.2.1 bt290.2.2)) else (florinlaw04_ShowValid.j0 k a0 a1 a2 false a0 a1 a2 t283 t284 t285 a3 a4 bt290.1 bt290.2.1 bt290.2.2)) else (florinlaw04_ShowValid.j0 k a0 a1 a2 false a0 a1 a2 t283 t284 t285 a3 a4 bt290.1 bt290.2.1 bt290.2.2)) else (florinlaw04_ShowValid.j0 k a0 a1 a2 false a0 a1 a2 t283 t284 t285 a3 a4 bt290.1 bt290.2.1 bt290.2.2)) else (florinlaw04_ShowValid.j0 k a0 a1 a2 false a0 a1 a2 t283 t284 t285 a3 a4 bt290.1 bt290.2.1 bt290.2.2))) = some r := H
   have A14 := Aside0.mk A140
   clear A140
   replace H := Option.bind_eq_some_iff.mp H
   obtain ⟨⟨t290, t291, t292⟩, A150, H⟩ := H
   replace H : (if a3 ≥ 0 then (if a3 ≤ 6 then (if a4 ≥ 0 then (if a4 ≤ 100 then (if a1 ≥ 0 then (florinlaw04_ShowValid.j0 k a0 a1 a2 (decide (a1 ≤ 100)) a0 a1 a2 t283 t284 t285 a3 a4 t290 t291 t292) else (florinlaw04_ShowValid.j0 k a0 a1 a2 false a0 a1 a2 t283 t284 t285 a3 a4 t290 t291 t292)) else (florinlaw04_ShowValid.j0 k a0 a1 a2 false a0 a1 a2 t283 t284 t285 a3 a4 t290 t291 t292)) else (florinlaw04_ShowValid.j0 k a0 a1 a2 false a0 a1 a2 t283 t284 t285 a3 a4 t290 t291 t292)) else (florinlaw04_ShowValid.j0 k a0 a1 a2 false a0 a1 a2 t283 t284 t285 a3 a4 t290 t291 t292)) else (florinlaw04_ShowValid.j0 k a0 a1 a2 false a0 a1 a2 t283 t284 t285 a3 a4 t290 t291 t292)) = some r := H
   have A15 := Aside0.mk A150
   clear A150
   have HC16 := Aside0.mk H
   clear H
   go_enter Tryd.func3, Tryd.ntmps3
   go_upto_region 7 with (first | ((with_reducible refine gate_dst (N := 11) rfl ?_); (try (refine gate_guard (by rfl) ?_; dsimp only)); refine be_ 11 #[.bool a5_0, .slice A5_1 l5_1.length c5_1, .int .i64 a5_2] 24 ?_; intro gb281 hg w17 hbox hb; have BK281 := Aside0.mk (hbox); have GW281 := sz_ HB hg; have GE281 := sz_ HB hg; replace HB := Aside0.mk (below_step (bl_ HB).out hb); clear hb hbox hg) | ((with_reducible refine gate_callee (f := 8) rfl ?_); refine gl_ (some 19) Tryd.func8 #[] ?_; (with_reducible refine (florinlaw04_head.calls k  true _ A7.out).mono ?_); rintro e w18 ⟨rfl, hb⟩; refine ⟨_, rfl, ?_⟩; replace BK281 := bb_ BK281 hb; replace HB := Aside0.mk (below_step (bl_ HB).out hb); (try clear hb); (try clear hb2); (try clear hk); (try clear hi); obtain ⟨hcz19_0, hcz19_1, hcz19_2, hfz19_0, hfz19_1, hfz19_2⟩ := bo3_ BK281) | ((with_reducible refine gate_callee (f := 9) rfl ?_); refine gl_ (some 31) Tryd.func9 #[.agg #[.bool a5_0, .slice A5_1 l5_1.length c5_1, .int .i64 a5_2]] ?_; (with_reducible refine (florinlaw02_Raw_Make.calls k a5_0 _ _ l5_1 a5_2 t283 t284 t285 _ ?side1 ?side2 A13.out).mono ?_); (case side1 => repeat (first | exact (Kd.C_below HR5_1.out HB.out) | (with_reducible refine Kd.C_alloc ?_ _) | (with_reducible refine Kd.C_drewN ?_ _) | (with_reducible refine Kd.C_drew ?_))); (case side2 => exact HC5_1.out); rintro e w20 ⟨rfl, hb⟩; refine ⟨_, rfl, ?_⟩; replace BK281 := bb_ BK281 hb; replace HB := Aside0.mk (below_step (bl_ HB).out hb); (try clear hb); (try clear hb2); (try clear hk); (try clear hi)) | ((with_reducible refine gate_dst (N := 13) rfl ?_); (try (refine gate_guard (by rfl) ?_; dsimp only)); refine be_ 13 #[.int .i64 0, .int .i64 0, .int .i64 0, .bool false, .string (⟨#[]⟩ : ByteArray), .int .i64 0, .int .i64 0, .int .i64 0] 32 ?_; intro gb286 hg w21 hbox hb; have BK286 := Aside0.mk (hbox); have GW286 := sz_ HB hg; have GE286 := sz_ HB hg; have NB281_286 := na_ BK281 hg; have NB286_281 := nb_ BK281 hg; replace BK281 := bb_ BK281 hb; replace HB := Aside0.mk (below_step (bl_ HB).out hb); clear hb hbox hg; have hnb22 := NB286_281.out; have hnc22 := NB281_286.out; obtain ⟨hcz23_0, hcz23_1, hcz23_2, hcz23_3, hcz23_4, hcz23_5, hcz23_6, hcz23_7, hfz23_0, hfz23_1, hfz23_2, hfz23_3, hfz23_4, hfz23_5, hfz23_6, hfz23_7⟩ := bo8_ BK286; obtain ⟨hcz24_0, hcz24_1, hcz24_2, hfz24_0, hfz24_1, hfz24_2⟩ := bo3_ BK281) | ((with_reducible refine gate_callee (f := 9) rfl ?_); refine gl_ (some 34) Tryd.func9 #[.agg #[.bool a5_0, .slice A5_1 l5_1.length c5_1, .int .i64 a5_2]] ?_; (with_reducible refine (florinlaw02_Raw_Make.calls k a5_0 _ _ l5_1 a5_2 t287 t288 t289 _ ?side1 ?side2 A14.out).mono ?_); (case side1 => exact Kd.C_below HR5_1.out (bl_ HB).out); (case side2 => exact HC5_1.out); rintro e w25 ⟨rfl, hb⟩; refine ⟨_, rfl, ?_⟩; have n0_ := Aside0.mk (blk_below (g := gb281) (o := .cells #[.bool a5_0, .slice A5_1 l5_1.length c5_1, .int .i64 a5_2] 24 (0, 0)) (by (with_reducible repeat (first | refine blk_drewN ?_ _ | refine blk_drew ?_ | refine blk_alloc ?_ _)); refine blk_far ?_ NB281_286.out _; (with_reducible repeat (first | refine blk_drewN ?_ _ | refine blk_drew ?_ | refine blk_alloc ?_ _)); refine blk_far ?_ NB281_286.out _; (with_reducible repeat (first | refine blk_drewN ?_ _ | refine blk_drew ?_ | refine blk_alloc ?_ _)); refine blk_far ?_ NB281_286.out _; (with_reducible repeat (first | refine blk_drewN ?_ _ | refine blk_drew ?_ | refine blk_alloc ?_ _)); refine blk_far ?_ NB281_286.out _; (with_reducible repeat (first | refine blk_drewN ?_ _ | refine blk_drew ?_ | refine blk_alloc ?_ _)); refine blk_far ?_ NB281_286.out _; (with_reducible repeat (first | refine blk_drewN ?_ _ | refine blk_drew ?_ | refine blk_alloc ?_ _)); refine blk_far ?_ NB281_286.out _; (with_reducible repeat (first | refine blk_drewN ?_ _ | refine blk_drew ?_ | refine blk_alloc ?_ _)); refine blk_far ?_ NB281_286.out _; (with_reducible repeat (first | refine blk_drewN ?_ _ | refine blk_drew ?_ | refine blk_alloc ?_ _)); refine blk_far ?_ NB281_286.out _; (with_reducible repeat (first | refine blk_drewN ?_ _ | refine blk_drew ?_ | refine blk_alloc ?_ _)); exact BK281.out) hb); have n1_ := Aside0.mk (blk_below (g := gb286) (o := .cells #[.int .i64 a0, .int .i64 a1, .int .i64 a2, .bool t283, .string t284, .int .i64 t285, .int .i64 a3, .int .i64 a4] 32 (0, 0)) (by (with_reducible repeat (first | refine blk_drewN ?_ _ | refine blk_drew ?_ | refine blk_alloc ?_ _)); refine blk_put (cs := #[.int .i64 a0, .int .i64 a1, .int .i64 a2, .bool t283, .string t284, .int .i64 t285, .int .i64 a3, .int .i64 0]) ?_ 7 _ rfl; (with_reducible repeat (first | refine blk_drewN ?_ _ | refine blk_drew ?_ | refine blk_alloc ?_ _)); refine blk_put (cs := #[.int .i64 a0, .int .i64 a1, .int .i64 a2, .bool t283, .string t284, .int .i64 t285, .int .i64 0, .int .i64 0]) ?_ 6 _ rfl; (with_reducible repeat (first | refine blk_drewN ?_ _ | refine blk_drew ?_ | refine blk_alloc ?_ _)); refine blk_put (cs := #[.int .i64 a0, .int .i64 a1, .int .i64 a2, .bool t283, .string t284, .int .i64 0, .int .i64 0, .int .i64 0]) ?_ 5 _ rfl; (with_reducible repeat (first | refine blk_drewN ?_ _ | refine blk_drew ?_ | refine blk_alloc ?_ _)); refine blk_put (cs := #[.int .i64 a0, .int .i64 a1, .int .i64 a2, .bool t283, .string (⟨#[]⟩ : ByteArray), .int .i64 0, .int .i64 0, .int .i64 0]) ?_ 4 _ rfl; (with_reducible repeat (first | refine blk_drewN ?_ _ | refine blk_drew ?_ | refine blk_alloc ?_ _)); refine blk_put (cs := #[.int .i64 a0, .int .i64 a1, .int .i64 a2, .bool false, .string (⟨#[]⟩ : ByteArray), .int .i64 0, .int .i64 0, .int .i64 0]) ?_ 3 _ rfl; (with_reducible repeat (first | refine blk_drewN ?_ _ | refine blk_drew ?_ | refine blk_alloc ?_ _)); refine blk_put (cs := #[.int .i64 a0, .int .i64 a1, .int .i64 0, .bool false, .string (⟨#[]⟩ : ByteArray), .int .i64 0, .int .i64 0, .int .i64 0]) ?_ 2 _ rfl; (with_reducible repeat (first | refine blk_drewN ?_ _ | refine blk_drew ?_ | refine blk_alloc ?_ _)); refine blk_put (cs := #[.int .i64 a0, .int .i64 0, .int .i64 0, .bool false, .string (⟨#[]⟩ : ByteArray), .int .i64 0, .int .i64 0, .int .i64 0]) ?_ 1 _ rfl; (with_reducible repeat (first | refine blk_drewN ?_ _ | refine blk_drew ?_ | refine blk_alloc ?_ _)); refine blk_put (cs := #[.int .i64 0, .int .i64 0, .int .i64 0, .bool false, .string (⟨#[]⟩ : ByteArray), .int .i64 0, .int .i64 0, .int .i64 0]) ?_ 0 _ rfl; (with_reducible repeat (first | refine blk_drewN ?_ _ | refine blk_drew ?_ | refine blk_alloc ?_ _)); exact BK286.out) hb); have n2_ := Aside0.mk (below_step (bl_ HB).out hb); clear BK281; clear BK286; clear HB; have BK281 := n0_; have BK286 := n1_; have HB := n2_; clear n0_ n1_ n2_; (try clear hb); (try clear hb2); (try clear hk); (try clear hi)) | ((with_reducible refine gate_callee (f := 10) rfl ?_); refine gl_ (some 35) Tryd.func10 #[.agg #[.bool t287, .string t288, .int .i64 t289]] ?_; (with_reducible refine (dec_Dec_Norm.calls k t287 t288 t289 t290 t291 t292 _ A15.out).mono ?_); rintro e w26 ⟨rfl, hb⟩; refine ⟨_, rfl, ?_⟩; replace BK281 := bb_ BK281 hb; replace BK286 := bb_ BK286 hb; replace HB := Aside0.mk (below_step (bl_ HB).out hb); (try clear hb); (try clear hb2); (try clear hk); (try clear hi)) | ((with_reducible refine gate_dst (N := 14) rfl ?_); (try (refine gate_guard (by rfl) ?_; dsimp only)); refine be_ 14 #[.bool false, .string (⟨#[]⟩ : ByteArray), .int .i64 0] 29 ?_; intro gb293 hg w27 hbox hb; have BK293 := Aside0.mk (hbox); have GW293 := sz_ HB hg; have GE293 := sz_ HB hg; have NB281_293 := na_ BK281 hg; have NB293_281 := nb_ BK281 hg; have NB286_293 := na_ BK286 hg; have NB293_286 := nb_ BK286 hg; replace BK281 := bb_ BK281 hb; replace BK286 := bb_ BK286 hb; replace HB := Aside0.mk (below_step (bl_ HB).out hb); clear hb hbox hg; have hnb28 := NB293_281.out; have hnc28 := NB281_293.out; have hnb29 := NB293_286.out; have hnc29 := NB286_293.out; obtain ⟨hcz30_0, hcz30_1, hcz30_2, hfz30_0, hfz30_1, hfz30_2⟩ := bo3_ BK293))
   (try simp only [Act.put, List.setIfInBounds_toArray, List.set_cons_zero, List.set_cons_succ])
   go_cut [15] (fun v15 wc => ∃ (kq : Nat) (x15_15 : Bool), v15 = .bool x15_15 ∧ Aside0 (florinlaw04_ShowValid.j0 kq a0 a1 a2 x15_15 a0 a1 a2 t283 t284 t285 a3 a4 t290 t291 t292 = some r) ∧ Aside0 (kq ≤ k) ∧ Aside0 (wc.heap[gb281]? = some (.cells #[.bool a5_0, (.slice A5_1 l5_1.length c5_1), .int .i64 a5_2] 24 (0, 0))) ∧ Aside0 (wc.heap[gb286]? = some (.cells #[.int .i64 a0, .int .i64 a1, .int .i64 a2, .bool t283, .string t284, .int .i64 t285, .int .i64 a3, .int .i64 a4] 32 (0, 0))) ∧ Aside0 (wc.heap[gb293]? = some (.cells #[.bool t290, .string t291, .int .i64 t292] 29 (0, 0))) ∧ Aside0 (Below w.heap.size w wc))
   case first =>
    have H := HC16.out
    clear HC16
    by_cases c31 : a3 ≥ 0
    ·rw [if_pos c31] at H
     have c31b0 : decide (0 ≤ a3) = true := decide_eq_true c31
     clear c31
     (first | rw [c31b0] | (simp only [i64_w, i32_w]; rw [c31b0]) | skip)
     by_cases c32 : a3 ≤ 6
     ·rw [if_pos c32] at H
      have c32b0 : decide (a3 ≤ 6) = true := decide_eq_true c32
      clear c32
      by_cases c33 : a4 ≥ 0
      ·rw [if_pos c33] at H
       have c33b0 : decide (0 ≤ a4) = true := decide_eq_true c33
       clear c33
       by_cases c34 : a4 ≤ 100
       ·rw [if_pos c34] at H
        have c34b0 : decide (a4 ≤ 100) = true := decide_eq_true c34
        clear c34
        by_cases c35 : a1 ≥ 0
        ·rw [if_pos c35] at H
         have c35b0 : decide (0 ≤ a1) = true := decide_eq_true c35
         clear c35
         have H' := Aside0.mk H
         clear H
         go_wp2
         go_meet
         case rel => exact ⟨_, (decide (a1 ≤ 100)), eq_, H', ⟨by first | omega | exact Nat.le_refl _⟩, ⟨by (with_reducible repeat (first | refine blk_drewN ?_ _ | refine blk_drew ?_ | refine blk_alloc ?_ _)); refine blk_far ?_ NB281_293.out _; (with_reducible repeat (first | refine blk_drewN ?_ _ | refine blk_drew ?_ | refine blk_alloc ?_ _)); refine blk_far ?_ NB281_293.out _; (with_reducible repeat (first | refine blk_drewN ?_ _ | refine blk_drew ?_ | refine blk_alloc ?_ _)); refine blk_far ?_ NB281_293.out _; (with_reducible repeat (first | refine blk_drewN ?_ _ | refine blk_drew ?_ | refine blk_alloc ?_ _)); exact BK281.out⟩, ⟨by (with_reducible repeat (first | refine blk_drewN ?_ _ | refine blk_drew ?_ | refine blk_alloc ?_ _)); refine blk_far ?_ NB286_293.out _; (with_reducible repeat (first | refine blk_drewN ?_ _ | refine blk_drew ?_ | refine blk_alloc ?_ _)); refine blk_far ?_ NB286_293.out _; (with_reducible repeat (first | refine blk_drewN ?_ _ | refine blk_drew ?_ | refine blk_alloc ?_ _)); refine blk_far ?_ NB286_293.out _; (with_reducible repeat (first | refine blk_drewN ?_ _ | refine blk_drew ?_ | refine blk_alloc ?_ _)); exact BK286.out⟩, ⟨by (with_reducible repeat (first | refine blk_drewN ?_ _ | refine blk_drew ?_ | refine blk_alloc ?_ _)); refine blk_put (cs := #[.bool t290, .string t291, .int .i64 0]) ?_ 2 _ rfl; (with_reducible repeat (first | refine blk_drewN ?_ _ | refine blk_drew ?_ | refine blk_alloc ?_ _)); refine blk_put (cs := #[.bool t290, .string (⟨#[]⟩ : ByteArray), .int .i64 0]) ?_ 1 _ rfl; (with_reducible repeat (first | refine blk_drewN ?_ _ | refine blk_drew ?_ | refine blk_alloc ?_ _)); refine blk_put (cs := #[.bool false, .string (⟨#[]⟩ : ByteArray), .int .i64 0]) ?_ 0 _ rfl; (with_reducible repeat (first | refine blk_drewN ?_ _ | refine blk_drew ?_ | refine blk_alloc ?_ _)); exact BK293.out⟩, (bl_ HB)⟩
        ·rw [if_neg c35] at H
         have c35b0 : decide (0 ≤ a1) = false := decide_eq_false c35
         clear c35
         have H' := Aside0.mk H
         clear H
         go_wp2
         go_meet
         case rel => exact ⟨_, (false), eq_, H', ⟨by first | omega | exact Nat.le_refl _⟩, ⟨by (with_reducible repeat (first | refine blk_drewN ?_ _ | refine blk_drew ?_ | refine blk_alloc ?_ _)); refine blk_far ?_ NB281_293.out _; (with_reducible repeat (first | refine blk_drewN ?_ _ | refine blk_drew ?_ | refine blk_alloc ?_ _)); refine blk_far ?_ NB281_293.out _; (with_reducible repeat (first | refine blk_drewN ?_ _ | refine blk_drew ?_ | refine blk_alloc ?_ _)); refine blk_far ?_ NB281_293.out _; (with_reducible repeat (first | refine blk_drewN ?_ _ | refine blk_drew ?_ | refine blk_alloc ?_ _)); exact BK281.out⟩, ⟨by (with_reducible repeat (first | refine blk_drewN ?_ _ | refine blk_drew ?_ | refine blk_alloc ?_ _)); refine blk_far ?_ NB286_293.out _; (with_reducible repeat (first | refine blk_drewN ?_ _ | refine blk_drew ?_ | refine blk_alloc ?_ _)); refine blk_far ?_ NB286_293.out _; (with_reducible repeat (first | refine blk_drewN ?_ _ | refine blk_drew ?_ | refine blk_alloc ?_ _)); refine blk_far ?_ NB286_293.out _; (with_reducible repeat (first | refine blk_drewN ?_ _ | refine blk_drew ?_ | refine blk_alloc ?_ _)); exact BK286.out⟩, ⟨by (with_reducible repeat (first | refine blk_drewN ?_ _ | refine blk_drew ?_ | refine blk_alloc ?_ _)); refine blk_put (cs := #[.bool t290, .string t291, .int .i64 0]) ?_ 2 _ rfl; (with_reducible repeat (first | refine blk_drewN ?_ _ | refine blk_drew ?_ | refine blk_alloc ?_ _)); refine blk_put (cs := #[.bool t290, .string (⟨#[]⟩ : ByteArray), .int .i64 0]) ?_ 1 _ rfl; (with_reducible repeat (first | refine blk_drewN ?_ _ | refine blk_drew ?_ | refine blk_alloc ?_ _)); refine blk_put (cs := #[.bool false, .string (⟨#[]⟩ : ByteArray), .int .i64 0]) ?_ 0 _ rfl; (with_reducible repeat (first | refine blk_drewN ?_ _ | refine blk_drew ?_ | refine blk_alloc ?_ _)); exact BK293.out⟩, (bl_ HB)⟩
       ·rw [if_neg c34] at H
        have c34b0 : decide (a4 ≤ 100) = false := decide_eq_false c34
        clear c34
        have H' := Aside0.mk H
        clear H
        go_wp2
        go_meet
        case rel => exact ⟨_, (false), eq_, H', ⟨by first | omega | exact Nat.le_refl _⟩, ⟨by (with_reducible repeat (first | refine blk_drewN ?_ _ | refine blk_drew ?_ | refine blk_alloc ?_ _)); refine blk_far ?_ NB281_293.out _; (with_reducible repeat (first | refine blk_drewN ?_ _ | refine blk_drew ?_ | refine blk_alloc ?_ _)); refine blk_far ?_ NB281_293.out _; (with_reducible repeat (first | refine blk_drewN ?_ _ | refine blk_drew ?_ | refine blk_alloc ?_ _)); refine blk_far ?_ NB281_293.out _; (with_reducible repeat (first | refine blk_drewN ?_ _ | refine blk_drew ?_ | refine blk_alloc ?_ _)); exact BK281.out⟩, ⟨by (with_reducible repeat (first | refine blk_drewN ?_ _ | refine blk_drew ?_ | refine blk_alloc ?_ _)); refine blk_far ?_ NB286_293.out _; (with_reducible repeat (first | refine blk_drewN ?_ _ | refine blk_drew ?_ | refine blk_alloc ?_ _)); refine blk_far ?_ NB286_293.out _; (with_reducible repeat (first | refine blk_drewN ?_ _ | refine blk_drew ?_ | refine blk_alloc ?_ _)); refine blk_far ?_ NB286_293.out _; (with_reducible repeat (first | refine blk_drewN ?_ _ | refine blk_drew ?_ | refine blk_alloc ?_ _)); exact BK286.out⟩, ⟨by (with_reducible repeat (first | refine blk_drewN ?_ _ | refine blk_drew ?_ | refine blk_alloc ?_ _)); refine blk_put (cs := #[.bool t290, .string t291, .int .i64 0]) ?_ 2 _ rfl; (with_reducible repeat (first | refine blk_drewN ?_ _ | refine blk_drew ?_ | refine blk_alloc ?_ _)); refine blk_put (cs := #[.bool t290, .string (⟨#[]⟩ : ByteArray), .int .i64 0]) ?_ 1 _ rfl; (with_reducible repeat (first | refine blk_drewN ?_ _ | refine blk_drew ?_ | refine blk_alloc ?_ _)); refine blk_put (cs := #[.bool false, .string (⟨#[]⟩ : ByteArray), .int .i64 0]) ?_ 0 _ rfl; (with_reducible repeat (first | refine blk_drewN ?_ _ | refine blk_drew ?_ | refine blk_alloc ?_ _)); exact BK293.out⟩, (bl_ HB)⟩
      ·rw [if_neg c33] at H
       have c33b0 : decide (0 ≤ a4) = false := decide_eq_false c33
       clear c33
       have H' := Aside0.mk H
       clear H
       go_wp2
       go_meet
       case rel => exact ⟨_, (false), eq_, H', ⟨by first | omega | exact Nat.le_refl _⟩, ⟨by (with_reducible repeat (first | refine blk_drewN ?_ _ | refine blk_drew ?_ | refine blk_alloc ?_ _)); refine blk_far ?_ NB281_293.out _; (with_reducible repeat (first | refine blk_drewN ?_ _ | refine blk_drew ?_ | refine blk_alloc ?_ _)); refine blk_far ?_ NB281_293.out _; (with_reducible repeat (first | refine blk_drewN ?_ _ | refine blk_drew ?_ | refine blk_alloc ?_ _)); refine blk_far ?_ NB281_293.out _; (with_reducible repeat (first | refine blk_drewN ?_ _ | refine blk_drew ?_ | refine blk_alloc ?_ _)); exact BK281.out⟩, ⟨by (with_reducible repeat (first | refine blk_drewN ?_ _ | refine blk_drew ?_ | refine blk_alloc ?_ _)); refine blk_far ?_ NB286_293.out _; (with_reducible repeat (first | refine blk_drewN ?_ _ | refine blk_drew ?_ | refine blk_alloc ?_ _)); refine blk_far ?_ NB286_293.out _; (with_reducible repeat (first | refine blk_drewN ?_ _ | refine blk_drew ?_ | refine blk_alloc ?_ _)); refine blk_far ?_ NB286_293.out _; (with_reducible repeat (first | refine blk_drewN ?_ _ | refine blk_drew ?_ | refine blk_alloc ?_ _)); exact BK286.out⟩, ⟨by (with_reducible repeat (first | refine blk_drewN ?_ _ | refine blk_drew ?_ | refine blk_alloc ?_ _)); refine blk_put (cs := #[.bool t290, .string t291, .int .i64 0]) ?_ 2 _ rfl; (with_reducible repeat (first | refine blk_drewN ?_ _ | refine blk_drew ?_ | refine blk_alloc ?_ _)); refine blk_put (cs := #[.bool t290, .string (⟨#[]⟩ : ByteArray), .int .i64 0]) ?_ 1 _ rfl; (with_reducible repeat (first | refine blk_drewN ?_ _ | refine blk_drew ?_ | refine blk_alloc ?_ _)); refine blk_put (cs := #[.bool false, .string (⟨#[]⟩ : ByteArray), .int .i64 0]) ?_ 0 _ rfl; (with_reducible repeat (first | refine blk_drewN ?_ _ | refine blk_drew ?_ | refine blk_alloc ?_ _)); exact BK293.out⟩, (bl_ HB)⟩
     ·rw [if_neg c32] at H
      have c32b0 : decide (a3 ≤ 6) = false := decide_eq_false c32
      clear c32
      have H' := Aside0.mk H
      clear H
      go_wp2
      go_meet
      case rel => exact ⟨_, (false), eq_, H', ⟨by first | omega | exact Nat.le_refl _⟩, ⟨by (with_reducible repeat (first | refine blk_drewN ?_ _ | refine blk_drew ?_ | refine blk_alloc ?_ _)); refine blk_far ?_ NB281_293.out _; (with_reducible repeat (first | refine blk_drewN ?_ _ | refine blk_drew ?_ | refine blk_alloc ?_ _)); refine blk_far ?_ NB281_293.out _; (with_reducible repeat (first | refine blk_drewN ?_ _ | refine blk_drew ?_ | refine blk_alloc ?_ _)); refine blk_far ?_ NB281_293.out _; (with_reducible repeat (first | refine blk_drewN ?_ _ | refine blk_drew ?_ | refine blk_alloc ?_ _)); exact BK281.out⟩, ⟨by (with_reducible repeat (first | refine blk_drewN ?_ _ | refine blk_drew ?_ | refine blk_alloc ?_ _)); refine blk_far ?_ NB286_293.out _; (with_reducible repeat (first | refine blk_drewN ?_ _ | refine blk_drew ?_ | refine blk_alloc ?_ _)); refine blk_far ?_ NB286_293.out _; (with_reducible repeat (first | refine blk_drewN ?_ _ | refine blk_drew ?_ | refine blk_alloc ?_ _)); refine blk_far ?_ NB286_293.out _; (with_reducible repeat (first | refine blk_drewN ?_ _ | refine blk_drew ?_ | refine blk_alloc ?_ _)); exact BK286.out⟩, ⟨by (with_reducible repeat (first | refine blk_drewN ?_ _ | refine blk_drew ?_ | refine blk_alloc ?_ _)); refine blk_put (cs := #[.bool t290, .string t291, .int .i64 0]) ?_ 2 _ rfl; (with_reducible repeat (first | refine blk_drewN ?_ _ | refine blk_drew ?_ | refine blk_alloc ?_ _)); refine blk_put (cs := #[.bool t290, .string (⟨#[]⟩ : ByteArray), .int .i64 0]) ?_ 1 _ rfl; (with_reducible repeat (first | refine blk_drewN ?_ _ | refine blk_drew ?_ | refine blk_alloc ?_ _)); refine blk_put (cs := #[.bool false, .string (⟨#[]⟩ : ByteArray), .int .i64 0]) ?_ 0 _ rfl; (with_reducible repeat (first | refine blk_drewN ?_ _ | refine blk_drew ?_ | refine blk_alloc ?_ _)); exact BK293.out⟩, (bl_ HB)⟩
    ·rw [if_neg c31] at H
     have c31b0 : decide (0 ≤ a3) = false := decide_eq_false c31
     clear c31
     (first | rw [c31b0] | (simp only [i64_w, i32_w]; rw [c31b0]) | skip)
     have H' := Aside0.mk H
     clear H
     go_wp2
     go_meet
     case rel => exact ⟨_, (false), eq_, H', ⟨by first | omega | exact Nat.le_refl _⟩, ⟨by (with_reducible repeat (first | refine blk_drewN ?_ _ | refine blk_drew ?_ | refine blk_alloc ?_ _)); refine blk_far ?_ NB281_293.out _; (with_reducible repeat (first | refine blk_drewN ?_ _ | refine blk_drew ?_ | refine blk_alloc ?_ _)); refine blk_far ?_ NB281_293.out _; (with_reducible repeat (first | refine blk_drewN ?_ _ | refine blk_drew ?_ | refine blk_alloc ?_ _)); refine blk_far ?_ NB281_293.out _; (with_reducible repeat (first | refine blk_drewN ?_ _ | refine blk_drew ?_ | refine blk_alloc ?_ _)); exact BK281.out⟩, ⟨by (with_reducible repeat (first | refine blk_drewN ?_ _ | refine blk_drew ?_ | refine blk_alloc ?_ _)); refine blk_far ?_ NB286_293.out _; (with_reducible repeat (first | refine blk_drewN ?_ _ | refine blk_drew ?_ | refine blk_alloc ?_ _)); refine blk_far ?_ NB286_293.out _; (with_reducible repeat (first | refine blk_drewN ?_ _ | refine blk_drew ?_ | refine blk_alloc ?_ _)); refine blk_far ?_ NB286_293.out _; (with_reducible repeat (first | refine blk_drewN ?_ _ | refine blk_drew ?_ | refine blk_alloc ?_ _)); exact BK286.out⟩, ⟨by (with_reducible repeat (first | refine blk_drewN ?_ _ | refine blk_drew ?_ | refine blk_alloc ?_ _)); refine blk_put (cs := #[.bool t290, .string t291, .int .i64 0]) ?_ 2 _ rfl; (with_reducible repeat (first | refine blk_drewN ?_ _ | refine blk_drew ?_ | refine blk_alloc ?_ _)); refine blk_put (cs := #[.bool t290, .string (⟨#[]⟩ : ByteArray), .int .i64 0]) ?_ 1 _ rfl; (with_reducible repeat (first | refine blk_drewN ?_ _ | refine blk_drew ?_ | refine blk_alloc ?_ _)); refine blk_put (cs := #[.bool false, .string (⟨#[]⟩ : ByteArray), .int .i64 0]) ?_ 0 _ rfl; (with_reducible repeat (first | refine blk_drewN ?_ _ | refine blk_drew ?_ | refine blk_alloc ?_ _)); exact BK293.out⟩, (bl_ HB)⟩
   case rest =>
    clear HC16
    try clear c1
    try clear c2
    try clear p2
    try clear c3
    try clear c5
    try clear p6
    try clear c8
    try clear c9
    try clear c9b0
    try clear c9b1
    try clear c10
    try clear c22
    try clear c28
    try clear c29
    try clear c31
    try clear c31b0
    try clear c32
    try clear c32b0
    try clear c33
    try clear c33b0
    try clear c34
    try clear c34b0
    try clear c35
    try clear c35b0
    try clear hcz12_0
    try clear hcz12_1
    try clear hcz12_2
    try clear hcz19_0
    try clear hcz19_1
    try clear hcz19_2
    try clear hcz23_0
    try clear hcz23_1
    try clear hcz23_2
    try clear hcz23_3
    try clear hcz23_4
    try clear hcz23_5
    try clear hcz23_6
    try clear hcz23_7
    try clear hcz24_0
    try clear hcz24_1
    try clear hcz24_2
    try clear hcz30_0
    try clear hcz30_1
    try clear hcz30_2
    try clear hfz12_0
    try clear hfz12_1
    try clear hfz12_2
    try clear hfz19_0
    try clear hfz19_1
    try clear hfz19_2
    try clear hfz23_0
    try clear hfz23_1
    try clear hfz23_2
    try clear hfz23_3
    try clear hfz23_4
    try clear hfz23_5
    try clear hfz23_6
    try clear hfz23_7
    try clear hfz24_0
    try clear hfz24_1
    try clear hfz24_2
    try clear hfz30_0
    try clear hfz30_1
    try clear hfz30_2
    obtain ⟨kq, x15_15, rfl, HA, HJ15, BK281, BK286, BK293, HB⟩ := hcut
    cases kq with
    | zero => exact absurd HA.out (by simp [florinlaw04_ShowValid.j0])
    | succ kj15 =>
     have H := HA.out
     clear HA
     simp only [florinlaw04_ShowValid.j0] at H
     have HC36 := Aside0.mk H
     clear H
     go_upto_block 0 with (fail)
     go_cut [15] (fun v15 wc => ∃ (kq : Nat) (x15_35 : Bool), v15 = .bool x15_35 ∧ Aside0 (florinlaw04_ShowValid.j1 kq x15_35 a0 a1 a2 t283 t284 t285 a3 a4 = some r) ∧ Aside0 (kq ≤ kj15) ∧ Aside0 (wc.heap[gb281]? = some (.cells #[.bool a5_0, (.slice A5_1 l5_1.length c5_1), .int .i64 a5_2] 24 (0, 0))) ∧ Aside0 (wc.heap[gb286]? = some (.cells #[.int .i64 a0, .int .i64 a1, .int .i64 a2, .bool t283, .string t284, .int .i64 t285, .int .i64 a3, .int .i64 a4] 32 (0, 0))) ∧ Aside0 (wc.heap[gb293]? = some (.cells #[.bool t290, .string t291, .int .i64 t292] 29 (0, 0))) ∧ Aside0 (Below w.heap.size w wc))
     case first =>
      have H := HC36.out
      clear HC36
      by_cases c37 : a0 = 0
      ·rw [if_pos c37] at H
       have c37b0 : (a0 == 0) = true := beq_iff_eq.mpr c37
       have c37b1 : (a0 != 0) = false := bne_eq_false_iff_eq.mpr c37
       clear c37
       (first | rw [c37b0] | (simp only [i64_w, i32_w]; rw [c37b0]) | skip)
       by_cases c38 : x15_15 = true
       ·subst c38
        have H1 : (if a2 ≥ a1 then (florinlaw04_ShowValid.j1 kj15 (decide (a2 ≤ 100)) a0 a1 a2 t283 t284 t285 a3 a4) else (florinlaw04_ShowValid.j1 kj15 false a0 a1 a2 t283 t284 t285 a3 a4)) = some r := by rw [if_pos rfl] at H; exact H
        clear H
        have H := H1
        clear H1
        by_cases c39 : a2 ≥ a1
        ·rw [if_pos c39] at H
         have c39b0 : decide (a1 ≤ a2) = true := decide_eq_true c39
         clear c39
         have H' := Aside0.mk H
         clear H
         go_wp2
         go_meet
         case rel => exact ⟨_, (decide (a2 ≤ 100)), eq_, H', ⟨by have := HJ15.out; first | omega | exact Nat.le_refl _⟩, (bk_ BK281), (bk_ BK286), (bk_ BK293), (bl_ HB)⟩
        ·rw [if_neg c39] at H
         have c39b0 : decide (a1 ≤ a2) = false := decide_eq_false c39
         clear c39
         have H' := Aside0.mk H
         clear H
         go_wp2
         go_meet
         case rel => exact ⟨_, (false), eq_, H', ⟨by have := HJ15.out; first | omega | exact Nat.le_refl _⟩, (bk_ BK281), (bk_ BK286), (bk_ BK293), (bl_ HB)⟩
       ·replace c38 := Bool.eq_false_iff.mpr c38
        subst c38
        have H1 : (florinlaw04_ShowValid.j1 kj15 false a0 a1 a2 t283 t284 t285 a3 a4) = some r := by rw [if_neg (show ¬ (false = true) by decide)] at H; exact H
        clear H
        have H := H1
        clear H1
        have H' := Aside0.mk H
        clear H
        go_wp2
        go_meet
        case rel => exact ⟨_, (false), eq_, H', ⟨by have := HJ15.out; first | omega | exact Nat.le_refl _⟩, (bk_ BK281), (bk_ BK286), (bk_ BK293), (bl_ HB)⟩
      ·rw [if_neg c37] at H
       have c37b0 : (a0 == 0) = false := beq_eq_false_iff_ne.mpr c37
       have c37b1 : (a0 != 0) = true := bne_iff_ne.mpr c37
       (first | rw [c37b0] | (simp only [i64_w, i32_w]; rw [c37b0]) | skip)
       by_cases c40 : a0 = 1
       ·rw [if_pos c40] at H
        have c40b0 : (a0 == 1) = true := beq_iff_eq.mpr c40
        have c40b1 : (a0 != 1) = false := bne_eq_false_iff_eq.mpr c40
        clear c40
        by_cases c41 : x15_15 = true
        ·subst c41
         have H1 : (if a1 ≥ 1 then (if a2 ≥ a1 then (florinlaw04_ShowValid.j1 kj15 (decide (a2 ≤ 100)) a0 a1 a2 t283 t284 t285 a3 a4) else (florinlaw04_ShowValid.j1 kj15 false a0 a1 a2 t283 t284 t285 a3 a4)) else (florinlaw04_ShowValid.j1 kj15 false a0 a1 a2 t283 t284 t285 a3 a4)) = some r := by rw [if_pos rfl] at H; exact H
         clear H
         have H := H1
         clear H1
         by_cases c42 : a1 ≥ 1
         ·rw [if_pos c42] at H
          have c42b0 : decide (1 ≤ a1) = true := decide_eq_true c42
          clear c42
          by_cases c43 : a2 ≥ a1
          ·rw [if_pos c43] at H
           have c43b0 : decide (a1 ≤ a2) = true := decide_eq_true c43
           clear c43
           have H' := Aside0.mk H
           clear H
           go_wp2
           go_meet
           case rel => exact ⟨_, (decide (a2 ≤ 100)), eq_, H', ⟨by have := HJ15.out; first | omega | exact Nat.le_refl _⟩, (bk_ BK281), (bk_ BK286), (bk_ BK293), (bl_ HB)⟩
          ·rw [if_neg c43] at H
           have c43b0 : decide (a1 ≤ a2) = false := decide_eq_false c43
           clear c43
           have H' := Aside0.mk H
           clear H
           go_wp2
           go_meet
           case rel => exact ⟨_, (false), eq_, H', ⟨by have := HJ15.out; first | omega | exact Nat.le_refl _⟩, (bk_ BK281), (bk_ BK286), (bk_ BK293), (bl_ HB)⟩
         ·rw [if_neg c42] at H
          have c42b0 : decide (1 ≤ a1) = false := decide_eq_false c42
          clear c42
          have H' := Aside0.mk H
          clear H
          go_wp2
          go_meet
          case rel => exact ⟨_, (false), eq_, H', ⟨by have := HJ15.out; first | omega | exact Nat.le_refl _⟩, (bk_ BK281), (bk_ BK286), (bk_ BK293), (bl_ HB)⟩
        ·replace c41 := Bool.eq_false_iff.mpr c41
         subst c41
         have H1 : (florinlaw04_ShowValid.j1 kj15 false a0 a1 a2 t283 t284 t285 a3 a4) = some r := by rw [if_neg (show ¬ (false = true) by decide)] at H; exact H
         clear H
         have H := H1
         clear H1
         have H' := Aside0.mk H
         clear H
         go_wp2
         go_meet
         case rel => exact ⟨_, (false), eq_, H', ⟨by have := HJ15.out; first | omega | exact Nat.le_refl _⟩, (bk_ BK281), (bk_ BK286), (bk_ BK293), (bl_ HB)⟩
       ·rw [if_neg c40] at H
        have c40b0 : (a0 == 1) = false := beq_eq_false_iff_ne.mpr c40
        have c40b1 : (a0 != 1) = true := bne_iff_ne.mpr c40
        by_cases c44 : a0 = 2
        ·rw [if_pos c44] at H
         have c44b0 : (a0 == 2) = true := beq_iff_eq.mpr c44
         have c44b1 : (a0 != 2) = false := bne_eq_false_iff_eq.mpr c44
         clear c44
         by_cases c45 : x15_15 = true
         ·subst c45
          have H1 : (if t290 = true then (florinlaw04_ShowValid.j1 kj15 false a0 a1 a2 t283 t284 t285 a3 a4) else (if (t291.size : Int) ≥ 1 then (if (t291.size : Int) ≤ 9 then (if t292 ≥ (-100) then (florinlaw04_ShowValid.j1 kj15 (decide (t292 ≤ 100)) a0 a1 a2 t283 t284 t285 a3 a4) else (florinlaw04_ShowValid.j1 kj15 false a0 a1 a2 t283 t284 t285 a3 a4)) else (florinlaw04_ShowValid.j1 kj15 false a0 a1 a2 t283 t284 t285 a3 a4)) else (florinlaw04_ShowValid.j1 kj15 false a0 a1 a2 t283 t284 t285 a3 a4))) = some r := by rw [if_pos rfl] at H; exact H
          clear H
          have H := H1
          clear H1
          by_cases c46 : t290 = true
          ·subst c46
           have H1 : (florinlaw04_ShowValid.j1 kj15 false a0 a1 a2 t283 t284 t285 a3 a4) = some r := by rw [if_pos rfl] at H; exact H
           clear H
           have H := H1
           clear H1
           have H' := Aside0.mk H
           clear H
           have hnb47 := NB293_281.out
           have hnc47 := NB281_293.out
           have hnb48 := NB293_286.out
           have hnc48 := NB286_293.out
           obtain ⟨hcz49_0, hcz49_1, hcz49_2, hfz49_0, hfz49_1, hfz49_2⟩ := bo3_ BK293
           go_wp2
           go_meet
           case rel => exact ⟨_, (false), eq_, H', ⟨by have := HJ15.out; first | omega | exact Nat.le_refl _⟩, (bk_ BK281), (bk_ BK286), (bk_ BK293), (bl_ HB)⟩
          ·replace c46 := Bool.eq_false_iff.mpr c46
           subst c46
           have H1 : (if (t291.size : Int) ≥ 1 then (if (t291.size : Int) ≤ 9 then (if t292 ≥ (-100) then (florinlaw04_ShowValid.j1 kj15 (decide (t292 ≤ 100)) a0 a1 a2 t283 t284 t285 a3 a4) else (florinlaw04_ShowValid.j1 kj15 false a0 a1 a2 t283 t284 t285 a3 a4)) else (florinlaw04_ShowValid.j1 kj15 false a0 a1 a2 t283 t284 t285 a3 a4)) else (florinlaw04_ShowValid.j1 kj15 false a0 a1 a2 t283 t284 t285 a3 a4)) = some r := by rw [if_neg (show ¬ (false = true) by decide)] at H; exact H
           clear H
           have H := H1
           clear H1
           by_cases c50 : (t291.size : Int) ≥ 1
           ·rw [if_pos c50] at H
            have c50b0 : decide (1 ≤ (t291.size : Int)) = true := decide_eq_true c50
            have c50b1 : decide (1 ≤ t291.size) = true := decide_eq_true (by omega)
            clear c50
            by_cases c51 : (t291.size : Int) ≤ 9
            ·rw [if_pos c51] at H
             have c51b0 : decide ((t291.size : Int) ≤ 9) = true := decide_eq_true c51
             have c51b1 : decide (t291.size ≤ 9) = true := decide_eq_true (by omega)
             clear c51
             by_cases c52 : t292 ≥ (-100)
             ·rw [if_pos c52] at H
              have c52b0 : decide ((-100) ≤ t292) = true := decide_eq_true c52
              clear c52
              have H' := Aside0.mk H
              clear H
              have hnb53 := NB293_281.out
              have hnc53 := NB281_293.out
              have hnb54 := NB293_286.out
              have hnc54 := NB286_293.out
              obtain ⟨hcz55_0, hcz55_1, hcz55_2, hfz55_0, hfz55_1, hfz55_2⟩ := bo3_ BK293
              go_wp2
              go_meet
              case rel => exact ⟨_, (decide (t292 ≤ 100)), eq_, H', ⟨by have := HJ15.out; first | omega | exact Nat.le_refl _⟩, (bk_ BK281), (bk_ BK286), (bk_ BK293), (bl_ HB)⟩
             ·rw [if_neg c52] at H
              have c52b0 : decide ((-100) ≤ t292) = false := decide_eq_false c52
              clear c52
              have H' := Aside0.mk H
              clear H
              have hnb56 := NB293_281.out
              have hnc56 := NB281_293.out
              have hnb57 := NB293_286.out
              have hnc57 := NB286_293.out
              obtain ⟨hcz58_0, hcz58_1, hcz58_2, hfz58_0, hfz58_1, hfz58_2⟩ := bo3_ BK293
              go_wp2
              go_meet
              case rel => exact ⟨_, (false), eq_, H', ⟨by have := HJ15.out; first | omega | exact Nat.le_refl _⟩, (bk_ BK281), (bk_ BK286), (bk_ BK293), (bl_ HB)⟩
            ·rw [if_neg c51] at H
             have c51b0 : decide ((t291.size : Int) ≤ 9) = false := decide_eq_false c51
             have c51b1 : decide (t291.size ≤ 9) = false := decide_eq_false (by omega)
             clear c51
             have H' := Aside0.mk H
             clear H
             have hnb59 := NB293_281.out
             have hnc59 := NB281_293.out
             have hnb60 := NB293_286.out
             have hnc60 := NB286_293.out
             obtain ⟨hcz61_0, hcz61_1, hcz61_2, hfz61_0, hfz61_1, hfz61_2⟩ := bo3_ BK293
             go_wp2
             go_meet
             case rel => exact ⟨_, (false), eq_, H', ⟨by have := HJ15.out; first | omega | exact Nat.le_refl _⟩, (bk_ BK281), (bk_ BK286), (bk_ BK293), (bl_ HB)⟩
           ·rw [if_neg c50] at H
            have c50b0 : decide (1 ≤ (t291.size : Int)) = false := decide_eq_false c50
            have c50b1 : decide (1 ≤ t291.size) = false := decide_eq_false (by omega)
            clear c50
            have H' := Aside0.mk H
            clear H
            have hnb62 := NB293_281.out
            have hnc62 := NB281_293.out
            have hnb63 := NB293_286.out
            have hnc63 := NB286_293.out
            obtain ⟨hcz64_0, hcz64_1, hcz64_2, hfz64_0, hfz64_1, hfz64_2⟩ := bo3_ BK293
            go_wp2
            go_meet
            case rel => exact ⟨_, (false), eq_, H', ⟨by have := HJ15.out; first | omega | exact Nat.le_refl _⟩, (bk_ BK281), (bk_ BK286), (bk_ BK293), (bl_ HB)⟩
         ·replace c45 := Bool.eq_false_iff.mpr c45
          subst c45
          have H1 : (florinlaw04_ShowValid.j1 kj15 false a0 a1 a2 t283 t284 t285 a3 a4) = some r := by rw [if_neg (show ¬ (false = true) by decide)] at H; exact H
          clear H
          have H := H1
          clear H1
          have H' := Aside0.mk H
          clear H
          go_wp2
          go_meet
          case rel => exact ⟨_, (false), eq_, H', ⟨by have := HJ15.out; first | omega | exact Nat.le_refl _⟩, (bk_ BK281), (bk_ BK286), (bk_ BK293), (bl_ HB)⟩
        ·rw [if_neg c44] at H
         have c44b0 : (a0 == 2) = false := beq_eq_false_iff_ne.mpr c44
         have c44b1 : (a0 != 2) = true := bne_iff_ne.mpr c44
         have H' := Aside0.mk H
         clear H
         go_wp2
         go_meet
         case rel => exact ⟨_, (false), eq_, H', ⟨by have := HJ15.out; first | omega | exact Nat.le_refl _⟩, (bk_ BK281), (bk_ BK286), (bk_ BK293), (bl_ HB)⟩
     case rest =>
      clear HC36
      try clear c1
      try clear c2
      try clear p2
      try clear c3
      try clear c4
      try clear c5
      try clear c6
      try clear p6
      try clear c8
      try clear c9
      try clear c9b0
      try clear c9b1
      try clear c10
      try clear c22
      try clear c28
      try clear c29
      try clear c31
      try clear c31b0
      try clear c32
      try clear c32b0
      try clear c33
      try clear c33b0
      try clear c34
      try clear c34b0
      try clear c35
      try clear c35b0
      try clear c37
      try clear c37b0
      try clear c37b1
      try clear c38
      try clear c39
      try clear c39b0
      try clear c40
      try clear c40b0
      try clear c40b1
      try clear c41
      try clear c42
      try clear c42b0
      try clear c43
      try clear c43b0
      try clear c44
      try clear c44b0
      try clear c44b1
      try clear c45
      try clear c46
      try clear c47
      try clear c48
      try clear c50
      try clear c50b0
      try clear c50b1
      try clear c51
      try clear c51b0
      try clear c51b1
      try clear c52
      try clear c52b0
      try clear c53
      try clear c54
      try clear c56
      try clear c57
      try clear c59
      try clear c60
      try clear c62
      try clear c63
      try clear p64
      try clear hcz12_0
      try clear hcz12_1
      try clear hcz12_2
      try clear hcz19_0
      try clear hcz19_1
      try clear hcz19_2
      try clear hcz23_0
      try clear hcz23_1
      try clear hcz23_2
      try clear hcz23_3
      try clear hcz23_4
      try clear hcz23_5
      try clear hcz23_6
      try clear hcz23_7
      try clear hcz24_0
      try clear hcz24_1
      try clear hcz24_2
      try clear hcz30_0
      try clear hcz30_1
      try clear hcz30_2
      try clear hcz49_0
      try clear hcz49_1
      try clear hcz49_2
      try clear hcz55_0
      try clear hcz55_1
      try clear hcz55_2
      try clear hcz58_0
      try clear hcz58_1
      try clear hcz58_2
      try clear hcz61_0
      try clear hcz61_1
      try clear hcz61_2
      try clear hcz64_0
      try clear hcz64_1
      try clear hcz64_2
      try clear hfz12_0
      try clear hfz12_1
      try clear hfz12_2
      try clear hfz19_0
      try clear hfz19_1
      try clear hfz19_2
      try clear hfz23_0
      try clear hfz23_1
      try clear hfz23_2
      try clear hfz23_3
      try clear hfz23_4
      try clear hfz23_5
      try clear hfz23_6
      try clear hfz23_7
      try clear hfz24_0
      try clear hfz24_1
      try clear hfz24_2
      try clear hfz30_0
      try clear hfz30_1
      try clear hfz30_2
      try clear hfz49_0
      try clear hfz49_1
      try clear hfz49_2
      try clear hfz55_0
      try clear hfz55_1
      try clear hfz55_2
      try clear hfz58_0
      try clear hfz58_1
      try clear hfz58_2
      try clear hfz61_0
      try clear hfz61_1
      try clear hfz61_2
      try clear hfz64_0
      try clear hfz64_1
      try clear hfz64_2
      try clear p2
      try clear p6
      obtain ⟨kq, x15_35, rfl, HA, HJ35, BK281, BK286, BK293, HB⟩ := hcut
      cases kq with
      | zero => exact absurd HA.out (by simp [florinlaw04_ShowValid.j1])
      | succ kj35 =>
       have H := HA.out
       clear HA
       simp only [florinlaw04_ShowValid.j1] at H
       replace H := Option.bind_eq_some_iff.mp H
       obtain ⟨t294, A650, H⟩ := H
       replace H : (if (t294 != x15_35) = true then (some false) else ((dec_Made.f kj35 false (⟨#[55]⟩ : ByteArray) 0).bind fun bt295 => ((show_Prec_Apply.f kj35 a0 a1 a2 t283 t284 t285 a3 a4 bt295.1 bt295.2.1 bt295.2.2).bind fun bt299 => (if x15_35 = true then (some (bt299.2.2.2 == 0)) else (if bt299.2.2.2 = 3 then (if (!bt299.1 && (bt299.2.1.toList == ([] : List UInt8) && (bt299.2.2.1.toList == ([] : List UInt8)))) = true then ((show_Prec_Round.f kj35 a0 a1 a2 t283 t284 t285 a3 a4 bt295.1 bt295.2.1 bt295.2.2).bind fun bt304 => (some (!bt304.1 && (bt304.2.1.toList == ([] : List UInt8) && (bt304.2.2 == 0))))) else (some false)) else (some false)))))) = some r := H
       have A65 := Aside0.mk A650
       clear A650
       by_cases c66 : (t294 != x15_35) = true
       ·rw [if_pos c66] at H
        have c66b0 : (t294 != x15_35) = true := c66
        (try (have c66b1 : decide (t294 = x15_35) = false := by simpa using c66))
        (try (have c66b2 : (t294 == x15_35) = false := by simpa using c66))
        (try (have c66b3 : ¬ (t294 = x15_35) := by simpa using c66))
        clear c66
        obtain rfl := Option.some.inj H
        have hnb67 := NB286_281.out
        have hnc67 := NB281_286.out
        have hnb68 := NB286_293.out
        have hnc68 := NB293_286.out
        obtain ⟨hcz69_0, hcz69_1, hcz69_2, hcz69_3, hcz69_4, hcz69_5, hcz69_6, hcz69_7, hfz69_0, hfz69_1, hfz69_2, hfz69_3, hfz69_4, hfz69_5, hfz69_6, hfz69_7⟩ := bo8_ BK286
        go_wp2_with (first | ((with_reducible refine gate_callee (f := 11) rfl ?_); refine gl_ (some 118) Tryd.func11 #[.agg #[.int .i64 a0, .int .i64 a1, .int .i64 a2, .bool t283, .string t284, .int .i64 t285, .int .i64 a3, .int .i64 a4]] ?_; (with_reducible refine (show_Prec_Valid.calls kj35 a0 a1 a2 t283 t284 t285 a3 a4 t294 _ A65.out).mono ?_); rintro e w70 ⟨rfl, hb⟩; refine ⟨_, rfl, ?_⟩; replace BK281 := bb_ BK281 hb; replace BK286 := bb_ BK286 hb; replace BK293 := bb_ BK293 hb; replace HB := Aside0.mk (below_step (bl_ HB).out hb); (try clear hb); (try clear hb2); (try clear hk); (try clear hi)))
        go_ret
        exact ⟨ew_, (bl_ HB).out⟩
       ·rw [if_neg c66] at H
        have c66b0 : (t294 != x15_35) = false := by simpa using c66
        (try (have c66b1 : decide (t294 = x15_35) = true := by simpa using c66))
        (try (have c66b2 : (t294 == x15_35) = true := by simpa using c66))
        clear c66
        replace H := Option.bind_eq_some_iff.mp H
        obtain ⟨⟨t295, t296, t297⟩, A710, H⟩ := H
        replace H : ((show_Prec_Apply.f kj35 a0 a1 a2 t283 t284 t285 a3 a4 t295 t296 t297).bind fun bt299 => (if x15_35 = true then (some (bt299.2.2.2 == 0)) else (if bt299.2.2.2 = 3 then (if (!bt299.1 && (bt299.2.1.toList == ([] : List UInt8) && (bt299.2.2.1.toList == ([] : List UInt8)))) = true then ((show_Prec_Round.f kj35 a0 a1 a2 t283 t284 t285 a3 a4 t295 t296 t297).bind fun bt304 => (some (!bt304.1 && (bt304.2.1.toList == ([] : List UInt8) && (bt304.2.2 == 0))))) else (some false)) else (some false)))) = some r := H
        have A71 := Aside0.mk A710
        clear A710
        replace H := Option.bind_eq_some_iff.mp H
        obtain ⟨⟨t299, t300, t301, t302⟩, A720, H⟩ := H
        replace H : (if x15_35 = true then (some (t302 == 0)) else (if t302 = 3 then (if (!t299 && (t300.toList == ([] : List UInt8) && (t301.toList == ([] : List UInt8)))) = true then ((show_Prec_Round.f kj35 a0 a1 a2 t283 t284 t285 a3 a4 t295 t296 t297).bind fun bt304 => (some (!bt304.1 && (bt304.2.1.toList == ([] : List UInt8) && (bt304.2.2 == 0))))) else (some false)) else (some false))) = some r := H
        have A72 := Aside0.mk A720
        clear A720
        by_cases c73 : x15_35 = true
        ·subst c73
         have H1 : (some (t302 == 0)) = some r := by rw [if_pos rfl] at H; exact H
         clear H
         have H := H1
         clear H1
         obtain rfl := Option.some.inj H
         have hnb74 := NB286_281.out
         have hnc74 := NB281_286.out
         have hnb75 := NB286_293.out
         have hnc75 := NB293_286.out
         obtain ⟨hcz76_0, hcz76_1, hcz76_2, hcz76_3, hcz76_4, hcz76_5, hcz76_6, hcz76_7, hfz76_0, hfz76_1, hfz76_2, hfz76_3, hfz76_4, hfz76_5, hfz76_6, hfz76_7⟩ := bo8_ BK286
         go_wp2_with (first | ((with_reducible refine gate_callee (f := 11) rfl ?_); refine gl_ (some 118) Tryd.func11 #[.agg #[.int .i64 a0, .int .i64 a1, .int .i64 a2, .bool t283, .string t284, .int .i64 t285, .int .i64 a3, .int .i64 a4]] ?_; (with_reducible refine (show_Prec_Valid.calls kj35 a0 a1 a2 t283 t284 t285 a3 a4 t294 _ A65.out).mono ?_); rintro e w77 ⟨rfl, hb⟩; refine ⟨_, rfl, ?_⟩; replace BK281 := bb_ BK281 hb; replace BK286 := bb_ BK286 hb; replace BK293 := bb_ BK293 hb; replace HB := Aside0.mk (below_step (bl_ HB).out hb); (try clear hb); (try clear hb2); (try clear hk); (try clear hi)) | ((with_reducible refine gate_callee (f := 12) rfl ?_); refine gl_ (some 121) Tryd.func12 #[.bool false, .string (⟨#[55]⟩ : ByteArray), .int .i64 0] ?_; (with_reducible refine (dec_Made.calls kj35 false (⟨#[55]⟩ : ByteArray) 0 t295 t296 t297 _ A71.out).mono ?_); rintro e w78 ⟨rfl, hb⟩; refine ⟨_, rfl, ?_⟩; replace BK281 := bb_ BK281 hb; replace BK286 := bb_ BK286 hb; replace BK293 := bb_ BK293 hb; replace HB := Aside0.mk (below_step (bl_ HB).out hb); (try clear hb); (try clear hb2); (try clear hk); (try clear hi)) | ((with_reducible refine gate_dst (N := 16) rfl ?_); (try (refine gate_guard (by rfl) ?_; dsimp only)); refine be_ 16 #[.bool false, .string (⟨#[]⟩ : ByteArray), .int .i64 0] 29 ?_; intro gb298 hg w79 hbox hb; have BK298 := Aside0.mk (hbox); have GW298 := sz_ HB hg; have GE298 := sz_ HB hg; have NB281_298 := na_ BK281 hg; have NB298_281 := nb_ BK281 hg; have NB286_298 := na_ BK286 hg; have NB298_286 := nb_ BK286 hg; have NB293_298 := na_ BK293 hg; have NB298_293 := nb_ BK293 hg; replace BK281 := bb_ BK281 hb; replace BK286 := bb_ BK286 hb; replace BK293 := bb_ BK293 hb; replace HB := Aside0.mk (below_step (bl_ HB).out hb); clear hb hbox hg; have hnb80 := NB298_281.out; have hnc80 := NB281_298.out; have hnb81 := NB298_286.out; have hnc81 := NB286_298.out; have hnb82 := NB298_293.out; have hnc82 := NB293_298.out; obtain ⟨hcz83_0, hcz83_1, hcz83_2, hfz83_0, hfz83_1, hfz83_2⟩ := bo3_ BK298; obtain ⟨hcz84_0, hcz84_1, hcz84_2, hcz84_3, hcz84_4, hcz84_5, hcz84_6, hcz84_7, hfz84_0, hfz84_1, hfz84_2, hfz84_3, hfz84_4, hfz84_5, hfz84_6, hfz84_7⟩ := bo8_ BK286) | ((with_reducible refine gate_callee (f := 13) rfl ?_); refine gl_ (some 125) Tryd.func13 #[.agg #[.int .i64 a0, .int .i64 a1, .int .i64 a2, .bool t283, .string t284, .int .i64 t285, .int .i64 a3, .int .i64 a4], .agg #[.bool t295, .string t296, .int .i64 t297]] ?_; (with_reducible refine (show_Prec_Apply.calls kj35 a0 a1 a2 t283 t284 t285 a3 a4 t295 t296 t297 t299 t300 t301 t302 _ A72.out).mono ?_); rintro e w85 ⟨rfl, hb⟩; refine ⟨_, rfl, ?_⟩; have n0_ := Aside0.mk (blk_below (g := gb281) (o := .cells #[.bool a5_0, .slice A5_1 l5_1.length c5_1, .int .i64 a5_2] 24 (0, 0)) (by (with_reducible repeat (first | refine blk_drewN ?_ _ | refine blk_drew ?_ | refine blk_alloc ?_ _)); refine blk_far ?_ NB281_298.out _; (with_reducible repeat (first | refine blk_drewN ?_ _ | refine blk_drew ?_ | refine blk_alloc ?_ _)); refine blk_far ?_ NB281_298.out _; (with_reducible repeat (first | refine blk_drewN ?_ _ | refine blk_drew ?_ | refine blk_alloc ?_ _)); refine blk_far ?_ NB281_298.out _; (with_reducible repeat (first | refine blk_drewN ?_ _ | refine blk_drew ?_ | refine blk_alloc ?_ _)); exact BK281.out) hb); have n1_ := Aside0.mk (blk_below (g := gb286) (o := .cells #[.int .i64 a0, .int .i64 a1, .int .i64 a2, .bool t283, .string t284, .int .i64 t285, .int .i64 a3, .int .i64 a4] 32 (0, 0)) (by (with_reducible repeat (first | refine blk_drewN ?_ _ | refine blk_drew ?_ | refine blk_alloc ?_ _)); refine blk_far ?_ NB286_298.out _; (with_reducible repeat (first | refine blk_drewN ?_ _ | refine blk_drew ?_ | refine blk_alloc ?_ _)); refine blk_far ?_ NB286_298.out _; (with_reducible repeat (first | refine blk_drewN ?_ _ | refine blk_drew ?_ | refine blk_alloc ?_ _)); refine blk_far ?_ NB286_298.out _; (with_reducible repeat (first | refine blk_drewN ?_ _ | refine blk_drew ?_ | refine blk_alloc ?_ _)); exact BK286.out) hb); have n2_ := Aside0.mk (blk_below (g := gb293) (o := .cells #[.bool t290, .string t291, .int .i64 t292] 29 (0, 0)) (by (with_reducible repeat (first | refine blk_drewN ?_ _ | refine blk_drew ?_ | refine blk_alloc ?_ _)); refine blk_far ?_ NB293_298.out _; (with_reducible repeat (first | refine blk_drewN ?_ _ | refine blk_drew ?_ | refine blk_alloc ?_ _)); refine blk_far ?_ NB293_298.out _; (with_reducible repeat (first | refine blk_drewN ?_ _ | refine blk_drew ?_ | refine blk_alloc ?_ _)); refine blk_far ?_ NB293_298.out _; (with_reducible repeat (first | refine blk_drewN ?_ _ | refine blk_drew ?_ | refine blk_alloc ?_ _)); exact BK293.out) hb); have n3_ := Aside0.mk (blk_below (g := gb298) (o := .cells #[.bool t295, .string t296, .int .i64 t297] 29 (0, 0)) (by (with_reducible repeat (first | refine blk_drewN ?_ _ | refine blk_drew ?_ | refine blk_alloc ?_ _)); refine blk_put (cs := #[.bool t295, .string t296, .int .i64 0]) ?_ 2 _ rfl; (with_reducible repeat (first | refine blk_drewN ?_ _ | refine blk_drew ?_ | refine blk_alloc ?_ _)); refine blk_put (cs := #[.bool t295, .string (⟨#[]⟩ : ByteArray), .int .i64 0]) ?_ 1 _ rfl; (with_reducible repeat (first | refine blk_drewN ?_ _ | refine blk_drew ?_ | refine blk_alloc ?_ _)); refine blk_put (cs := #[.bool false, .string (⟨#[]⟩ : ByteArray), .int .i64 0]) ?_ 0 _ rfl; (with_reducible repeat (first | refine blk_drewN ?_ _ | refine blk_drew ?_ | refine blk_alloc ?_ _)); exact BK298.out) hb); have n4_ := Aside0.mk (below_step (bl_ HB).out hb); clear BK281; clear BK286; clear BK293; clear BK298; clear HB; have BK281 := n0_; have BK286 := n1_; have BK293 := n2_; have BK298 := n3_; have HB := n4_; clear n0_ n1_ n2_ n3_ n4_; (try clear hb); (try clear hb2); (try clear hk); (try clear hi)) | ((with_reducible refine gate_dst (N := 17) rfl ?_); (try (refine gate_guard (by rfl) ?_; dsimp only)); refine be_ 17 #[.bool false, .string (⟨#[]⟩ : ByteArray), .string (⟨#[]⟩ : ByteArray)] 35 ?_; intro gb303 hg w86 hbox hb; have BK303 := Aside0.mk (hbox); have GW303 := sz_ HB hg; have GE303 := sz_ HB hg; have NB281_303 := na_ BK281 hg; have NB303_281 := nb_ BK281 hg; have NB286_303 := na_ BK286 hg; have NB303_286 := nb_ BK286 hg; have NB293_303 := na_ BK293 hg; have NB303_293 := nb_ BK293 hg; have NB298_303 := na_ BK298 hg; have NB303_298 := nb_ BK298 hg; replace BK281 := bb_ BK281 hb; replace BK286 := bb_ BK286 hb; replace BK293 := bb_ BK293 hb; replace BK298 := bb_ BK298 hb; replace HB := Aside0.mk (below_step (bl_ HB).out hb); clear hb hbox hg; have hnb87 := NB303_281.out; have hnc87 := NB281_303.out; have hnb88 := NB303_286.out; have hnc88 := NB286_303.out; have hnb89 := NB303_293.out; have hnc89 := NB293_303.out; have hnb90 := NB303_298.out; have hnc90 := NB298_303.out; obtain ⟨hcz91_0, hcz91_1, hcz91_2, hfz91_0, hfz91_1, hfz91_2⟩ := bo3_ BK303))
         go_ret
         exact ⟨ew_, (bl_ HB).out⟩
        ·replace c73 := Bool.eq_false_iff.mpr c73
         subst c73
         have H1 : (if t302 = 3 then (if (!t299 && (t300.toList == ([] : List UInt8) && (t301.toList == ([] : List UInt8)))) = true then ((show_Prec_Round.f kj35 a0 a1 a2 t283 t284 t285 a3 a4 t295 t296 t297).bind fun bt304 => (some (!bt304.1 && (bt304.2.1.toList == ([] : List UInt8) && (bt304.2.2 == 0))))) else (some false)) else (some false)) = some r := by rw [if_neg (show ¬ (false = true) by decide)] at H; exact H
         clear H
         have H := H1
         clear H1
         by_cases c92 : t302 = 3
         ·rw [if_pos c92] at H
          have c92b0 : (t302 == 3) = true := beq_iff_eq.mpr c92
          have c92b1 : (t302 != 3) = false := bne_eq_false_iff_eq.mpr c92
          clear c92
          by_cases c93 : (!t299 && (t300.toList == ([] : List UInt8) && (t301.toList == ([] : List UInt8)))) = true
          ·rw [if_pos c93] at H
           have c93b0 : (!t299 && (t300.toList == ([] : List UInt8) && (t301.toList == ([] : List UInt8)))) = true := c93
           (try (have c93b1 : (!t299 && (t300.toList.isEmpty && (t301.toList.isEmpty))) = true := by have z_ := c93; simp only [show ∀ l_ : List UInt8, (l_ == ([] : List UInt8)) = l_.isEmpty from fun l_ => by cases l_ <;> rfl] at z_; first | exact z_ | exact Bool.eq_false_iff.mpr z_))
           clear c93
           replace H := Option.bind_eq_some_iff.mp H
           obtain ⟨⟨t304, t305, t306⟩, A940, H⟩ := H
           replace H : (some (!t304 && (t305.toList == ([] : List UInt8) && (t306 == 0)))) = some r := H
           have A94 := Aside0.mk A940
           clear A940
           obtain rfl := Option.some.inj H
           have hnb95 := NB286_281.out
           have hnc95 := NB281_286.out
           have hnb96 := NB286_293.out
           have hnc96 := NB293_286.out
           obtain ⟨hcz97_0, hcz97_1, hcz97_2, hcz97_3, hcz97_4, hcz97_5, hcz97_6, hcz97_7, hfz97_0, hfz97_1, hfz97_2, hfz97_3, hfz97_4, hfz97_5, hfz97_6, hfz97_7⟩ := bo8_ BK286
           go_wp2_with (first | ((with_reducible refine gate_callee (f := 11) rfl ?_); refine gl_ (some 118) Tryd.func11 #[.agg #[.int .i64 a0, .int .i64 a1, .int .i64 a2, .bool t283, .string t284, .int .i64 t285, .int .i64 a3, .int .i64 a4]] ?_; (with_reducible refine (show_Prec_Valid.calls kj35 a0 a1 a2 t283 t284 t285 a3 a4 t294 _ A65.out).mono ?_); rintro e w98 ⟨rfl, hb⟩; refine ⟨_, rfl, ?_⟩; replace BK281 := bb_ BK281 hb; replace BK286 := bb_ BK286 hb; replace BK293 := bb_ BK293 hb; replace HB := Aside0.mk (below_step (bl_ HB).out hb); (try clear hb); (try clear hb2); (try clear hk); (try clear hi)) | ((with_reducible refine gate_callee (f := 12) rfl ?_); refine gl_ (some 121) Tryd.func12 #[.bool false, .string (⟨#[55]⟩ : ByteArray), .int .i64 0] ?_; (with_reducible refine (dec_Made.calls kj35 false (⟨#[55]⟩ : ByteArray) 0 t295 t296 t297 _ A71.out).mono ?_); rintro e w99 ⟨rfl, hb⟩; refine ⟨_, rfl, ?_⟩; replace BK281 := bb_ BK281 hb; replace BK286 := bb_ BK286 hb; replace BK293 := bb_ BK293 hb; replace HB := Aside0.mk (below_step (bl_ HB).out hb); (try clear hb); (try clear hb2); (try clear hk); (try clear hi)) | ((with_reducible refine gate_dst (N := 16) rfl ?_); (try (refine gate_guard (by rfl) ?_; dsimp only)); refine be_ 16 #[.bool false, .string (⟨#[]⟩ : ByteArray), .int .i64 0] 29 ?_; intro gb298 hg w100 hbox hb; have BK298 := Aside0.mk (hbox); have GW298 := sz_ HB hg; have GE298 := sz_ HB hg; have NB281_298 := na_ BK281 hg; have NB298_281 := nb_ BK281 hg; have NB286_298 := na_ BK286 hg; have NB298_286 := nb_ BK286 hg; have NB293_298 := na_ BK293 hg; have NB298_293 := nb_ BK293 hg; replace BK281 := bb_ BK281 hb; replace BK286 := bb_ BK286 hb; replace BK293 := bb_ BK293 hb; replace HB := Aside0.mk (below_step (bl_ HB).out hb); clear hb hbox hg; have hnb101 := NB298_281.out; have hnc101 := NB281_298.out; have hnb102 := NB298_286.out; have hnc102 := NB286_298.out; have hnb103 := NB298_293.out; have hnc103 := NB293_298.out; obtain ⟨hcz104_0, hcz104_1, hcz104_2, hfz104_0, hfz104_1, hfz104_2⟩ := bo3_ BK298; obtain ⟨hcz105_0, hcz105_1, hcz105_2, hcz105_3, hcz105_4, hcz105_5, hcz105_6, hcz105_7, hfz105_0, hfz105_1, hfz105_2, hfz105_3, hfz105_4, hfz105_5, hfz105_6, hfz105_7⟩ := bo8_ BK286) | ((with_reducible refine gate_callee (f := 13) rfl ?_); refine gl_ (some 125) Tryd.func13 #[.agg #[.int .i64 a0, .int .i64 a1, .int .i64 a2, .bool t283, .string t284, .int .i64 t285, .int .i64 a3, .int .i64 a4], .agg #[.bool t295, .string t296, .int .i64 t297]] ?_; (with_reducible refine (show_Prec_Apply.calls kj35 a0 a1 a2 t283 t284 t285 a3 a4 t295 t296 t297 t299 t300 t301 t302 _ A72.out).mono ?_); rintro e w106 ⟨rfl, hb⟩; refine ⟨_, rfl, ?_⟩; have n0_ := Aside0.mk (blk_below (g := gb281) (o := .cells #[.bool a5_0, .slice A5_1 l5_1.length c5_1, .int .i64 a5_2] 24 (0, 0)) (by (with_reducible repeat (first | refine blk_drewN ?_ _ | refine blk_drew ?_ | refine blk_alloc ?_ _)); refine blk_far ?_ NB281_298.out _; (with_reducible repeat (first | refine blk_drewN ?_ _ | refine blk_drew ?_ | refine blk_alloc ?_ _)); refine blk_far ?_ NB281_298.out _; (with_reducible repeat (first | refine blk_drewN ?_ _ | refine blk_drew ?_ | refine blk_alloc ?_ _)); refine blk_far ?_ NB281_298.out _; (with_reducible repeat (first | refine blk_drewN ?_ _ | refine blk_drew ?_ | refine blk_alloc ?_ _)); exact BK281.out) hb); have n1_ := Aside0.mk (blk_below (g := gb286) (o := .cells #[.int .i64 a0, .int .i64 a1, .int .i64 a2, .bool t283, .string t284, .int .i64 t285, .int .i64 a3, .int .i64 a4] 32 (0, 0)) (by (with_reducible repeat (first | refine blk_drewN ?_ _ | refine blk_drew ?_ | refine blk_alloc ?_ _)); refine blk_far ?_ NB286_298.out _; (with_reducible repeat (first | refine blk_drewN ?_ _ | refine blk_drew ?_ | refine blk_alloc ?_ _)); refine blk_far ?_ NB286_298.out _; (with_reducible repeat (first | refine blk_drewN ?_ _ | refine blk_drew ?_ | refine blk_alloc ?_ _)); refine blk_far ?_ NB286_298.out _; (with_reducible repeat (first | refine blk_drewN ?_ _ | refine blk_drew ?_ | refine blk_alloc ?_ _)); exact BK286.out) hb); have n2_ := Aside0.mk (blk_below (g := gb293) (o := .cells #[.bool t290, .string t291, .int .i64 t292] 29 (0, 0)) (by (with_reducible repeat (first | refine blk_drewN ?_ _ | refine blk_drew ?_ | refine blk_alloc ?_ _)); refine blk_far ?_ NB293_298.out _; (with_reducible repeat (first | refine blk_drewN ?_ _ | refine blk_drew ?_ | refine blk_alloc ?_ _)); refine blk_far ?_ NB293_298.out _; (with_reducible repeat (first | refine blk_drewN ?_ _ | refine blk_drew ?_ | refine blk_alloc ?_ _)); refine blk_far ?_ NB293_298.out _; (with_reducible repeat (first | refine blk_drewN ?_ _ | refine blk_drew ?_ | refine blk_alloc ?_ _)); exact BK293.out) hb); have n3_ := Aside0.mk (blk_below (g := gb298) (o := .cells #[.bool t295, .string t296, .int .i64 t297] 29 (0, 0)) (by (with_reducible repeat (first | refine blk_drewN ?_ _ | refine blk_drew ?_ | refine blk_alloc ?_ _)); refine blk_put (cs := #[.bool t295, .string t296, .int .i64 0]) ?_ 2 _ rfl; (with_reducible repeat (first | refine blk_drewN ?_ _ | refine blk_drew ?_ | refine blk_alloc ?_ _)); refine blk_put (cs := #[.bool t295, .string (⟨#[]⟩ : ByteArray), .int .i64 0]) ?_ 1 _ rfl; (with_reducible repeat (first | refine blk_drewN ?_ _ | refine blk_drew ?_ | refine blk_alloc ?_ _)); refine blk_put (cs := #[.bool false, .string (⟨#[]⟩ : ByteArray), .int .i64 0]) ?_ 0 _ rfl; (with_reducible repeat (first | refine blk_drewN ?_ _ | refine blk_drew ?_ | refine blk_alloc ?_ _)); exact BK298.out) hb); have n4_ := Aside0.mk (below_step (bl_ HB).out hb); clear BK281; clear BK286; clear BK293; clear BK298; clear HB; have BK281 := n0_; have BK286 := n1_; have BK293 := n2_; have BK298 := n3_; have HB := n4_; clear n0_ n1_ n2_ n3_ n4_; (try clear hb); (try clear hb2); (try clear hk); (try clear hi)) | ((with_reducible refine gate_dst (N := 17) rfl ?_); (try (refine gate_guard (by rfl) ?_; dsimp only)); refine be_ 17 #[.bool false, .string (⟨#[]⟩ : ByteArray), .string (⟨#[]⟩ : ByteArray)] 35 ?_; intro gb303 hg w107 hbox hb; have BK303 := Aside0.mk (hbox); have GW303 := sz_ HB hg; have GE303 := sz_ HB hg; have NB281_303 := na_ BK281 hg; have NB303_281 := nb_ BK281 hg; have NB286_303 := na_ BK286 hg; have NB303_286 := nb_ BK286 hg; have NB293_303 := na_ BK293 hg; have NB303_293 := nb_ BK293 hg; have NB298_303 := na_ BK298 hg; have NB303_298 := nb_ BK298 hg; replace BK281 := bb_ BK281 hb; replace BK286 := bb_ BK286 hb; replace BK293 := bb_ BK293 hb; replace BK298 := bb_ BK298 hb; replace HB := Aside0.mk (below_step (bl_ HB).out hb); clear hb hbox hg; have hnb108 := NB303_281.out; have hnc108 := NB281_303.out; have hnb109 := NB303_286.out; have hnc109 := NB286_303.out; have hnb110 := NB303_293.out; have hnc110 := NB293_303.out; have hnb111 := NB303_298.out; have hnc111 := NB298_303.out; obtain ⟨hcz112_0, hcz112_1, hcz112_2, hfz112_0, hfz112_1, hfz112_2⟩ := bo3_ BK303; obtain ⟨hcz113_0, hcz113_1, hcz113_2, hcz113_3, hcz113_4, hcz113_5, hcz113_6, hcz113_7, hfz113_0, hfz113_1, hfz113_2, hfz113_3, hfz113_4, hfz113_5, hfz113_6, hfz113_7⟩ := bo8_ BK286; obtain ⟨hcz114_0, hcz114_1, hcz114_2, hfz114_0, hfz114_1, hfz114_2⟩ := bo3_ BK298) | (go_at_call 14; (with_reducible refine (show_Prec_Round.calls kj35 a0 a1 a2 t283 t284 t285 a3 a4 t295 t296 t297 t304 t305 t306 _ A94.out).mono ?_); rintro e w115 ⟨rfl, hb⟩; have n0_ := Aside0.mk (blk_below (g := gb281) (o := .cells #[.bool a5_0, .slice A5_1 l5_1.length c5_1, .int .i64 a5_2] 24 (0, 0)) (by (with_reducible repeat (first | refine blk_drewN ?_ _ | refine blk_drew ?_ | refine blk_alloc ?_ _)); refine blk_far ?_ NB281_303.out _; (with_reducible repeat (first | refine blk_drewN ?_ _ | refine blk_drew ?_ | refine blk_alloc ?_ _)); refine blk_far ?_ NB281_303.out _; (with_reducible repeat (first | refine blk_drewN ?_ _ | refine blk_drew ?_ | refine blk_alloc ?_ _)); refine blk_far ?_ NB281_303.out _; (with_reducible repeat (first | refine blk_drewN ?_ _ | refine blk_drew ?_ | refine blk_alloc ?_ _)); exact BK281.out) hb); have n1_ := Aside0.mk (blk_below (g := gb286) (o := .cells #[.int .i64 a0, .int .i64 a1, .int .i64 a2, .bool t283, .string t284, .int .i64 t285, .int .i64 a3, .int .i64 a4] 32 (0, 0)) (by (with_reducible repeat (first | refine blk_drewN ?_ _ | refine blk_drew ?_ | refine blk_alloc ?_ _)); refine blk_far ?_ NB286_303.out _; (with_reducible repeat (first | refine blk_drewN ?_ _ | refine blk_drew ?_ | refine blk_alloc ?_ _)); refine blk_far ?_ NB286_303.out _; (with_reducible repeat (first | refine blk_drewN ?_ _ | refine blk_drew ?_ | refine blk_alloc ?_ _)); refine blk_far ?_ NB286_303.out _; (with_reducible repeat (first | refine blk_drewN ?_ _ | refine blk_drew ?_ | refine blk_alloc ?_ _)); exact BK286.out) hb); have n2_ := Aside0.mk (blk_below (g := gb293) (o := .cells #[.bool t290, .string t291, .int .i64 t292] 29 (0, 0)) (by (with_reducible repeat (first | refine blk_drewN ?_ _ | refine blk_drew ?_ | refine blk_alloc ?_ _)); refine blk_far ?_ NB293_303.out _; (with_reducible repeat (first | refine blk_drewN ?_ _ | refine blk_drew ?_ | refine blk_alloc ?_ _)); refine blk_far ?_ NB293_303.out _; (with_reducible repeat (first | refine blk_drewN ?_ _ | refine blk_drew ?_ | refine blk_alloc ?_ _)); refine blk_far ?_ NB293_303.out _; (with_reducible repeat (first | refine blk_drewN ?_ _ | refine blk_drew ?_ | refine blk_alloc ?_ _)); exact BK293.out) hb); have n3_ := Aside0.mk (blk_below (g := gb298) (o := .cells #[.bool t295, .string t296, .int .i64 t297] 29 (0, 0)) (by (with_reducible repeat (first | refine blk_drewN ?_ _ | refine blk_drew ?_ | refine blk_alloc ?_ _)); refine blk_far ?_ NB298_303.out _; (with_reducible repeat (first | refine blk_drewN ?_ _ | refine blk_drew ?_ | refine blk_alloc ?_ _)); refine blk_far ?_ NB298_303.out _; (with_reducible repeat (first | refine blk_drewN ?_ _ | refine blk_drew ?_ | refine blk_alloc ?_ _)); refine blk_far ?_ NB298_303.out _; (with_reducible repeat (first | refine blk_drewN ?_ _ | refine blk_drew ?_ | refine blk_alloc ?_ _)); exact BK298.out) hb); have n4_ := Aside0.mk (blk_below (g := gb303) (o := .cells #[.bool t299, .string t300, .string t301] 35 (0, 0)) (by (with_reducible repeat (first | refine blk_drewN ?_ _ | refine blk_drew ?_ | refine blk_alloc ?_ _)); refine blk_put (cs := #[.bool t299, .string t300, .string (⟨#[]⟩ : ByteArray)]) ?_ 2 _ rfl; (with_reducible repeat (first | refine blk_drewN ?_ _ | refine blk_drew ?_ | refine blk_alloc ?_ _)); refine blk_put (cs := #[.bool t299, .string (⟨#[]⟩ : ByteArray), .string (⟨#[]⟩ : ByteArray)]) ?_ 1 _ rfl; (with_reducible repeat (first | refine blk_drewN ?_ _ | refine blk_drew ?_ | refine blk_alloc ?_ _)); refine blk_put (cs := #[.bool false, .string (⟨#[]⟩ : ByteArray), .string (⟨#[]⟩ : ByteArray)]) ?_ 0 _ rfl; (with_reducible repeat (first | refine blk_drewN ?_ _ | refine blk_drew ?_ | refine blk_alloc ?_ _)); exact BK303.out) hb); have n5_ := Aside0.mk (below_step (bl_ HB).out hb); clear BK281; clear BK286; clear BK293; clear BK298; clear BK303; clear HB; have BK281 := n0_; have BK286 := n1_; have BK293 := n2_; have BK298 := n3_; have BK303 := n4_; have HB := n5_; clear n0_ n1_ n2_ n3_ n4_ n5_; (try clear hb); (try clear hb2); (try clear hk); (try clear hi)))
           go_ret
           exact ⟨ew_, (bl_ HB).out⟩
          ·rw [if_neg c93] at H
           have c93b0 : (!t299 && (t300.toList == ([] : List UInt8) && (t301.toList == ([] : List UInt8)))) = false := by simpa using c93
           (try (have c93b1 : (!t299 && (t300.toList.isEmpty && (t301.toList.isEmpty))) = false := by have z_ := c93; simp only [show ∀ l_ : List UInt8, (l_ == ([] : List UInt8)) = l_.isEmpty from fun l_ => by cases l_ <;> rfl] at z_; first | exact z_ | exact Bool.eq_false_iff.mpr z_))
           clear c93
           obtain rfl := Option.some.inj H
           have hnb116 := NB286_281.out
           have hnc116 := NB281_286.out
           have hnb117 := NB286_293.out
           have hnc117 := NB293_286.out
           obtain ⟨hcz118_0, hcz118_1, hcz118_2, hcz118_3, hcz118_4, hcz118_5, hcz118_6, hcz118_7, hfz118_0, hfz118_1, hfz118_2, hfz118_3, hfz118_4, hfz118_5, hfz118_6, hfz118_7⟩ := bo8_ BK286
           go_wp2_with (first | ((with_reducible refine gate_callee (f := 11) rfl ?_); refine gl_ (some 118) Tryd.func11 #[.agg #[.int .i64 a0, .int .i64 a1, .int .i64 a2, .bool t283, .string t284, .int .i64 t285, .int .i64 a3, .int .i64 a4]] ?_; (with_reducible refine (show_Prec_Valid.calls kj35 a0 a1 a2 t283 t284 t285 a3 a4 t294 _ A65.out).mono ?_); rintro e w119 ⟨rfl, hb⟩; refine ⟨_, rfl, ?_⟩; replace BK281 := bb_ BK281 hb; replace BK286 := bb_ BK286 hb; replace BK293 := bb_ BK293 hb; replace HB := Aside0.mk (below_step (bl_ HB).out hb); (try clear hb); (try clear hb2); (try clear hk); (try clear hi)) | ((with_reducible refine gate_callee (f := 12) rfl ?_); refine gl_ (some 121) Tryd.func12 #[.bool false, .string (⟨#[55]⟩ : ByteArray), .int .i64 0] ?_; (with_reducible refine (dec_Made.calls kj35 false (⟨#[55]⟩ : ByteArray) 0 t295 t296 t297 _ A71.out).mono ?_); rintro e w120 ⟨rfl, hb⟩; refine ⟨_, rfl, ?_⟩; replace BK281 := bb_ BK281 hb; replace BK286 := bb_ BK286 hb; replace BK293 := bb_ BK293 hb; replace HB := Aside0.mk (below_step (bl_ HB).out hb); (try clear hb); (try clear hb2); (try clear hk); (try clear hi)) | ((with_reducible refine gate_dst (N := 16) rfl ?_); (try (refine gate_guard (by rfl) ?_; dsimp only)); refine be_ 16 #[.bool false, .string (⟨#[]⟩ : ByteArray), .int .i64 0] 29 ?_; intro gb298 hg w121 hbox hb; have BK298 := Aside0.mk (hbox); have GW298 := sz_ HB hg; have GE298 := sz_ HB hg; have NB281_298 := na_ BK281 hg; have NB298_281 := nb_ BK281 hg; have NB286_298 := na_ BK286 hg; have NB298_286 := nb_ BK286 hg; have NB293_298 := na_ BK293 hg; have NB298_293 := nb_ BK293 hg; replace BK281 := bb_ BK281 hb; replace BK286 := bb_ BK286 hb; replace BK293 := bb_ BK293 hb; replace HB := Aside0.mk (below_step (bl_ HB).out hb); clear hb hbox hg; have hnb122 := NB298_281.out; have hnc122 := NB281_298.out; have hnb123 := NB298_286.out; have hnc123 := NB286_298.out; have hnb124 := NB298_293.out; have hnc124 := NB293_298.out; obtain ⟨hcz125_0, hcz125_1, hcz125_2, hfz125_0, hfz125_1, hfz125_2⟩ := bo3_ BK298; obtain ⟨hcz126_0, hcz126_1, hcz126_2, hcz126_3, hcz126_4, hcz126_5, hcz126_6, hcz126_7, hfz126_0, hfz126_1, hfz126_2, hfz126_3, hfz126_4, hfz126_5, hfz126_6, hfz126_7⟩ := bo8_ BK286) | ((with_reducible refine gate_callee (f := 13) rfl ?_); refine gl_ (some 125) Tryd.func13 #[.agg #[.int .i64 a0, .int .i64 a1, .int .i64 a2, .bool t283, .string t284, .int .i64 t285, .int .i64 a3, .int .i64 a4], .agg #[.bool t295, .string t296, .int .i64 t297]] ?_; (with_reducible refine (show_Prec_Apply.calls kj35 a0 a1 a2 t283 t284 t285 a3 a4 t295 t296 t297 t299 t300 t301 t302 _ A72.out).mono ?_); rintro e w127 ⟨rfl, hb⟩; refine ⟨_, rfl, ?_⟩; have n0_ := Aside0.mk (blk_below (g := gb281) (o := .cells #[.bool a5_0, .slice A5_1 l5_1.length c5_1, .int .i64 a5_2] 24 (0, 0)) (by (with_reducible repeat (first | refine blk_drewN ?_ _ | refine blk_drew ?_ | refine blk_alloc ?_ _)); refine blk_far ?_ NB281_298.out _; (with_reducible repeat (first | refine blk_drewN ?_ _ | refine blk_drew ?_ | refine blk_alloc ?_ _)); refine blk_far ?_ NB281_298.out _; (with_reducible repeat (first | refine blk_drewN ?_ _ | refine blk_drew ?_ | refine blk_alloc ?_ _)); refine blk_far ?_ NB281_298.out _; (with_reducible repeat (first | refine blk_drewN ?_ _ | refine blk_drew ?_ | refine blk_alloc ?_ _)); exact BK281.out) hb); have n1_ := Aside0.mk (blk_below (g := gb286) (o := .cells #[.int .i64 a0, .int .i64 a1, .int .i64 a2, .bool t283, .string t284, .int .i64 t285, .int .i64 a3, .int .i64 a4] 32 (0, 0)) (by (with_reducible repeat (first | refine blk_drewN ?_ _ | refine blk_drew ?_ | refine blk_alloc ?_ _)); refine blk_far ?_ NB286_298.out _; (with_reducible repeat (first | refine blk_drewN ?_ _ | refine blk_drew ?_ | refine blk_alloc ?_ _)); refine blk_far ?_ NB286_298.out _; (with_reducible repeat (first | refine blk_drewN ?_ _ | refine blk_drew ?_ | refine blk_alloc ?_ _)); refine blk_far ?_ NB286_298.out _; (with_reducible repeat (first | refine blk_drewN ?_ _ | refine blk_drew ?_ | refine blk_alloc ?_ _)); exact BK286.out) hb); have n2_ := Aside0.mk (blk_below (g := gb293) (o := .cells #[.bool t290, .string t291, .int .i64 t292] 29 (0, 0)) (by (with_reducible repeat (first | refine blk_drewN ?_ _ | refine blk_drew ?_ | refine blk_alloc ?_ _)); refine blk_far ?_ NB293_298.out _; (with_reducible repeat (first | refine blk_drewN ?_ _ | refine blk_drew ?_ | refine blk_alloc ?_ _)); refine blk_far ?_ NB293_298.out _; (with_reducible repeat (first | refine blk_drewN ?_ _ | refine blk_drew ?_ | refine blk_alloc ?_ _)); refine blk_far ?_ NB293_298.out _; (with_reducible repeat (first | refine blk_drewN ?_ _ | refine blk_drew ?_ | refine blk_alloc ?_ _)); exact BK293.out) hb); have n3_ := Aside0.mk (blk_below (g := gb298) (o := .cells #[.bool t295, .string t296, .int .i64 t297] 29 (0, 0)) (by (with_reducible repeat (first | refine blk_drewN ?_ _ | refine blk_drew ?_ | refine blk_alloc ?_ _)); refine blk_put (cs := #[.bool t295, .string t296, .int .i64 0]) ?_ 2 _ rfl; (with_reducible repeat (first | refine blk_drewN ?_ _ | refine blk_drew ?_ | refine blk_alloc ?_ _)); refine blk_put (cs := #[.bool t295, .string (⟨#[]⟩ : ByteArray), .int .i64 0]) ?_ 1 _ rfl; (with_reducible repeat (first | refine blk_drewN ?_ _ | refine blk_drew ?_ | refine blk_alloc ?_ _)); refine blk_put (cs := #[.bool false, .string (⟨#[]⟩ : ByteArray), .int .i64 0]) ?_ 0 _ rfl; (with_reducible repeat (first | refine blk_drewN ?_ _ | refine blk_drew ?_ | refine blk_alloc ?_ _)); exact BK298.out) hb); have n4_ := Aside0.mk (below_step (bl_ HB).out hb); clear BK281; clear BK286; clear BK293; clear BK298; clear HB; have BK281 := n0_; have BK286 := n1_; have BK293 := n2_; have BK298 := n3_; have HB := n4_; clear n0_ n1_ n2_ n3_ n4_; (try clear hb); (try clear hb2); (try clear hk); (try clear hi)) | ((with_reducible refine gate_dst (N := 17) rfl ?_); (try (refine gate_guard (by rfl) ?_; dsimp only)); refine be_ 17 #[.bool false, .string (⟨#[]⟩ : ByteArray), .string (⟨#[]⟩ : ByteArray)] 35 ?_; intro gb303 hg w128 hbox hb; have BK303 := Aside0.mk (hbox); have GW303 := sz_ HB hg; have GE303 := sz_ HB hg; have NB281_303 := na_ BK281 hg; have NB303_281 := nb_ BK281 hg; have NB286_303 := na_ BK286 hg; have NB303_286 := nb_ BK286 hg; have NB293_303 := na_ BK293 hg; have NB303_293 := nb_ BK293 hg; have NB298_303 := na_ BK298 hg; have NB303_298 := nb_ BK298 hg; replace BK281 := bb_ BK281 hb; replace BK286 := bb_ BK286 hb; replace BK293 := bb_ BK293 hb; replace BK298 := bb_ BK298 hb; replace HB := Aside0.mk (below_step (bl_ HB).out hb); clear hb hbox hg; have hnb129 := NB303_281.out; have hnc129 := NB281_303.out; have hnb130 := NB303_286.out; have hnc130 := NB286_303.out; have hnb131 := NB303_293.out; have hnc131 := NB293_303.out; have hnb132 := NB303_298.out; have hnc132 := NB298_303.out; obtain ⟨hcz133_0, hcz133_1, hcz133_2, hfz133_0, hfz133_1, hfz133_2⟩ := bo3_ BK303))
           go_ret
           exact ⟨ew_, (bl_ HB).out⟩
         ·rw [if_neg c92] at H
          have c92b0 : (t302 == 3) = false := beq_eq_false_iff_ne.mpr c92
          have c92b1 : (t302 != 3) = true := bne_iff_ne.mpr c92
          obtain rfl := Option.some.inj H
          have hnb134 := NB286_281.out
          have hnc134 := NB281_286.out
          have hnb135 := NB286_293.out
          have hnc135 := NB293_286.out
          obtain ⟨hcz136_0, hcz136_1, hcz136_2, hcz136_3, hcz136_4, hcz136_5, hcz136_6, hcz136_7, hfz136_0, hfz136_1, hfz136_2, hfz136_3, hfz136_4, hfz136_5, hfz136_6, hfz136_7⟩ := bo8_ BK286
          go_wp2_with (first | ((with_reducible refine gate_callee (f := 11) rfl ?_); refine gl_ (some 118) Tryd.func11 #[.agg #[.int .i64 a0, .int .i64 a1, .int .i64 a2, .bool t283, .string t284, .int .i64 t285, .int .i64 a3, .int .i64 a4]] ?_; (with_reducible refine (show_Prec_Valid.calls kj35 a0 a1 a2 t283 t284 t285 a3 a4 t294 _ A65.out).mono ?_); rintro e w137 ⟨rfl, hb⟩; refine ⟨_, rfl, ?_⟩; replace BK281 := bb_ BK281 hb; replace BK286 := bb_ BK286 hb; replace BK293 := bb_ BK293 hb; replace HB := Aside0.mk (below_step (bl_ HB).out hb); (try clear hb); (try clear hb2); (try clear hk); (try clear hi)) | ((with_reducible refine gate_callee (f := 12) rfl ?_); refine gl_ (some 121) Tryd.func12 #[.bool false, .string (⟨#[55]⟩ : ByteArray), .int .i64 0] ?_; (with_reducible refine (dec_Made.calls kj35 false (⟨#[55]⟩ : ByteArray) 0 t295 t296 t297 _ A71.out).mono ?_); rintro e w138 ⟨rfl, hb⟩; refine ⟨_, rfl, ?_⟩; replace BK281 := bb_ BK281 hb; replace BK286 := bb_ BK286 hb; replace BK293 := bb_ BK293 hb; replace HB := Aside0.mk (below_step (bl_ HB).out hb); (try clear hb); (try clear hb2); (try clear hk); (try clear hi)) | ((with_reducible refine gate_dst (N := 16) rfl ?_); (try (refine gate_guard (by rfl) ?_; dsimp only)); refine be_ 16 #[.bool false, .string (⟨#[]⟩ : ByteArray), .int .i64 0] 29 ?_; intro gb298 hg w139 hbox hb; have BK298 := Aside0.mk (hbox); have GW298 := sz_ HB hg; have GE298 := sz_ HB hg; have NB281_298 := na_ BK281 hg; have NB298_281 := nb_ BK281 hg; have NB286_298 := na_ BK286 hg; have NB298_286 := nb_ BK286 hg; have NB293_298 := na_ BK293 hg; have NB298_293 := nb_ BK293 hg; replace BK281 := bb_ BK281 hb; replace BK286 := bb_ BK286 hb; replace BK293 := bb_ BK293 hb; replace HB := Aside0.mk (below_step (bl_ HB).out hb); clear hb hbox hg; have hnb140 := NB298_281.out; have hnc140 := NB281_298.out; have hnb141 := NB298_286.out; have hnc141 := NB286_298.out; have hnb142 := NB298_293.out; have hnc142 := NB293_298.out; obtain ⟨hcz143_0, hcz143_1, hcz143_2, hfz143_0, hfz143_1, hfz143_2⟩ := bo3_ BK298; obtain ⟨hcz144_0, hcz144_1, hcz144_2, hcz144_3, hcz144_4, hcz144_5, hcz144_6, hcz144_7, hfz144_0, hfz144_1, hfz144_2, hfz144_3, hfz144_4, hfz144_5, hfz144_6, hfz144_7⟩ := bo8_ BK286) | ((with_reducible refine gate_callee (f := 13) rfl ?_); refine gl_ (some 125) Tryd.func13 #[.agg #[.int .i64 a0, .int .i64 a1, .int .i64 a2, .bool t283, .string t284, .int .i64 t285, .int .i64 a3, .int .i64 a4], .agg #[.bool t295, .string t296, .int .i64 t297]] ?_; (with_reducible refine (show_Prec_Apply.calls kj35 a0 a1 a2 t283 t284 t285 a3 a4 t295 t296 t297 t299 t300 t301 t302 _ A72.out).mono ?_); rintro e w145 ⟨rfl, hb⟩; refine ⟨_, rfl, ?_⟩; have n0_ := Aside0.mk (blk_below (g := gb281) (o := .cells #[.bool a5_0, .slice A5_1 l5_1.length c5_1, .int .i64 a5_2] 24 (0, 0)) (by (with_reducible repeat (first | refine blk_drewN ?_ _ | refine blk_drew ?_ | refine blk_alloc ?_ _)); refine blk_far ?_ NB281_298.out _; (with_reducible repeat (first | refine blk_drewN ?_ _ | refine blk_drew ?_ | refine blk_alloc ?_ _)); refine blk_far ?_ NB281_298.out _; (with_reducible repeat (first | refine blk_drewN ?_ _ | refine blk_drew ?_ | refine blk_alloc ?_ _)); refine blk_far ?_ NB281_298.out _; (with_reducible repeat (first | refine blk_drewN ?_ _ | refine blk_drew ?_ | refine blk_alloc ?_ _)); exact BK281.out) hb); have n1_ := Aside0.mk (blk_below (g := gb286) (o := .cells #[.int .i64 a0, .int .i64 a1, .int .i64 a2, .bool t283, .string t284, .int .i64 t285, .int .i64 a3, .int .i64 a4] 32 (0, 0)) (by (with_reducible repeat (first | refine blk_drewN ?_ _ | refine blk_drew ?_ | refine blk_alloc ?_ _)); refine blk_far ?_ NB286_298.out _; (with_reducible repeat (first | refine blk_drewN ?_ _ | refine blk_drew ?_ | refine blk_alloc ?_ _)); refine blk_far ?_ NB286_298.out _; (with_reducible repeat (first | refine blk_drewN ?_ _ | refine blk_drew ?_ | refine blk_alloc ?_ _)); refine blk_far ?_ NB286_298.out _; (with_reducible repeat (first | refine blk_drewN ?_ _ | refine blk_drew ?_ | refine blk_alloc ?_ _)); exact BK286.out) hb); have n2_ := Aside0.mk (blk_below (g := gb293) (o := .cells #[.bool t290, .string t291, .int .i64 t292] 29 (0, 0)) (by (with_reducible repeat (first | refine blk_drewN ?_ _ | refine blk_drew ?_ | refine blk_alloc ?_ _)); refine blk_far ?_ NB293_298.out _; (with_reducible repeat (first | refine blk_drewN ?_ _ | refine blk_drew ?_ | refine blk_alloc ?_ _)); refine blk_far ?_ NB293_298.out _; (with_reducible repeat (first | refine blk_drewN ?_ _ | refine blk_drew ?_ | refine blk_alloc ?_ _)); refine blk_far ?_ NB293_298.out _; (with_reducible repeat (first | refine blk_drewN ?_ _ | refine blk_drew ?_ | refine blk_alloc ?_ _)); exact BK293.out) hb); have n3_ := Aside0.mk (blk_below (g := gb298) (o := .cells #[.bool t295, .string t296, .int .i64 t297] 29 (0, 0)) (by (with_reducible repeat (first | refine blk_drewN ?_ _ | refine blk_drew ?_ | refine blk_alloc ?_ _)); refine blk_put (cs := #[.bool t295, .string t296, .int .i64 0]) ?_ 2 _ rfl; (with_reducible repeat (first | refine blk_drewN ?_ _ | refine blk_drew ?_ | refine blk_alloc ?_ _)); refine blk_put (cs := #[.bool t295, .string (⟨#[]⟩ : ByteArray), .int .i64 0]) ?_ 1 _ rfl; (with_reducible repeat (first | refine blk_drewN ?_ _ | refine blk_drew ?_ | refine blk_alloc ?_ _)); refine blk_put (cs := #[.bool false, .string (⟨#[]⟩ : ByteArray), .int .i64 0]) ?_ 0 _ rfl; (with_reducible repeat (first | refine blk_drewN ?_ _ | refine blk_drew ?_ | refine blk_alloc ?_ _)); exact BK298.out) hb); have n4_ := Aside0.mk (below_step (bl_ HB).out hb); clear BK281; clear BK286; clear BK293; clear BK298; clear HB; have BK281 := n0_; have BK286 := n1_; have BK293 := n2_; have BK298 := n3_; have HB := n4_; clear n0_ n1_ n2_ n3_ n4_; (try clear hb); (try clear hb2); (try clear hk); (try clear hi)) | ((with_reducible refine gate_dst (N := 17) rfl ?_); (try (refine gate_guard (by rfl) ?_; dsimp only)); refine be_ 17 #[.bool false, .string (⟨#[]⟩ : ByteArray), .string (⟨#[]⟩ : ByteArray)] 35 ?_; intro gb303 hg w146 hbox hb; have BK303 := Aside0.mk (hbox); have GW303 := sz_ HB hg; have GE303 := sz_ HB hg; have NB281_303 := na_ BK281 hg; have NB303_281 := nb_ BK281 hg; have NB286_303 := na_ BK286 hg; have NB303_286 := nb_ BK286 hg; have NB293_303 := na_ BK293 hg; have NB303_293 := nb_ BK293 hg; have NB298_303 := na_ BK298 hg; have NB303_298 := nb_ BK298 hg; replace BK281 := bb_ BK281 hb; replace BK286 := bb_ BK286 hb; replace BK293 := bb_ BK293 hb; replace BK298 := bb_ BK298 hb; replace HB := Aside0.mk (below_step (bl_ HB).out hb); clear hb hbox hg; have hnb147 := NB303_281.out; have hnc147 := NB281_303.out; have hnb148 := NB303_286.out; have hnc148 := NB286_303.out; have hnb149 := NB303_293.out; have hnc149 := NB293_303.out; have hnb150 := NB303_298.out; have hnc150 := NB298_303.out; obtain ⟨hcz151_0, hcz151_1, hcz151_2, hfz151_0, hfz151_1, hfz151_2⟩ := bo3_ BK303))
          go_ret
          exact ⟨ew_, (bl_ HB).out⟩
 ·replace c8 := Bool.eq_false_iff.mpr c8
  subst c8
  have H1 : (some false) = some r := by rw [if_neg (show ¬ (false = true) by decide)] at H; exact H
  clear H
  have H := H1
  clear H1
  obtain rfl := Option.some.inj H
  go_enter Tryd.func3, Tryd.ntmps3
  go_wp2_with (first | ((with_reducible refine gate_dst (N := 11) rfl ?_); (try (refine gate_guard (by rfl) ?_; dsimp only)); refine be_ 11 #[.bool a5_0, .slice A5_1 l5_1.length c5_1, .int .i64 a5_2] 24 ?_; intro gb281 hg w152 hbox hb; have BK281 := Aside0.mk (hbox); have GW281 := sz_ HB hg; have GE281 := sz_ HB hg; replace HB := Aside0.mk (below_step (bl_ HB).out hb); clear hb hbox hg) | ((with_reducible refine gate_callee (f := 8) rfl ?_); refine gl_ (some 19) Tryd.func8 #[] ?_; (with_reducible refine (florinlaw04_head.calls k  false _ A7.out).mono ?_); rintro e w153 ⟨rfl, hb⟩; refine ⟨_, rfl, ?_⟩; replace BK281 := bb_ BK281 hb; replace HB := Aside0.mk (below_step (bl_ HB).out hb); (try clear hb); (try clear hb2); (try clear hk); (try clear hi)))
  go_ret
  exact ⟨ew_, (bl_ HB).out⟩

end Go.Proofs.YthkpmiajcmihjaaDoor.P
