-- written by a program of this session (wip/p2)
import Derived.Test.YthkpmiajcmihjaaGreatDoorPx0
import Derived.Test.YthkpmiajcmihjaaGreatDoorPx2
import Derived.Test.YthkpmiajcmihjaaGreatDoorPx3
import Derived.Test.YthkpmiajcmihjaaGreatDoorPx4
import Derived.Test.YthkpmiajcmihjaaGreatDoorPx5
import Derived.Test.YthkpmiajcmihjaaGreatDoorPx10
namespace Go.Proofs.YthkpmiajcmihjaaGreatDoor.P
open Go.RowKit Go.Proofs.YthkpmiajcmihjaaGreatDoorW.PrintWords Go.Proofs.YthkpmiajcmihjaaGreatDoorW.PrintLast Go.Proofs.YthkpmiajcmihjaaGreatDoorW.PrintMore
attribute [local go_sem] max2_int min2_int max_two min_two max_three min_three max_four min_four   -- for this text's walks alone
set_option linter.unusedVariables false
set_option linter.unusedSimpArgs false

/-! ### florinlaw02_Raw_Make: function 7 -/
def florinlaw02_Raw_Make.f (k : Nat) (a0_0 : Bool) (l0_1 : List Int) (a0_2 : Int) : Option (Bool × ByteArray × Int) := (florinlaw01_Digits.f k l0_1).bind fun t293 => (some (a0_0, t293, a0_2))
theorem florinlaw02_Raw_Make.mono : ∀ a0 a1 a2 k, LeO (florinlaw02_Raw_Make.f k a0 a1 a2) (florinlaw02_Raw_Make.f (k + 1) a0 a1 a2) := by
  intro a0 a1 a2 k
  unfold florinlaw02_Raw_Make.f
  repeat' first
      | (with_reducible exact florinlaw01_Digits.mono _ _)
      | (with_reducible exact LeO.refl _)
      | (with_reducible exact LeO.none _)
      | (with_reducible refine LeO.ite ?_ ?_)
      | (with_reducible refine LeO.bind ?_ (fun _ => ?_))
      | exact florinlaw01_Digits.mono _ _
      | exact LeO.none _
      | refine LeO.ite ?_ ?_
      | refine LeO.bind ?_ (fun _ => ?_)
def florinlaw02_Raw_Make.T1 : Bool × List (List Nat × List Nat) := (true, [([], []), ([0], [0]), ([], []), ([2], [2]), ([3], [3]), ([], []), ([5], [5]), ([1, 4, 6], [1, 4, 6]), ([7, 4, 0, 1, 2, 3, 4, 5, 6, 7], [7])])
def florinlaw02_Raw_Make.B1 : List Nat := [0, 1, 0, 4, 12, 0, 32, 127, 255]
theorem florinlaw02_Raw_Make.tab1 : rtab .any (opsOf Tryz.f7 1) = florinlaw02_Raw_Make.T1 := by kernel_rfl
theorem florinlaw02_Raw_Make.bits1 : waitsOk florinlaw02_Raw_Make.T1.2 florinlaw02_Raw_Make.B1 = true := by kernel_rfl
set_option maxHeartbeats 8000000 in
set_option maxRecDepth 100000 in
theorem florinlaw02_Raw_Make.calls (k : Nat) (a0_0 : Bool) (A0_1 : Option Addr) (c0_1 : Nat) (l0_1 : List Int) (a0_2 : Int) (r1 : Bool) (r2 : ByteArray) (r3 : Int) (w : World) (hr0_1 : Kd.C (Kd.int .u8) w A0_1 l0_1.length l0_1) (hc0_1 : l0_1.length ≤ c0_1) (h : florinlaw02_Raw_Make.f k a0_0 l0_1 a0_2 = some (r1, r2, r3)) :
    Calls Tryz.prog 7 #[.agg #[.bool a0_0, .slice A0_1 l0_1.length c0_1, .int .i64 a0_2]] w fun e w' => e = .returned (.agg #[.bool r1, .string r2, .int .i64 r3]) ∧ Below w.heap.size w w' := by
  have hu24 := Tryz.underlying24
  have hu31 := Tryz.underlying31
  have HR0_1 := Aside0.mk hr0_1
  have HC0_1 := Aside0.mk hc0_1
  clear hr0_1 hc0_1
  have HB := Aside0.mk (Below.refl w.heap.size w)
  have H : ((florinlaw01_Digits.f k l0_1).bind fun t293 => (some (a0_0, t293, a0_2))) = some (r1, r2, r3) := h
  clear h
  replace H := Option.bind_eq_some_iff.mp H
  obtain ⟨t293, A20, H⟩ := H
  replace H : (some (a0_0, t293, a0_2)) = some (r1, r2, r3) := H
  have A2 := Aside0.mk A20
  clear A20
  simp only [Option.some.injEq, Prod.mk.injEq] at H
  obtain ⟨rfl, rfl, rfl⟩ := H
  go_enter Tryz.func7, Tryz.ntmps7
  try go_wp2_with (first | ((with_reducible refine gate_dst (N := 1) rfl ?_); refine be_ 1 #[.bool a0_0, .slice A0_1 l0_1.length c0_1, .int .i64 a0_2] 24 ?_; intro gb291 hg w3 hbox hb; have BK291 := Aside0.mk (hbox); have GW291 := sz_ HB hg; have GE291 := sz_ HB hg; replace HB := Aside0.mk (below_step (bl_ HB).out hb); clear hb hbox hg) | ((with_reducible refine gate_dst (N := 2) rfl ?_); refine be_ 2 #[.bool false, .string (⟨#[]⟩ : ByteArray), .int .i64 0] 31 ?_; intro gb292 hg w4 hbox hb; have BK292 := Aside0.mk (hbox); have GW292 := sz_ HB hg; have GE292 := sz_ HB hg; have NB291_292 := na_ BK291 hg; have NB292_291 := nb_ BK291 hg; replace BK291 := bb_ BK291 hb; replace HB := Aside0.mk (below_step (bl_ HB).out hb); clear hb hbox hg))
  replace BK291 := Aside0.mk (blk_drew BK291.out)
  replace BK292 := Aside0.mk (blk_drew BK292.out)
  replace HB := Aside0.mk (below_drew1 HB.out)
  refine start_ (n := 9) (S := fun w' => w'.cell? ⟨gb291, 0, none⟩ = some (.bool a0_0) ∧ w'.cell? ⟨gb291, 1, none⟩ = some (.slice A0_1 l0_1.length c0_1) ∧ w'.cell? ⟨gb291, 2, none⟩ = some (.int .i64 a0_2)) (ds := []) #[false, false, false, false, false, false, false, false, false] (by kernel_rfl) rfl rfl ⟨bc_ BK291 0, bc_ BK291 1, bc_ BK291 2⟩ (fun hHeld => ?_); refine with_tabW florinlaw02_Raw_Make.tab1 florinlaw02_Raw_Make.bits1 (fun HT_ HW_ => ?_)
  generalize w4.drew = w5 at BK291 BK292 HB hHeld ⊢
  refine pu_ 0 3 #[true, false, false, false, false, false, false, false, false] HT_ ?_
  refine pu_ 2 5 #[true, false, true, false, false, false, false, false, false] HT_ ?_
  refine pu_ 5 8 #[true, false, true, false, false, true, false, false, false] HT_ ?_
  refine tk_ 1 4 #[true, true, true, false, false, true, false, false, false] HT_ HW_ hHeld rfl (by rintro w' ⟨s0, s1, s2⟩; go_simp; with_reducible rfl) ?_
  refine tk_ 3 6 #[true, true, true, true, false, true, false, false, false] HT_ HW_ hHeld rfl (by rintro w' ⟨s0, s1, s2⟩; go_simp; with_reducible rfl) ?_
  refine tk_ 6 9 #[true, true, true, true, false, true, true, false, false] HT_ HW_ hHeld rfl (by rintro w' ⟨s0, s1, s2⟩; go_simp; with_reducible rfl) ?_
  refine one_ (i := 4) (N := some 7) #[true, true, true, true, true, true, true, false, false] rfl rfl (one_of HT_.out (by kernel_rfl)) (by decide) (fun K hK => ?_)
  refine gs_ Tryz.func20 #[.slice A0_1 l0_1.length c0_1] ?_
  with_reducible refine (florinlaw01_Digits.calls k _ _ l0_1 t293 _ ?side1 ?side2 A2.out).mono ?_
  (case side1 => repeat (first | exact (Kd.C_below HR0_1.out HB.out) | (with_reducible refine Kd.C_alloc ?_ _) | (with_reducible refine Kd.C_drewN ?_ _) | (with_reducible refine Kd.C_drew ?_)))
  (case side2 => exact HC0_1.out)
  rintro e w6 ⟨rfl, hb⟩
  refine ⟨_, rfl, ?_⟩
  replace BK291 := bb_ BK291 hb
  replace BK292 := bb_ BK292 hb
  replace HB := Aside0.mk (below_step (bl_ HB).out hb)
  (try clear hb)
  (try clear hb2)
  (try clear hk)
  (try clear hi)
  refine hK.out _ _ ⟨bc_ BK291 0, bc_ BK291 1, bc_ BK291 2⟩ (fun hHeld => ?_)
  clear hK K
  refine nm_ 7 ?_
  refine pu_ 7 10 #[true, true, true, true, true, true, true, true, false] HT_ ?_
  refine one_ (i := 8) (N := none) #[true, true, true, true, true, true, true, true, true] rfl rfl (one_of HT_.out (by kernel_rfl)) (by decide) (fun K hK => ?_)
  have hs7 : w6.cell? ⟨gb292, 0, none⟩ = some (.bool false) := bc_ BK292 0
  have hfs7 := blk_frozen BK292.out 0
  have hns7_0 := NB291_292.out
  have hms7_0 := NB292_291.out
  have hs8 : w6.cell? ⟨gb292, 1, none⟩ = some (.string (⟨#[]⟩ : ByteArray)) := bc_ BK292 1
  have hfs8 := blk_frozen BK292.out 1
  have hns8_0 := NB291_292.out
  have hms8_0 := NB292_291.out
  have hs9 : w6.cell? ⟨gb292, 2, none⟩ = some (.int .i64 0) := bc_ BK292 2
  have hfs9 := blk_frozen BK292.out 2
  have hns9_0 := NB291_292.out
  have hms9_0 := NB292_291.out
  refine skip_ (w1 := ?_) (by rfl) rfl ?_ ?_
  rotate_left
  · go_simp
    rfl
  refine hK.out _ _ ⟨((cell_far (p := ⟨gb292, _, none⟩) NB291_292.out _).trans (((cell_far (p := ⟨gb292, _, none⟩) NB291_292.out _).trans (((cell_far (p := ⟨gb292, _, none⟩) NB291_292.out _).trans (hHeld.1)))))), ((cell_far (p := ⟨gb292, _, none⟩) NB291_292.out _).trans (((cell_far (p := ⟨gb292, _, none⟩) NB291_292.out _).trans (((cell_far (p := ⟨gb292, _, none⟩) NB291_292.out _).trans (hHeld.2.1)))))), ((cell_far (p := ⟨gb292, _, none⟩) NB291_292.out _).trans (((cell_far (p := ⟨gb292, _, none⟩) NB291_292.out _).trans (((cell_far (p := ⟨gb292, _, none⟩) NB291_292.out _).trans (hHeld.2.2))))))⟩ (fun hHeld => ?_)
  clear hK K
  refine done_ (done_of HT_.out (by kernel_rfl)) ?_
  try go_wp2
  refine bodyPost_ret (results_cell_row rfl _ _ gb292 31 #[.bool a0_0, .string t293, .int .i64 a0_2] (0, 0) _ rfl (by (with_reducible repeat (first | refine blk_drewN ?_ _ | refine blk_drew ?_ | refine blk_alloc ?_ _)); refine blk_put (cs := #[.bool a0_0, .string t293, .int .i64 0]) ?_ 2 _ rfl; (with_reducible repeat (first | refine blk_drewN ?_ _ | refine blk_drew ?_ | refine blk_alloc ?_ _)); refine blk_put (cs := #[.bool a0_0, .string (⟨#[]⟩ : ByteArray), .int .i64 0]) ?_ 1 _ rfl; (with_reducible repeat (first | refine blk_drewN ?_ _ | refine blk_drew ?_ | refine blk_alloc ?_ _)); refine blk_put (cs := #[.bool false, .string (⟨#[]⟩ : ByteArray), .int .i64 0]) ?_ 0 _ rfl; (with_reducible repeat (first | refine blk_drewN ?_ _ | refine blk_drew ?_ | refine blk_alloc ?_ _)); exact BK292.out) Tryz.underlying31 rfl (by kernel_rfl)) rfl ?_
  exact ⟨ew_, (bl_ HB).out⟩

/-! ### show_Vis_Value: function 11 -/
def show_Vis_Value.f (k : Nat) (a0_0 : Bool) (a0_1 : ByteArray) (a0_2 : ByteArray) : Option (Bool × ByteArray × Int) := if a0_1.size + a0_2.size ≤ 9223372036854775807 then ((dec_Made.f k a0_0 (a0_1 ++ a0_2) (-(a0_2.size : Int))).bind fun bt296 => (some (bt296.1, bt296.2.1, bt296.2.2))) else (none)
theorem show_Vis_Value.mono : ∀ a0 a1 a2 k, LeO (show_Vis_Value.f k a0 a1 a2) (show_Vis_Value.f (k + 1) a0 a1 a2) := by
  intro a0 a1 a2 k
  unfold show_Vis_Value.f
  repeat' first
      | (with_reducible exact dec_Made.mono _ _ _ _)
      | (with_reducible exact LeO.refl _)
      | (with_reducible exact LeO.none _)
      | (with_reducible refine LeO.ite ?_ ?_)
      | (with_reducible refine LeO.bind ?_ (fun _ => ?_))
      | exact dec_Made.mono _ _ _ _
      | exact LeO.none _
      | refine LeO.ite ?_ ?_
      | refine LeO.bind ?_ (fun _ => ?_)
set_option maxHeartbeats 8000000 in
set_option maxRecDepth 100000 in
theorem show_Vis_Value.calls (k : Nat) (a0_0 : Bool) (a0_1 : ByteArray) (a0_2 : ByteArray) (r1 : Bool) (r2 : ByteArray) (r3 : Int) (w : World) (h : show_Vis_Value.f k a0_0 a0_1 a0_2 = some (r1, r2, r3)) :
    Calls Tryz.prog 11 #[.agg #[.bool a0_0, .string a0_1, .string a0_2]] w fun e w' => e = .returned (.agg #[.bool r1, .string r2, .int .i64 r3]) ∧ Below w.heap.size w w' := by
  have hu38 := Tryz.underlying38
  have hu31 := Tryz.underlying31
  have HB := Aside0.mk (Below.refl w.heap.size w)
  have H : (if a0_1.size + a0_2.size ≤ 9223372036854775807 then ((dec_Made.f k a0_0 (a0_1 ++ a0_2) (-(a0_2.size : Int))).bind fun bt296 => (some (bt296.1, bt296.2.1, bt296.2.2))) else (none)) = some (r1, r2, r3) := h
  clear h
  by_cases c2 : a0_1.size + a0_2.size ≤ 9223372036854775807
  · rw [if_pos c2] at H
    have c2b0 := eq_true c2
    have c2b1 : decide (a0_1.size + a0_2.size ≤ 9223372036854775807) = true := decide_eq_true c2
    try have c2b2 : (9223372036854775807 < a0_1.size + a0_2.size) = False := eq_false (Nat.not_lt.2 c2)
    replace H := Option.bind_eq_some_iff.mp H
    obtain ⟨⟨t296, t297, t298⟩, A30, H⟩ := H
    replace H : (some (t296, t297, t298)) = some (r1, r2, r3) := H
    have A3 := Aside0.mk A30
    clear A30
    simp only [Option.some.injEq, Prod.mk.injEq] at H
    obtain ⟨rfl, rfl, rfl⟩ := H
    go_enter Tryz.func11, Tryz.ntmps11
    go_wp2_with (first | ((with_reducible refine gate_dst (N := 1) rfl ?_); refine be_ 1 #[.bool a0_0, .string a0_1, .string a0_2] 38 ?_; intro gb294 hg w4 hbox hb; have BK294 := Aside0.mk (hbox); have GW294 := sz_ HB hg; have GE294 := sz_ HB hg; replace HB := Aside0.mk (below_step (bl_ HB).out hb); clear hb hbox hg) | ((with_reducible refine gate_dst (N := 2) rfl ?_); refine be_ 2 #[.bool false, .string (⟨#[]⟩ : ByteArray), .int .i64 0] 31 ?_; intro gb295 hg w5 hbox hb; have BK295 := Aside0.mk (hbox); have GW295 := sz_ HB hg; have GE295 := sz_ HB hg; have NB294_295 := na_ BK294 hg; have NB295_294 := nb_ BK294 hg; replace BK294 := bb_ BK294 hb; replace HB := Aside0.mk (below_step (bl_ HB).out hb); clear hb hbox hg; have hnb6 := NB294_295.out; have hnc6 := NB295_294.out; obtain ⟨hcz7_0, hcz7_1, hcz7_2, hfz7_0, hfz7_1, hfz7_2⟩ := bo3_ BK294) | ((with_reducible refine gate_callee (f := 16) rfl ?_); refine gl_ (some 14) Tryz.func16 #[.bool a0_0, .string (a0_1 ++ a0_2), .int .i64 (-(a0_2.size : Int))] ?_; (with_reducible refine (dec_Made.calls k a0_0 (a0_1 ++ a0_2) (-(a0_2.size : Int)) t296 t297 t298 _ A3.out).mono ?_); rintro e w8 ⟨rfl, hb⟩; refine ⟨_, rfl, ?_⟩; replace BK294 := bb_ BK294 hb; replace BK295 := bb_ BK295 hb; replace HB := Aside0.mk (below_step (bl_ HB).out hb); (try clear hb); (try clear hb2); (try clear hk); (try clear hi); obtain ⟨hcz9_0, hcz9_1, hcz9_2, hfz9_0, hfz9_1, hfz9_2⟩ := bo3_ BK295))
    refine bodyPost_ret (results_cell_row rfl _ _ gb295 31 #[.bool t296, .string t297, .int .i64 t298] (0, 0) _ rfl (by (with_reducible repeat (first | refine blk_drewN ?_ _ | refine blk_drew ?_ | refine blk_alloc ?_ _)); refine blk_put (cs := #[.bool t296, .string t297, .int .i64 0]) ?_ 2 _ rfl; (with_reducible repeat (first | refine blk_drewN ?_ _ | refine blk_drew ?_ | refine blk_alloc ?_ _)); refine blk_put (cs := #[.bool t296, .string (⟨#[]⟩ : ByteArray), .int .i64 0]) ?_ 1 _ rfl; (with_reducible repeat (first | refine blk_drewN ?_ _ | refine blk_drew ?_ | refine blk_alloc ?_ _)); refine blk_put (cs := #[.bool false, .string (⟨#[]⟩ : ByteArray), .int .i64 0]) ?_ 0 _ rfl; (with_reducible repeat (first | refine blk_drewN ?_ _ | refine blk_drew ?_ | refine blk_alloc ?_ _)); exact BK295.out) Tryz.underlying31 rfl (by kernel_rfl)) rfl ?_
    exact ⟨ew_, (bl_ HB).out⟩
  · rw [if_neg c2] at H
    exact absurd H (by simp)

/-! ### florinlaw03_multiple: function 31 -/
def florinlaw03_multiple.j0 : Nat → Int → Bool → Bool → ByteArray → Int → Bool → ByteArray → Int → Option (Bool)
  | 0, _, _, _, _, _, _, _, _ => none
  | k + 1, x5, x23, x300000, x300001, x300002, x301000, x301001, x301002 => if x23 = true then (some false) else ((dec_Made.f k false x300001 (wrap64 (x300002 - x301002))).bind fun bt303 => ((dec_Dec_Parts.f k bt303.1 bt303.2.1 bt303.2.2).bind fun bt307 => ((num_Div.f k bt307.1 x5).bind fun bt309 => (if bt307.2.toList = ([] : List UInt8) then (some (bt309.2 == 0)) else (some false)))))
def florinlaw03_multiple.f (k : Nat) (a0_0 : Bool) (a0_1 : ByteArray) (a0_2 : Int) (a1_0 : Bool) (a1_1 : ByteArray) (a1_2 : Int) : Option (Bool) := (num_Int.f k a1_1).bind fun bt301 => (if bt301.2 = true then (florinlaw03_multiple.j0 k bt301.1 (decide (bt301.1 < 1)) a0_0 a0_1 a0_2 a1_0 a1_1 a1_2) else (florinlaw03_multiple.j0 k bt301.1 true a0_0 a0_1 a0_2 a1_0 a1_1 a1_2))
theorem florinlaw03_multiple.mono_l : ∀ k, (∀ y0 y1 y2 y3 y4 y5 y6 y7, LeO (florinlaw03_multiple.j0 k y0 y1 y2 y3 y4 y5 y6 y7) (florinlaw03_multiple.j0 (k + 1) y0 y1 y2 y3 y4 y5 y6 y7))
  | 0 => fun _ _ _ _ _ _ _ _ r h => by simp [florinlaw03_multiple.j0] at h
  | k + 1 => by
    have ih0 := florinlaw03_multiple.mono_l k
    · intro y0 y1 y2 y3 y4 y5 y6 y7
      unfold florinlaw03_multiple.j0
      repeat' first
      | (with_reducible exact ih0 _ _ _ _ _ _ _ _)
      | (with_reducible exact dec_Dec_Parts.mono _ _ _ _)
      | (with_reducible exact dec_Made.mono _ _ _ _)
      | (with_reducible exact num_Div.mono _ _ _)
      | (with_reducible exact num_Int.mono _ _)
      | (with_reducible exact LeO.refl _)
      | (with_reducible exact LeO.none _)
      | (with_reducible refine LeO.ite ?_ ?_)
      | (with_reducible refine LeO.bind ?_ (fun _ => ?_))
      | exact ih0 _ _ _ _ _ _ _ _
      | exact dec_Dec_Parts.mono _ _ _ _
      | exact dec_Made.mono _ _ _ _
      | exact num_Div.mono _ _ _
      | exact num_Int.mono _ _
      | exact LeO.none _
      | refine LeO.ite ?_ ?_
      | refine LeO.bind ?_ (fun _ => ?_)
theorem florinlaw03_multiple.mono : ∀ a0 a1 a2 a3 a4 a5 k, LeO (florinlaw03_multiple.f k a0 a1 a2 a3 a4 a5) (florinlaw03_multiple.f (k + 1) a0 a1 a2 a3 a4 a5) := by
  intro a0 a1 a2 a3 a4 a5 k
  have ih0 := florinlaw03_multiple.mono_l k
  unfold florinlaw03_multiple.f
  repeat' first
      | (with_reducible exact ih0 _ _ _ _ _ _ _ _)
      | (with_reducible exact dec_Dec_Parts.mono _ _ _ _)
      | (with_reducible exact dec_Made.mono _ _ _ _)
      | (with_reducible exact num_Div.mono _ _ _)
      | (with_reducible exact num_Int.mono _ _)
      | (with_reducible exact LeO.refl _)
      | (with_reducible exact LeO.none _)
      | (with_reducible refine LeO.ite ?_ ?_)
      | (with_reducible refine LeO.bind ?_ (fun _ => ?_))
      | exact ih0 _ _ _ _ _ _ _ _
      | exact dec_Dec_Parts.mono _ _ _ _
      | exact dec_Made.mono _ _ _ _
      | exact num_Div.mono _ _ _
      | exact num_Int.mono _ _
      | exact LeO.none _
      | refine LeO.ite ?_ ?_
      | refine LeO.bind ?_ (fun _ => ?_)
set_option maxHeartbeats 8000000 in
set_option maxRecDepth 100000 in
theorem florinlaw03_multiple.calls (k : Nat) (a0_0 : Bool) (a0_1 : ByteArray) (a0_2 : Int) (a1_0 : Bool) (a1_1 : ByteArray) (a1_2 : Int) (r : Bool) (w : World) (h : florinlaw03_multiple.f k a0_0 a0_1 a0_2 a1_0 a1_1 a1_2 = some r) :
    Calls Tryz.prog 31 #[.agg #[.bool a0_0, .string a0_1, .int .i64 a0_2], .agg #[.bool a1_0, .string a1_1, .int .i64 a1_2]] w fun e w' => e = .returned (.bool r) ∧ Below w.heap.size w w' := by
  have hu31 := Tryz.underlying31
  have HB := Aside0.mk (Below.refl w.heap.size w)
  have H : ((num_Int.f k a1_1).bind fun bt301 => (if bt301.2 = true then (florinlaw03_multiple.j0 k bt301.1 (decide (bt301.1 < 1)) a0_0 a0_1 a0_2 a1_0 a1_1 a1_2) else (florinlaw03_multiple.j0 k bt301.1 true a0_0 a0_1 a0_2 a1_0 a1_1 a1_2))) = some r := h
  clear h
  replace H := Option.bind_eq_some_iff.mp H
  obtain ⟨⟨t301, t302⟩, A30, H⟩ := H
  replace H : (if t302 = true then (florinlaw03_multiple.j0 k t301 (decide (t301 < 1)) a0_0 a0_1 a0_2 a1_0 a1_1 a1_2) else (florinlaw03_multiple.j0 k t301 true a0_0 a0_1 a0_2 a1_0 a1_1 a1_2)) = some r := H
  have A3 := Aside0.mk A30
  clear A30
  have HC4 := Aside0.mk H
  clear H
  go_enter Tryz.func31, Tryz.ntmps31
  go_upto_region 2 with (first | ((with_reducible refine gate_dst (N := 2) rfl ?_); refine be_ 2 #[.bool a0_0, .string a0_1, .int .i64 a0_2] 31 ?_; intro gb299 hg w5 hbox hb; have BK299 := Aside0.mk (hbox); have GW299 := sz_ HB hg; have GE299 := sz_ HB hg; replace HB := Aside0.mk (below_step (bl_ HB).out hb); clear hb hbox hg) | ((with_reducible refine gate_dst (N := 3) rfl ?_); refine be_ 3 #[.bool a1_0, .string a1_1, .int .i64 a1_2] 31 ?_; intro gb300 hg w6 hbox hb; have BK300 := Aside0.mk (hbox); have GW300 := sz_ HB hg; have GE300 := sz_ HB hg; have NB299_300 := na_ BK299 hg; have NB300_299 := nb_ BK299 hg; replace BK299 := bb_ BK299 hb; replace HB := Aside0.mk (below_step (bl_ HB).out hb); clear hb hbox hg; have hnb7 := NB300_299.out; have hnc7 := NB299_300.out; obtain ⟨hcz8_0, hcz8_1, hcz8_2, hfz8_0, hfz8_1, hfz8_2⟩ := bo3_ BK300) | ((with_reducible refine gate_callee (f := 55) rfl ?_); refine gl_ (some 15) Tryz.func55 #[.string a1_1] ?_; (with_reducible refine (num_Int.calls k a1_1 t301 t302 _ A3.out).mono ?_); rintro e w9 ⟨rfl, hb⟩; refine ⟨_, rfl, ?_⟩; replace BK299 := bb_ BK299 hb; replace BK300 := bb_ BK300 hb; replace HB := Aside0.mk (below_step (bl_ HB).out hb); (try clear hb); (try clear hb2); (try clear hk); (try clear hi)))
  (try simp only [Act.put, List.setIfInBounds_toArray, List.set_cons_zero, List.set_cons_succ])
  go_cut [23] (fun v23 wc => ∃ (kq : Nat) (x23_3 : Bool), v23 = .bool x23_3 ∧ Aside0 (florinlaw03_multiple.j0 kq t301 x23_3 a0_0 a0_1 a0_2 a1_0 a1_1 a1_2 = some r) ∧ Aside0 (kq ≤ k) ∧ Aside0 (wc.heap[gb299]? = some (.cells #[.bool a0_0, .string a0_1, .int .i64 a0_2] 31 (0, 0))) ∧ Aside0 (wc.heap[gb300]? = some (.cells #[.bool a1_0, .string a1_1, .int .i64 a1_2] 31 (0, 0))) ∧ Aside0 (Below w.heap.size w wc))
  case first =>
    have H := HC4.out
    clear HC4
    by_cases c10 : t302 = true
    · subst c10
      have H1 : (florinlaw03_multiple.j0 k t301 (decide (t301 < 1)) a0_0 a0_1 a0_2 a1_0 a1_1 a1_2) = some r := by rw [if_pos rfl] at H; exact H
      clear H
      have H := H1
      clear H1
      have H' := Aside0.mk H
      clear H
      go_wp2
      go_meet
      case rel => exact ⟨_, (decide (t301 < 1)), eq_, H', ⟨by first | omega | exact Nat.le_refl _⟩, (bk_ BK299), (bk_ BK300), (bl_ HB)⟩
    · replace c10 := Bool.eq_false_iff.mpr c10
      subst c10
      have H1 : (florinlaw03_multiple.j0 k t301 true a0_0 a0_1 a0_2 a1_0 a1_1 a1_2) = some r := by rw [if_neg (show ¬ (false = true) by decide)] at H; exact H
      clear H
      have H := H1
      clear H1
      have H' := Aside0.mk H
      clear H
      go_wp2
      go_meet
      case rel => exact ⟨_, (true), eq_, H', ⟨by first | omega | exact Nat.le_refl _⟩, (bk_ BK299), (bk_ BK300), (bl_ HB)⟩
  case rest =>
    clear HC4
    try clear c1
    try clear p2
    try clear c3
    try clear c5
    try clear p6
    try clear c7
    try clear c10
    try clear hcz8_0
    try clear hcz8_1
    try clear hcz8_2
    try clear hfz8_0
    try clear hfz8_1
    try clear hfz8_2
    obtain ⟨kq, x23_3, rfl, HA, HJ3, BK299, BK300, HB⟩ := hcut
    cases kq with
    | zero => exact absurd HA.out (by simp [florinlaw03_multiple.j0])
    | succ kj3 =>
      have H := HA.out
      clear HA
      simp only [florinlaw03_multiple.j0] at H
      by_cases c11 : x23_3 = true
      · subst c11
        have H1 : (some false) = some r := by rw [if_pos rfl] at H; exact H
        clear H
        have H := H1
        clear H1
        obtain rfl := Option.some.inj H
        go_wp2
        go_ret
        exact ⟨ew_, (bl_ HB).out⟩
      · replace c11 := Bool.eq_false_iff.mpr c11
        subst c11
        have H1 : ((dec_Made.f kj3 false a0_1 (wrap64 (a0_2 - a1_2))).bind fun bt303 => ((dec_Dec_Parts.f kj3 bt303.1 bt303.2.1 bt303.2.2).bind fun bt307 => ((num_Div.f kj3 bt307.1 t301).bind fun bt309 => (if bt307.2.toList = ([] : List UInt8) then (some (bt309.2 == 0)) else (some false))))) = some r := by rw [if_neg (show ¬ (false = true) by decide)] at H; exact H
        clear H
        have H := H1
        clear H1
        replace H := Option.bind_eq_some_iff.mp H
        obtain ⟨⟨t303, t304, t305⟩, A120, H⟩ := H
        replace H : ((dec_Dec_Parts.f kj3 t303 t304 t305).bind fun bt307 => ((num_Div.f kj3 bt307.1 t301).bind fun bt309 => (if bt307.2.toList = ([] : List UInt8) then (some (bt309.2 == 0)) else (some false)))) = some r := H
        have A12 := Aside0.mk A120
        clear A120
        replace H := Option.bind_eq_some_iff.mp H
        obtain ⟨⟨t307, t308⟩, A130, H⟩ := H
        replace H : ((num_Div.f kj3 t307 t301).bind fun bt309 => (if t308.toList = ([] : List UInt8) then (some (bt309.2 == 0)) else (some false))) = some r := H
        have A13 := Aside0.mk A130
        clear A130
        replace H := Option.bind_eq_some_iff.mp H
        obtain ⟨⟨t309, t310⟩, A140, H⟩ := H
        replace H : (if t308.toList = ([] : List UInt8) then (some (t310 == 0)) else (some false)) = some r := H
        have A14 := Aside0.mk A140
        clear A140
        by_cases c15 : t308.toList = ([] : List UInt8)
        · rw [if_pos c15] at H
          have c15b0 : (t308.toList == ([] : List UInt8)) = true := beq_iff_eq.mpr c15
          have c15b1 : (t308.toList != ([] : List UInt8)) = false := bne_eq_false_iff_eq.mpr c15
          have c15b2 : (t308.toList.isEmpty) = true := by rw [c15]; rfl
          clear c15
          obtain rfl := Option.some.inj H
          have hnb16 := NB299_300.out
          have hnc16 := NB300_299.out
          obtain ⟨hcz17_0, hcz17_1, hcz17_2, hfz17_0, hfz17_1, hfz17_2⟩ := bo3_ BK299
          obtain ⟨hcz18_0, hcz18_1, hcz18_2, hfz18_0, hfz18_1, hfz18_2⟩ := bo3_ BK300
          go_wp2_with (first | ((with_reducible refine gate_callee (f := 16) rfl ?_); refine gl_ (some 31) Tryz.func16 #[.bool false, .string a0_1, .int .i64 (wrap64 (a0_2 - a1_2))] ?_; (with_reducible refine (dec_Made.calls kj3 false a0_1 (wrap64 (a0_2 - a1_2)) t303 t304 t305 _ A12.out).mono ?_); rintro e w19 ⟨rfl, hb⟩; refine ⟨_, rfl, ?_⟩; replace BK299 := bb_ BK299 hb; replace BK300 := bb_ BK300 hb; replace HB := Aside0.mk (below_step (bl_ HB).out hb); (try clear hb); (try clear hb2); (try clear hk); (try clear hi)) | ((with_reducible refine gate_dst (N := 7) rfl ?_); refine be_ 7 #[.bool false, .string (⟨#[]⟩ : ByteArray), .int .i64 0] 31 ?_; intro gb306 hg w20 hbox hb; have BK306 := Aside0.mk (hbox); have GW306 := sz_ HB hg; have GE306 := sz_ HB hg; have NB299_306 := na_ BK299 hg; have NB306_299 := nb_ BK299 hg; have NB300_306 := na_ BK300 hg; have NB306_300 := nb_ BK300 hg; replace BK299 := bb_ BK299 hb; replace BK300 := bb_ BK300 hb; replace HB := Aside0.mk (below_step (bl_ HB).out hb); clear hb hbox hg; have hnb21 := NB306_299.out; have hnc21 := NB299_306.out; have hnb22 := NB306_300.out; have hnc22 := NB300_306.out; obtain ⟨hcz23_0, hcz23_1, hcz23_2, hfz23_0, hfz23_1, hfz23_2⟩ := bo3_ BK306) | ((with_reducible refine gate_callee (f := 21) rfl ?_); refine gl_ (some 34) Tryz.func21 #[.agg #[.bool t303, .string t304, .int .i64 t305]] ?_; (with_reducible refine (dec_Dec_Parts.calls kj3 t303 t304 t305 t307 t308 _ A13.out).mono ?_); rintro e w24 ⟨rfl, hb⟩; refine ⟨_, rfl, ?_⟩; have n0_ := Aside0.mk (blk_below (g := gb299) (o := .cells #[.bool a0_0, .string a0_1, .int .i64 a0_2] 31 (0, 0)) (by (with_reducible repeat (first | refine blk_drewN ?_ _ | refine blk_drew ?_ | refine blk_alloc ?_ _)); refine blk_far ?_ NB299_306.out _; (with_reducible repeat (first | refine blk_drewN ?_ _ | refine blk_drew ?_ | refine blk_alloc ?_ _)); refine blk_far ?_ NB299_306.out _; (with_reducible repeat (first | refine blk_drewN ?_ _ | refine blk_drew ?_ | refine blk_alloc ?_ _)); refine blk_far ?_ NB299_306.out _; (with_reducible repeat (first | refine blk_drewN ?_ _ | refine blk_drew ?_ | refine blk_alloc ?_ _)); exact BK299.out) hb); have n1_ := Aside0.mk (blk_below (g := gb300) (o := .cells #[.bool a1_0, .string a1_1, .int .i64 a1_2] 31 (0, 0)) (by (with_reducible repeat (first | refine blk_drewN ?_ _ | refine blk_drew ?_ | refine blk_alloc ?_ _)); refine blk_far ?_ NB300_306.out _; (with_reducible repeat (first | refine blk_drewN ?_ _ | refine blk_drew ?_ | refine blk_alloc ?_ _)); refine blk_far ?_ NB300_306.out _; (with_reducible repeat (first | refine blk_drewN ?_ _ | refine blk_drew ?_ | refine blk_alloc ?_ _)); refine blk_far ?_ NB300_306.out _; (with_reducible repeat (first | refine blk_drewN ?_ _ | refine blk_drew ?_ | refine blk_alloc ?_ _)); exact BK300.out) hb); have n2_ := Aside0.mk (blk_below (g := gb306) (o := .cells #[.bool t303, .string t304, .int .i64 t305] 31 (0, 0)) (by (with_reducible repeat (first | refine blk_drewN ?_ _ | refine blk_drew ?_ | refine blk_alloc ?_ _)); refine blk_put (cs := #[.bool t303, .string t304, .int .i64 0]) ?_ 2 _ rfl; (with_reducible repeat (first | refine blk_drewN ?_ _ | refine blk_drew ?_ | refine blk_alloc ?_ _)); refine blk_put (cs := #[.bool t303, .string (⟨#[]⟩ : ByteArray), .int .i64 0]) ?_ 1 _ rfl; (with_reducible repeat (first | refine blk_drewN ?_ _ | refine blk_drew ?_ | refine blk_alloc ?_ _)); refine blk_put (cs := #[.bool false, .string (⟨#[]⟩ : ByteArray), .int .i64 0]) ?_ 0 _ rfl; (with_reducible repeat (first | refine blk_drewN ?_ _ | refine blk_drew ?_ | refine blk_alloc ?_ _)); exact BK306.out) hb); have n3_ := Aside0.mk (below_step (bl_ HB).out hb); clear BK299; clear BK300; clear BK306; clear HB; have BK299 := n0_; have BK300 := n1_; have BK306 := n2_; have HB := n3_; clear n0_ n1_ n2_ n3_; (try clear hb); (try clear hb2); (try clear hk); (try clear hi)) | ((with_reducible refine gate_callee (f := 50) rfl ?_); refine gl_ (some 40) Tryz.func50 #[.string t307, .int .i64 t301] ?_; (with_reducible refine (num_Div.calls kj3 t307 t301 t309 t310 _ A14.out).mono ?_); rintro e w25 ⟨rfl, hb⟩; refine ⟨_, rfl, ?_⟩; replace BK299 := bb_ BK299 hb; replace BK300 := bb_ BK300 hb; replace BK306 := bb_ BK306 hb; replace HB := Aside0.mk (below_step (bl_ HB).out hb); (try clear hb); (try clear hb2); (try clear hk); (try clear hi)))
          go_ret
          exact ⟨ew_, (bl_ HB).out⟩
        · rw [if_neg c15] at H
          have c15b0 : (t308.toList == ([] : List UInt8)) = false := beq_eq_false_iff_ne.mpr c15
          have c15b1 : (t308.toList != ([] : List UInt8)) = true := bne_iff_ne.mpr c15
          have c15b2 : (t308.toList.isEmpty) = false := by rw [given_isEmpty, bne_iff_ne.mpr c15]; rfl
          obtain rfl := Option.some.inj H
          have hnb26 := NB299_300.out
          have hnc26 := NB300_299.out
          obtain ⟨hcz27_0, hcz27_1, hcz27_2, hfz27_0, hfz27_1, hfz27_2⟩ := bo3_ BK299
          obtain ⟨hcz28_0, hcz28_1, hcz28_2, hfz28_0, hfz28_1, hfz28_2⟩ := bo3_ BK300
          go_wp2_with (first | ((with_reducible refine gate_callee (f := 16) rfl ?_); refine gl_ (some 31) Tryz.func16 #[.bool false, .string a0_1, .int .i64 (wrap64 (a0_2 - a1_2))] ?_; (with_reducible refine (dec_Made.calls kj3 false a0_1 (wrap64 (a0_2 - a1_2)) t303 t304 t305 _ A12.out).mono ?_); rintro e w29 ⟨rfl, hb⟩; refine ⟨_, rfl, ?_⟩; replace BK299 := bb_ BK299 hb; replace BK300 := bb_ BK300 hb; replace HB := Aside0.mk (below_step (bl_ HB).out hb); (try clear hb); (try clear hb2); (try clear hk); (try clear hi)) | ((with_reducible refine gate_dst (N := 7) rfl ?_); refine be_ 7 #[.bool false, .string (⟨#[]⟩ : ByteArray), .int .i64 0] 31 ?_; intro gb306 hg w30 hbox hb; have BK306 := Aside0.mk (hbox); have GW306 := sz_ HB hg; have GE306 := sz_ HB hg; have NB299_306 := na_ BK299 hg; have NB306_299 := nb_ BK299 hg; have NB300_306 := na_ BK300 hg; have NB306_300 := nb_ BK300 hg; replace BK299 := bb_ BK299 hb; replace BK300 := bb_ BK300 hb; replace HB := Aside0.mk (below_step (bl_ HB).out hb); clear hb hbox hg; have hnb31 := NB306_299.out; have hnc31 := NB299_306.out; have hnb32 := NB306_300.out; have hnc32 := NB300_306.out; obtain ⟨hcz33_0, hcz33_1, hcz33_2, hfz33_0, hfz33_1, hfz33_2⟩ := bo3_ BK306) | ((with_reducible refine gate_callee (f := 21) rfl ?_); refine gl_ (some 34) Tryz.func21 #[.agg #[.bool t303, .string t304, .int .i64 t305]] ?_; (with_reducible refine (dec_Dec_Parts.calls kj3 t303 t304 t305 t307 t308 _ A13.out).mono ?_); rintro e w34 ⟨rfl, hb⟩; refine ⟨_, rfl, ?_⟩; have n0_ := Aside0.mk (blk_below (g := gb299) (o := .cells #[.bool a0_0, .string a0_1, .int .i64 a0_2] 31 (0, 0)) (by (with_reducible repeat (first | refine blk_drewN ?_ _ | refine blk_drew ?_ | refine blk_alloc ?_ _)); refine blk_far ?_ NB299_306.out _; (with_reducible repeat (first | refine blk_drewN ?_ _ | refine blk_drew ?_ | refine blk_alloc ?_ _)); refine blk_far ?_ NB299_306.out _; (with_reducible repeat (first | refine blk_drewN ?_ _ | refine blk_drew ?_ | refine blk_alloc ?_ _)); refine blk_far ?_ NB299_306.out _; (with_reducible repeat (first | refine blk_drewN ?_ _ | refine blk_drew ?_ | refine blk_alloc ?_ _)); exact BK299.out) hb); have n1_ := Aside0.mk (blk_below (g := gb300) (o := .cells #[.bool a1_0, .string a1_1, .int .i64 a1_2] 31 (0, 0)) (by (with_reducible repeat (first | refine blk_drewN ?_ _ | refine blk_drew ?_ | refine blk_alloc ?_ _)); refine blk_far ?_ NB300_306.out _; (with_reducible repeat (first | refine blk_drewN ?_ _ | refine blk_drew ?_ | refine blk_alloc ?_ _)); refine blk_far ?_ NB300_306.out _; (with_reducible repeat (first | refine blk_drewN ?_ _ | refine blk_drew ?_ | refine blk_alloc ?_ _)); refine blk_far ?_ NB300_306.out _; (with_reducible repeat (first | refine blk_drewN ?_ _ | refine blk_drew ?_ | refine blk_alloc ?_ _)); exact BK300.out) hb); have n2_ := Aside0.mk (blk_below (g := gb306) (o := .cells #[.bool t303, .string t304, .int .i64 t305] 31 (0, 0)) (by (with_reducible repeat (first | refine blk_drewN ?_ _ | refine blk_drew ?_ | refine blk_alloc ?_ _)); refine blk_put (cs := #[.bool t303, .string t304, .int .i64 0]) ?_ 2 _ rfl; (with_reducible repeat (first | refine blk_drewN ?_ _ | refine blk_drew ?_ | refine blk_alloc ?_ _)); refine blk_put (cs := #[.bool t303, .string (⟨#[]⟩ : ByteArray), .int .i64 0]) ?_ 1 _ rfl; (with_reducible repeat (first | refine blk_drewN ?_ _ | refine blk_drew ?_ | refine blk_alloc ?_ _)); refine blk_put (cs := #[.bool false, .string (⟨#[]⟩ : ByteArray), .int .i64 0]) ?_ 0 _ rfl; (with_reducible repeat (first | refine blk_drewN ?_ _ | refine blk_drew ?_ | refine blk_alloc ?_ _)); exact BK306.out) hb); have n3_ := Aside0.mk (below_step (bl_ HB).out hb); clear BK299; clear BK300; clear BK306; clear HB; have BK299 := n0_; have BK300 := n1_; have BK306 := n2_; have HB := n3_; clear n0_ n1_ n2_ n3_; (try clear hb); (try clear hb2); (try clear hk); (try clear hi)) | ((with_reducible refine gate_callee (f := 50) rfl ?_); refine gl_ (some 40) Tryz.func50 #[.string t307, .int .i64 t301] ?_; (with_reducible refine (num_Div.calls kj3 t307 t301 t309 t310 _ A14.out).mono ?_); rintro e w35 ⟨rfl, hb⟩; refine ⟨_, rfl, ?_⟩; replace BK299 := bb_ BK299 hb; replace BK300 := bb_ BK300 hb; replace BK306 := bb_ BK306 hb; replace HB := Aside0.mk (below_step (bl_ HB).out hb); (try clear hb); (try clear hb2); (try clear hk); (try clear hi)))
          go_ret
          exact ⟨ew_, (bl_ HB).out⟩

/-! ### dec_both: function 73 -/
def dec_both.f (a0_0 : Bool) (a0_1 : ByteArray) (a0_2 : Int) (a1_0 : Bool) (a1_1 : ByteArray) (a1_2 : Int) : Option (ByteArray × ByteArray × Int) := (num_Zeros.f (wrap64 (a0_2 - (mn a0_2 a1_2)))).bind fun t313 => (if a0_1.size + t313.size ≤ 9223372036854775807 then ((num_Zeros.f (wrap64 (a1_2 - (mn a0_2 a1_2)))).bind fun t314 => (if a1_1.size + t314.size ≤ 9223372036854775807 then (some (a0_1 ++ t313, a1_1 ++ t314, mn a0_2 a1_2)) else (none))) else (none))
def dec_both.T2 : Bool × List (List Nat × List Nat) := (true, [([], []), ([0], [0]), ([], []), ([2], [2]), ([], []), ([3, 4], [3, 4]), ([5], [5]), ([1, 6], [1, 6]), ([], []), ([8], [8]), ([], []), ([10], [10]), ([], []), ([11, 12], [11, 12]), ([13, 6], [13]), ([9, 14], [9, 14]), ([], []), ([7, 14, 0, 1, 2, 3, 4, 5, 6, 7], [7]), ([15, 17, 0, 1, 2, 3, 4, 5, 6, 7, 8, 9, 10, 11, 12, 13, 14, 15, 17], [15]), ([16, 18, 0, 1, 2, 3, 4, 5, 6, 7, 8, 9, 10, 11, 12, 13, 14, 15, 16, 17, 18], [16])])
def dec_both.B2 : List Nat := [0, 1, 0, 4, 0, 28, 60, 127, 0, 256, 0, 1024, 0, 7168, 15484, 32636, 0, 31999, 196607, 524287]
theorem dec_both.tab2 : rtab .any (opsOf Tryz.f73 2) = dec_both.T2 := by kernel_rfl
theorem dec_both.bits2 : waitsOk dec_both.T2.2 dec_both.B2 = true := by kernel_rfl
set_option maxHeartbeats 8000000 in
set_option maxRecDepth 100000 in
theorem dec_both.calls (a0_0 : Bool) (a0_1 : ByteArray) (a0_2 : Int) (a1_0 : Bool) (a1_1 : ByteArray) (a1_2 : Int) (r1 : ByteArray) (r2 : ByteArray) (r3 : Int) (w : World) (h : dec_both.f a0_0 a0_1 a0_2 a1_0 a1_1 a1_2 = some (r1, r2, r3)) :
    Calls Tryz.prog 73 #[.agg #[.bool a0_0, .string a0_1, .int .i64 a0_2], .agg #[.bool a1_0, .string a1_1, .int .i64 a1_2]] w fun e w' => e = .returned (.tuple #[.string r1, .string r2, .int .i64 r3]) ∧ Below w.heap.size w w' := by
  have hu31 := Tryz.underlying31
  have HB := Aside0.mk (Below.refl w.heap.size w)
  have H : ((num_Zeros.f (wrap64 (a0_2 - (mn a0_2 a1_2)))).bind fun t313 => (if a0_1.size + t313.size ≤ 9223372036854775807 then ((num_Zeros.f (wrap64 (a1_2 - (mn a0_2 a1_2)))).bind fun t314 => (if a1_1.size + t314.size ≤ 9223372036854775807 then (some (a0_1 ++ t313, a1_1 ++ t314, mn a0_2 a1_2)) else (none))) else (none))) = some (r1, r2, r3) := h
  clear h
  obtain ⟨ji3, hji3⟩ : ∃ j_ : Int, (mn a0_2 a1_2) = j_ := ⟨_, rfl⟩
  replace H : ((num_Zeros.f (wrap64 (a0_2 - (ji3)))).bind fun t313 => (if a0_1.size + t313.size ≤ 9223372036854775807 then ((num_Zeros.f (wrap64 (a1_2 - (ji3)))).bind fun t314 => (if a1_1.size + t314.size ≤ 9223372036854775807 then (some (a0_1 ++ t313, a1_1 ++ t314, ji3)) else (none))) else (none))) = some (r1, r2, r3) := by first | (rw [hji3] at H; exact H) | (simp only [hji3] at H ⊢; exact H)
  have hji3_ : (if a1_2 < a0_2 then a1_2 else a0_2) = ji3 := hji3
  replace H := Option.bind_eq_some_iff.mp H
  obtain ⟨t313, A40, H⟩ := H
  replace H : (if a0_1.size + t313.size ≤ 9223372036854775807 then ((num_Zeros.f (wrap64 (a1_2 - (ji3)))).bind fun t314 => (if a1_1.size + t314.size ≤ 9223372036854775807 then (some (a0_1 ++ t313, a1_1 ++ t314, ji3)) else (none))) else (none)) = some (r1, r2, r3) := H
  have A4 := Aside0.mk A40
  clear A40
  by_cases c5 : a0_1.size + t313.size ≤ 9223372036854775807
  · rw [if_pos c5] at H
    have c5b0 := eq_true c5
    have c5b1 : decide (a0_1.size + t313.size ≤ 9223372036854775807) = true := decide_eq_true c5
    try have c5b2 : (9223372036854775807 < a0_1.size + t313.size) = False := eq_false (Nat.not_lt.2 c5)
    replace H := Option.bind_eq_some_iff.mp H
    obtain ⟨t314, A60, H⟩ := H
    replace H : (if a1_1.size + t314.size ≤ 9223372036854775807 then (some (a0_1 ++ t313, a1_1 ++ t314, ji3)) else (none)) = some (r1, r2, r3) := H
    have A6 := Aside0.mk A60
    clear A60
    by_cases c7 : a1_1.size + t314.size ≤ 9223372036854775807
    · rw [if_pos c7] at H
      have c7b0 := eq_true c7
      have c7b1 : decide (a1_1.size + t314.size ≤ 9223372036854775807) = true := decide_eq_true c7
      try have c7b2 : (9223372036854775807 < a1_1.size + t314.size) = False := eq_false (Nat.not_lt.2 c7)
      simp only [Option.some.injEq, Prod.mk.injEq] at H
      obtain ⟨rfl, rfl, rfl⟩ := H
      go_enter Tryz.func73, Tryz.ntmps73
      try go_wp2_with (first | ((with_reducible refine gate_dst (N := 2) rfl ?_); refine be_ 2 #[.bool a0_0, .string a0_1, .int .i64 a0_2] 31 ?_; intro gb311 hg w8 hbox hb; have BK311 := Aside0.mk (hbox); have GW311 := sz_ HB hg; have GE311 := sz_ HB hg; replace HB := Aside0.mk (below_step (bl_ HB).out hb); clear hb hbox hg) | ((with_reducible refine gate_dst (N := 3) rfl ?_); refine be_ 3 #[.bool a1_0, .string a1_1, .int .i64 a1_2] 31 ?_; intro gb312 hg w9 hbox hb; have BK312 := Aside0.mk (hbox); have GW312 := sz_ HB hg; have GE312 := sz_ HB hg; have NB311_312 := na_ BK311 hg; have NB312_311 := nb_ BK311 hg; replace BK311 := bb_ BK311 hb; replace HB := Aside0.mk (below_step (bl_ HB).out hb); clear hb hbox hg; have hnb10 := NB311_312.out; have hnc10 := NB312_311.out; obtain ⟨hcz11_0, hcz11_1, hcz11_2, hfz11_0, hfz11_1, hfz11_2⟩ := bo3_ BK311; obtain ⟨hcz12_0, hcz12_1, hcz12_2, hfz12_0, hfz12_1, hfz12_2⟩ := bo3_ BK312))
      replace BK311 := Aside0.mk (blk_drew BK311.out)
      replace BK312 := Aside0.mk (blk_drew BK312.out)
      replace HB := Aside0.mk (below_drew1 HB.out)
      refine start_ (n := 20) (S := fun w' => w'.cell? ⟨gb311, 0, none⟩ = some (.bool a0_0) ∧ w'.cell? ⟨gb311, 1, none⟩ = some (.string a0_1) ∧ w'.cell? ⟨gb311, 2, none⟩ = some (.int .i64 a0_2) ∧ w'.cell? ⟨gb312, 0, none⟩ = some (.bool a1_0) ∧ w'.cell? ⟨gb312, 1, none⟩ = some (.string a1_1) ∧ w'.cell? ⟨gb312, 2, none⟩ = some (.int .i64 a1_2)) (ds := []) #[false, false, false, false, false, false, false, false, false, false, false, false, false, false, false, false, false, false, false, false] (by kernel_rfl) rfl rfl ⟨bc_ BK311 0, bc_ BK311 1, bc_ BK311 2, bc_ BK312 0, bc_ BK312 1, bc_ BK312 2⟩ (fun hHeld => ?_); refine with_tabW dec_both.tab2 dec_both.bits2 (fun HT_ HW_ => ?_)
      generalize w9.drew = w13 at BK311 BK312 HB hHeld ⊢
      refine pu_ 0 13 (bm_ 20 1) HT_ ?_
      refine pu_ 2 15 (bm_ 20 5) HT_ ?_
      refine pu_ 4 17 (bm_ 20 21) HT_ ?_
      refine pu_ 8 21 (bm_ 20 277) HT_ ?_
      refine pu_ 10 23 (bm_ 20 1301) HT_ ?_
      refine pu_ 12 25 (bm_ 20 5397) HT_ ?_
      refine pu_ 16 29 (bm_ 20 70933) HT_ ?_
      refine tk_ 1 14 (bm_ 20 70935) HT_ HW_ hHeld rfl (by rintro w' ⟨s0, s1, s2, s3, s4, s5⟩; go_simp; with_reducible rfl) ?_
      refine tk_ 3 16 (bm_ 20 70943) HT_ HW_ hHeld rfl (by rintro w' ⟨s0, s1, s2, s3, s4, s5⟩; go_simp; with_reducible rfl) ?_
      refine pu_ 5 18 (bm_ 20 70975) HT_ ?_
      refine tk_ 9 22 (bm_ 20 71487) HT_ HW_ hHeld rfl (by rintro w' ⟨s0, s1, s2, s3, s4, s5⟩; go_simp; with_reducible rfl) ?_
      refine tk_ 11 24 (bm_ 20 73535) HT_ HW_ hHeld rfl (by rintro w' ⟨s0, s1, s2, s3, s4, s5⟩; go_simp; with_reducible rfl) ?_
      refine pu_ 13 26 (bm_ 20 81727) HT_ ?_
      refine one_ (i := 6) (N := some 19) (bm_ 20 81791) rfl rfl (one_of HT_.out (by kernel_rfl)) (by decide) (fun K hK => ?_)
      refine goes_ Tryz.func24 (by kernel_rfl) rfl #[.int .i64 (wrap64 (a0_2 - (ji3)))] (by rfl) rfl rfl (by (try simp only [List.map_toArray, List.map_cons, List.map_nil]); first | done | (simp only [hji3]; rfl) | rfl | (simp only [List.length_drop, List.length_take]; rfl) | (have z_ : ∀ s_ : ByteArray, s_.size ≤ 9223372036854775807 → -(s_.size : Int) = wrap64 (-(s_.size : Int)) := (fun s_ h_ => by unfold wrap64; omega); rw [← z_ _ (by omega)]; rfl) | (simp only [ByteArray.size_append]; rfl)) ?_
      with_reducible refine (num_Zeros.calls (wrap64 (a0_2 - (ji3))) t313 _ A4.out).mono ?_
      rintro e w14 ⟨rfl, hb⟩
      refine ⟨_, rfl, ?_⟩
      replace BK311 := bb_ BK311 hb
      replace BK312 := bb_ BK312 hb
      replace HB := Aside0.mk (below_step (bl_ HB).out hb)
      (try clear hb)
      (try clear hb2)
      (try clear hk)
      (try clear hi)
      refine hK.out _ _ ⟨bc_ BK311 0, bc_ BK311 1, bc_ BK311 2, bc_ BK312 0, bc_ BK312 1, bc_ BK312 2⟩ (fun hHeld => ?_)
      clear hK K
      refine nm_ 19 ?_
      refine pu_ 7 20 (bm_ 20 81919) HT_ ?_
      refine one_ (i := 14) (N := some 27) (bm_ 20 98303) rfl rfl (one_of HT_.out (by kernel_rfl)) (by decide) (fun K hK => ?_)
      refine goes_ Tryz.func24 (by kernel_rfl) rfl #[.int .i64 (wrap64 (a1_2 - (ji3)))] (by rfl) rfl rfl (by (try simp only [List.map_toArray, List.map_cons, List.map_nil]); first | done | (simp only [hji3]; rfl) | rfl | (simp only [List.length_drop, List.length_take]; rfl) | (have z_ : ∀ s_ : ByteArray, s_.size ≤ 9223372036854775807 → -(s_.size : Int) = wrap64 (-(s_.size : Int)) := (fun s_ h_ => by unfold wrap64; omega); rw [← z_ _ (by omega)]; rfl) | (simp only [ByteArray.size_append]; rfl)) ?_
      with_reducible refine (num_Zeros.calls (wrap64 (a1_2 - (ji3))) t314 _ A6.out).mono ?_
      rintro e w15 ⟨rfl, hb⟩
      refine ⟨_, rfl, ?_⟩
      replace BK311 := bb_ BK311 hb
      replace BK312 := bb_ BK312 hb
      replace HB := Aside0.mk (below_step (bl_ HB).out hb)
      (try clear hb)
      (try clear hb2)
      (try clear hk)
      (try clear hi)
      refine hK.out _ _ ⟨bc_ BK311 0, bc_ BK311 1, bc_ BK311 2, bc_ BK312 0, bc_ BK312 1, bc_ BK312 2⟩ (fun hHeld => ?_)
      clear hK K
      refine nm_ 27 ?_
      refine pu_ 15 28 (bm_ 20 131071) HT_ ?_
      refine pu_ 17 4 (bm_ 20 262143) HT_ ?_
      refine pu_ 18 5 (bm_ 20 524287) HT_ ?_
      refine pu_ 19 6 (bm_ 20 1048575) HT_ ?_
      refine done_ (done_of HT_.out (by kernel_rfl)) ?_
      try go_wp2
      go_ret3
      exact ⟨by first | rfl | (simp [errW_none, errW_some] <;> rfl) | (simp only [← hji3]; first | rfl | (simp [errW_none, errW_some] <;> rfl)) | (simp [*, errW_none, errW_some] <;> first | rfl | exact given_isEmpty _ | exact (given_isEmpty _).symm), by repeat (first | (with_reducible first | exact HB.out | apply below_alloc | apply pw_below_drewN | apply below_drew1 | refine below_set ?_ GE311.out | refine below_set ?_ GE312.out) | exact HB.out)⟩
    · rw [if_neg c7] at H
      exact absurd H (by simp)
  · rw [if_neg c5] at H
    exact absurd H (by simp)

/-! ### cmp_Compare_int: function 90 -/
def cmp_Compare_int.f (a b : Int) : Option Int := some (Lib.compareInt a b)
theorem cmp_Compare_int.calls (a0 a1 : Int) (r : Int) (w : World) (h : cmp_Compare_int.f a0 a1 = some r) :
    Calls Tryz.prog 90 #[.int .i64 a0, .int .i64 a1] w fun e w' => e = .returned (.int .i64 r) ∧ Drawn0 w w' := by
  obtain rfl := Option.some.inj h
  refine (Tryz.cmp_Compare_int a0 a1 w).mono ?_
  rintro e w' ⟨rfl, rfl⟩
  exact ⟨rfl, Drawn0.refl _⟩

/-! ### strings_Compare: function 91 -/
def strings_Compare.f (a b : ByteArray) : Option Int := some (Lib.compareBytes a.data.toList b.data.toList)
theorem strings_Compare.calls (a0 a1 : ByteArray) (r : Int) (w : World) (h : strings_Compare.f a0 a1 = some r) :
    Calls Tryz.prog 91 #[.string a0, .string a1] w fun e w' => e = .returned (.int .i64 r) ∧ Drawn0 w w' := by
  obtain rfl := Option.some.inj h
  refine (Tryz.strings_Compare a0 a1 w).mono ?_
  rintro e w' ⟨rfl, rfl⟩
  exact ⟨rfl, Drawn0.refl _⟩

/-! ### num_Cmp: function 85 -/
def num_Cmp.f (k : Nat) (a0 : ByteArray) (a1 : ByteArray) : Option (Int) := (num_all.f k (([a0, a1] : List ByteArray))).bind fun t318 => (if t318 = true then ((num_Trim.f k a0).bind fun t319 => ((num_Trim.f k a1).bind fun t320 => (if (t319.size : Int) = (t320.size : Int) then ((strings_Compare.f t319 t320).bind fun t321 => (some t321)) else ((cmp_Compare_int.f (t319.size : Int) (t320.size : Int)).bind fun t322 => (some t322))))) else (some 0))
theorem num_Cmp.mono : ∀ a0 a1 k, LeO (num_Cmp.f k a0 a1) (num_Cmp.f (k + 1) a0 a1) := by
  intro a0 a1 k
  unfold num_Cmp.f
  repeat' first
      | (with_reducible exact num_Trim.mono _ _)
      | (with_reducible exact num_all.mono _ _)
      | (with_reducible exact LeO.refl _)
      | (with_reducible exact LeO.none _)
      | (with_reducible refine LeO.ite ?_ ?_)
      | (with_reducible refine LeO.bind ?_ (fun _ => ?_))
      | exact num_Trim.mono _ _
      | exact num_all.mono _ _
      | exact LeO.none _
      | refine LeO.ite ?_ ?_
      | refine LeO.bind ?_ (fun _ => ?_)
set_option maxHeartbeats 8000000 in
set_option maxRecDepth 100000 in
theorem num_Cmp.calls (k : Nat) (a0 : ByteArray) (a1 : ByteArray) (r : Int) (w : World) (h : num_Cmp.f k a0 a1 = some r) :
    Calls Tryz.prog 85 #[.string a0, .string a1] w fun e w' => e = .returned (.int .i64 r) ∧ Below w.heap.size w w' := by
  have HB := Aside0.mk (Below.refl w.heap.size w)
  have H : ((num_all.f k (([a0, a1] : List ByteArray))).bind fun t318 => (if t318 = true then ((num_Trim.f k a0).bind fun t319 => ((num_Trim.f k a1).bind fun t320 => (if (t319.size : Int) = (t320.size : Int) then ((strings_Compare.f t319 t320).bind fun t321 => (some t321)) else ((cmp_Compare_int.f (t319.size : Int) (t320.size : Int)).bind fun t322 => (some t322))))) else (some 0))) = some r := h
  clear h
  obtain ⟨y315, hy315⟩ : ∃ y_ : List ByteArray, y_ = (([a0, a1] : List ByteArray)) := ⟨_, rfl⟩
  replace H : ((num_all.f k y315).bind fun t318 => (if t318 = true then ((num_Trim.f k a0).bind fun t319 => ((num_Trim.f k a1).bind fun t320 => (if (t319.size : Int) = (t320.size : Int) then ((strings_Compare.f t319 t320).bind fun t321 => (some t321)) else ((cmp_Compare_int.f (t319.size : Int) (t320.size : Int)).bind fun t322 => (some t322))))) else (some 0))) = some r := by first | (rw [hy315]; with_reducible exact H) | (have H2_ := (Option.bind_some _ _).symm.trans H; rw [hy315]; with_reducible exact H2_) | (have H2_ := (Option.bind_some _ _).symm.trans H; with_reducible exact H2_) | with_reducible exact H | (rw [hy315]; exact H) | exact H
  have Ny315 := Aside0.mk hy315
  clear hy315
  replace H := Option.bind_eq_some_iff.mp H
  obtain ⟨t318, A30, H⟩ := H
  replace H : (if t318 = true then ((num_Trim.f k a0).bind fun t319 => ((num_Trim.f k a1).bind fun t320 => (if (t319.size : Int) = (t320.size : Int) then ((strings_Compare.f t319 t320).bind fun t321 => (some t321)) else ((cmp_Compare_int.f (t319.size : Int) (t320.size : Int)).bind fun t322 => (some t322))))) else (some 0)) = some r := H
  have A3 := Aside0.mk A30
  clear A30
  by_cases c4 : t318 = true
  · subst c4
    have H1 : ((num_Trim.f k a0).bind fun t319 => ((num_Trim.f k a1).bind fun t320 => (if (t319.size : Int) = (t320.size : Int) then ((strings_Compare.f t319 t320).bind fun t321 => (some t321)) else ((cmp_Compare_int.f (t319.size : Int) (t320.size : Int)).bind fun t322 => (some t322))))) = some r := by rw [if_pos rfl] at H; exact H
    clear H
    have H := H1
    clear H1
    replace H := Option.bind_eq_some_iff.mp H
    obtain ⟨t319, A50, H⟩ := H
    replace H : ((num_Trim.f k a1).bind fun t320 => (if (t319.size : Int) = (t320.size : Int) then ((strings_Compare.f t319 t320).bind fun t321 => (some t321)) else ((cmp_Compare_int.f (t319.size : Int) (t320.size : Int)).bind fun t322 => (some t322)))) = some r := H
    have A5 := Aside0.mk A50
    clear A50
    replace H := Option.bind_eq_some_iff.mp H
    obtain ⟨t320, A60, H⟩ := H
    replace H : (if (t319.size : Int) = (t320.size : Int) then ((strings_Compare.f t319 t320).bind fun t321 => (some t321)) else ((cmp_Compare_int.f (t319.size : Int) (t320.size : Int)).bind fun t322 => (some t322))) = some r := H
    have A6 := Aside0.mk A60
    clear A60
    by_cases c7 : (t319.size : Int) = (t320.size : Int)
    · rw [if_pos c7] at H
      have c7b0 : ((t319.size : Int) == (t320.size : Int)) = true := beq_iff_eq.mpr c7
      have c7b1 : ((t319.size : Int) != (t320.size : Int)) = false := bne_eq_false_iff_eq.mpr c7
      have c7b2 : (t319.size == t320.size) = true := by first | simpa using c7 | (simp at c7 ⊢; omega)
      clear c7
      replace H := Option.bind_eq_some_iff.mp H
      obtain ⟨t321, A80, H⟩ := H
      replace H : (some t321) = some r := H
      have A8 := Aside0.mk A80
      clear A80
      obtain rfl := Option.some.inj H
      go_enter Tryz.func85, Tryz.ntmps85
      go_wp2_with (first | ((with_reducible refine gate_dst (N := 7) rfl ?_); refine Kd.R_lit Kd.string _ 9 ?hg (N := 7) ?hd (xs := ([a0, a1] : List ByteArray)) (inner := [.string a0, .string a1]) (ok := fun _ => True) (okp := fun _ => True) ?hr ?hp (fun _ hk => hk) trivial (Below.refl _ _) (Nat.le_refl _) (by simp) ?_; (case hd => rfl); (case hg => rfl); (case hr => first | (go_simp; done) | (go_simp; rfl)); (case hp => exact (Reps.one (show Kd.M Kd.string _ _ _ a0 [.string a0] from rfl) (Reps.one (show Kd.M Kd.string _ _ _ a1 [.string a1] from rfl) (Reps.none _ _)))); intro v316 w9 ho10 hb hg_ hnew_; clear hg_ hnew_; (first | rw [← Ny315.out] at ho10 | (simp only [Int.reduceToNat] at ho10; rw [← Ny315.out] at ho10)); have HO317 := Aside0.mk (Kd.R_lower ho10 (below_size (bl_ HB).out)); replace HB := Aside0.mk (below_step (bl_ HB).out hb); clear hb ho10; obtain ⟨Ao11, co11, eo11⟩ := Kd.R_slice HO317.out; subst eo11) | ((with_reducible refine gate_callee (f := 83) rfl ?_); refine gl_ (some 8) Tryz.func83 #[.slice Ao11 y315.length co11] ?_; (with_reducible refine (num_all.calls k _ _ y315 true _ ?side1 ?side2 A3.out).mono ?_); (case side1 => repeat (first | exact (Kd.R_reads' HO317.out).2.2 | (with_reducible refine Kd.C_alloc ?_ _) | (with_reducible refine Kd.C_drewN ?_ _) | (with_reducible refine Kd.C_drew ?_))); (case side2 => exact (Kd.R_reads' HO317.out).2.1); rintro e w' ⟨rfl, ⟨nd, rfl⟩⟩; refine ⟨_, rfl, ?_⟩) | ((with_reducible refine gate_callee (f := 30) rfl ?_); refine gl_ (some 11) Tryz.func30 #[.string a0] ?_; (with_reducible refine (num_Trim.calls k a0 t319 _ A5.out).mono ?_); rintro e w' ⟨rfl, ⟨nd, rfl⟩⟩; refine ⟨_, rfl, ?_⟩) | ((with_reducible refine gate_callee (f := 30) rfl ?_); refine gl_ (some 13) Tryz.func30 #[.string a1] ?_; (with_reducible refine (num_Trim.calls k a1 t320 _ A6.out).mono ?_); rintro e w' ⟨rfl, ⟨nd, rfl⟩⟩; refine ⟨_, rfl, ?_⟩) | ((with_reducible refine gate_callee (f := 91) rfl ?_); refine gl_ (some 26) Tryz.func91 #[.string t319, .string t320] ?_; (with_reducible refine (strings_Compare.calls t319 t320 t321 _ A8.out).mono ?_); rintro e w' ⟨rfl, ⟨nd, rfl⟩⟩; refine ⟨_, rfl, ?_⟩))
      go_ret
      exact ⟨ew_, (bl_ HB).out⟩
    · rw [if_neg c7] at H
      have c7b0 : ((t319.size : Int) == (t320.size : Int)) = false := beq_eq_false_iff_ne.mpr c7
      have c7b1 : ((t319.size : Int) != (t320.size : Int)) = true := bne_iff_ne.mpr c7
      have c7b2 : (t319.size == t320.size) = false := by first | simpa using c7 | (simp at c7 ⊢; omega)
      replace H := Option.bind_eq_some_iff.mp H
      obtain ⟨t322, A120, H⟩ := H
      replace H : (some t322) = some r := H
      have A12 := Aside0.mk A120
      clear A120
      obtain rfl := Option.some.inj H
      go_enter Tryz.func85, Tryz.ntmps85
      go_wp2_with (first | ((with_reducible refine gate_dst (N := 7) rfl ?_); refine Kd.R_lit Kd.string _ 9 ?hg (N := 7) ?hd (xs := ([a0, a1] : List ByteArray)) (inner := [.string a0, .string a1]) (ok := fun _ => True) (okp := fun _ => True) ?hr ?hp (fun _ hk => hk) trivial (Below.refl _ _) (Nat.le_refl _) (by simp) ?_; (case hd => rfl); (case hg => rfl); (case hr => first | (go_simp; done) | (go_simp; rfl)); (case hp => exact (Reps.one (show Kd.M Kd.string _ _ _ a0 [.string a0] from rfl) (Reps.one (show Kd.M Kd.string _ _ _ a1 [.string a1] from rfl) (Reps.none _ _)))); intro v316 w13 ho14 hb hg_ hnew_; clear hg_ hnew_; (first | rw [← Ny315.out] at ho14 | (simp only [Int.reduceToNat] at ho14; rw [← Ny315.out] at ho14)); have HO317 := Aside0.mk (Kd.R_lower ho14 (below_size (bl_ HB).out)); replace HB := Aside0.mk (below_step (bl_ HB).out hb); clear hb ho14; obtain ⟨Ao15, co15, eo15⟩ := Kd.R_slice HO317.out; subst eo15) | ((with_reducible refine gate_callee (f := 83) rfl ?_); refine gl_ (some 8) Tryz.func83 #[.slice Ao15 y315.length co15] ?_; (with_reducible refine (num_all.calls k _ _ y315 true _ ?side1 ?side2 A3.out).mono ?_); (case side1 => repeat (first | exact (Kd.R_reads' HO317.out).2.2 | (with_reducible refine Kd.C_alloc ?_ _) | (with_reducible refine Kd.C_drewN ?_ _) | (with_reducible refine Kd.C_drew ?_))); (case side2 => exact (Kd.R_reads' HO317.out).2.1); rintro e w' ⟨rfl, ⟨nd, rfl⟩⟩; refine ⟨_, rfl, ?_⟩) | ((with_reducible refine gate_callee (f := 30) rfl ?_); refine gl_ (some 11) Tryz.func30 #[.string a0] ?_; (with_reducible refine (num_Trim.calls k a0 t319 _ A5.out).mono ?_); rintro e w' ⟨rfl, ⟨nd, rfl⟩⟩; refine ⟨_, rfl, ?_⟩) | ((with_reducible refine gate_callee (f := 30) rfl ?_); refine gl_ (some 13) Tryz.func30 #[.string a1] ?_; (with_reducible refine (num_Trim.calls k a1 t320 _ A6.out).mono ?_); rintro e w' ⟨rfl, ⟨nd, rfl⟩⟩; refine ⟨_, rfl, ?_⟩) | ((with_reducible refine gate_callee (f := 90) rfl ?_); refine gl_ (some 23) Tryz.func90 #[.int .i64 (t319.size : Int), .int .i64 (t320.size : Int)] ?_; (with_reducible refine (cmp_Compare_int.calls (t319.size : Int) (t320.size : Int) t322 _ A12.out).mono ?_); rintro e w' ⟨rfl, ⟨nd, rfl⟩⟩; refine ⟨_, rfl, ?_⟩))
      go_ret
      exact ⟨ew_, (bl_ HB).out⟩
  · replace c4 := Bool.eq_false_iff.mpr c4
    subst c4
    have H1 : (some 0) = some r := by rw [if_neg (show ¬ (false = true) by decide)] at H; exact H
    clear H
    have H := H1
    clear H1
    obtain rfl := Option.some.inj H
    go_enter Tryz.func85, Tryz.ntmps85
    go_wp2_with (first | ((with_reducible refine gate_dst (N := 7) rfl ?_); refine Kd.R_lit Kd.string _ 9 ?hg (N := 7) ?hd (xs := ([a0, a1] : List ByteArray)) (inner := [.string a0, .string a1]) (ok := fun _ => True) (okp := fun _ => True) ?hr ?hp (fun _ hk => hk) trivial (Below.refl _ _) (Nat.le_refl _) (by simp) ?_; (case hd => rfl); (case hg => rfl); (case hr => first | (go_simp; done) | (go_simp; rfl)); (case hp => exact (Reps.one (show Kd.M Kd.string _ _ _ a0 [.string a0] from rfl) (Reps.one (show Kd.M Kd.string _ _ _ a1 [.string a1] from rfl) (Reps.none _ _)))); intro v316 w16 ho17 hb hg_ hnew_; clear hg_ hnew_; (first | rw [← Ny315.out] at ho17 | (simp only [Int.reduceToNat] at ho17; rw [← Ny315.out] at ho17)); have HO317 := Aside0.mk (Kd.R_lower ho17 (below_size (bl_ HB).out)); replace HB := Aside0.mk (below_step (bl_ HB).out hb); clear hb ho17; obtain ⟨Ao18, co18, eo18⟩ := Kd.R_slice HO317.out; subst eo18) | ((with_reducible refine gate_callee (f := 83) rfl ?_); refine gl_ (some 8) Tryz.func83 #[.slice Ao18 y315.length co18] ?_; (with_reducible refine (num_all.calls k _ _ y315 false _ ?side1 ?side2 A3.out).mono ?_); (case side1 => repeat (first | exact (Kd.R_reads' HO317.out).2.2 | (with_reducible refine Kd.C_alloc ?_ _) | (with_reducible refine Kd.C_drewN ?_ _) | (with_reducible refine Kd.C_drew ?_))); (case side2 => exact (Kd.R_reads' HO317.out).2.1); rintro e w' ⟨rfl, ⟨nd, rfl⟩⟩; refine ⟨_, rfl, ?_⟩))
    go_ret
    exact ⟨ew_, (bl_ HB).out⟩

/-! ### num_Sub: function 74 -/
mutual
def num_Sub.j0 : Nat → ByteArray → ByteArray → Bool → Option (ByteArray × Bool)
  | 0, _, _, _ => none
  | k + 1, x0, x1, x20 => if x20 = true then (some ((⟨#[]⟩ : ByteArray), false)) else (num_Sub.l0 k x0 x1 ([] : List Int) 0 (x0.size : Int) 0)
def num_Sub.l0 : Nat → ByteArray → ByteArray → List Int → Int → Int → Int → Option (ByteArray × Bool)
  | 0, _, _, _, _, _, _ => none
  | k + 1, x0, x1, x6, x7, x22, x23 => if x23 < x22 then ((num_at.f x0 x23).bind fun t329 => ((num_at.f x1 x23).bind fun t330 => (if (wrap64 ((wrap64 (t329 - t330)) - x7)) < 0 then (if x6.length < 140737488355328 then (num_Sub.l0 k x0 x1 (x6 ++ [(48 + (wrap64 ((wrap64 ((wrap64 (t329 - t330)) - x7)) + 10))) % 256]) 1 x22 (wrap64 (x23 + 1))) else (none)) else (if x6.length < 140737488355328 then (num_Sub.l0 k x0 x1 (x6 ++ [(48 + (wrap64 ((wrap64 (t329 - t330)) - x7))) % 256]) 0 x22 (wrap64 (x23 + 1))) else (none))))) else ((num_text.f k x6).bind fun t328 => (some (t328, true)))
end
def num_Sub.f (k : Nat) (a0 : ByteArray) (a1 : ByteArray) : Option (ByteArray × Bool) := (num_all.f k (([a0, a1] : List ByteArray))).bind fun t326 => (if t326 = true then ((num_Cmp.f k a0 a1).bind fun t327 => (num_Sub.j0 k a0 a1 (decide (t327 < 0)))) else (num_Sub.j0 k a0 a1 true))
theorem num_Sub.mono_l : ∀ k, (∀ y0 y1 y2, LeO (num_Sub.j0 k y0 y1 y2) (num_Sub.j0 (k + 1) y0 y1 y2)) ∧ (∀ y0 y1 y2 y3 y4 y5, LeO (num_Sub.l0 k y0 y1 y2 y3 y4 y5) (num_Sub.l0 (k + 1) y0 y1 y2 y3 y4 y5))
  | 0 => ⟨fun _ _ _ r h => by simp [num_Sub.j0] at h, fun _ _ _ _ _ _ r h => by simp [num_Sub.l0] at h⟩
  | k + 1 => by
    obtain ⟨ih0, ih1⟩ := num_Sub.mono_l k
    refine ⟨?_, ?_⟩
    · intro y0 y1 y2
      unfold num_Sub.j0
      repeat' first
      | (with_reducible exact ih0 _ _ _)
      | (with_reducible exact ih1 _ _ _ _ _ _)
      | (with_reducible exact num_Cmp.mono _ _ _)
      | (with_reducible exact num_all.mono _ _)
      | (with_reducible exact num_text.mono _ _)
      | (with_reducible exact LeO.refl _)
      | (with_reducible exact LeO.none _)
      | (with_reducible refine LeO.ite ?_ ?_)
      | (with_reducible refine LeO.bind ?_ (fun _ => ?_))
      | exact ih0 _ _ _
      | exact ih1 _ _ _ _ _ _
      | exact num_Cmp.mono _ _ _
      | exact num_all.mono _ _
      | exact num_text.mono _ _
      | exact LeO.none _
      | refine LeO.ite ?_ ?_
      | refine LeO.bind ?_ (fun _ => ?_)
    · intro y0 y1 y2 y3 y4 y5
      unfold num_Sub.l0
      repeat' first
      | (with_reducible exact ih0 _ _ _)
      | (with_reducible exact ih1 _ _ _ _ _ _)
      | (with_reducible exact num_Cmp.mono _ _ _)
      | (with_reducible exact num_all.mono _ _)
      | (with_reducible exact num_text.mono _ _)
      | (with_reducible exact LeO.refl _)
      | (with_reducible exact LeO.none _)
      | (with_reducible refine LeO.ite ?_ ?_)
      | (with_reducible refine LeO.bind ?_ (fun _ => ?_))
      | exact ih0 _ _ _
      | exact ih1 _ _ _ _ _ _
      | exact num_Cmp.mono _ _ _
      | exact num_all.mono _ _
      | exact num_text.mono _ _
      | exact LeO.none _
      | refine LeO.ite ?_ ?_
      | refine LeO.bind ?_ (fun _ => ?_)
theorem num_Sub.mono : ∀ a0 a1 k, LeO (num_Sub.f k a0 a1) (num_Sub.f (k + 1) a0 a1) := by
  intro a0 a1 k
  obtain ⟨ih0, ih1⟩ := num_Sub.mono_l k
  unfold num_Sub.f
  repeat' first
      | (with_reducible exact ih0 _ _ _)
      | (with_reducible exact ih1 _ _ _ _ _ _)
      | (with_reducible exact num_Cmp.mono _ _ _)
      | (with_reducible exact num_all.mono _ _)
      | (with_reducible exact num_text.mono _ _)
      | (with_reducible exact LeO.refl _)
      | (with_reducible exact LeO.none _)
      | (with_reducible refine LeO.ite ?_ ?_)
      | (with_reducible refine LeO.bind ?_ (fun _ => ?_))
      | exact ih0 _ _ _
      | exact ih1 _ _ _ _ _ _
      | exact num_Cmp.mono _ _ _
      | exact num_all.mono _ _
      | exact num_text.mono _ _
      | exact LeO.none _
      | refine LeO.ite ?_ ?_
      | refine LeO.bind ?_ (fun _ => ?_)
set_option maxHeartbeats 8000000 in
set_option maxRecDepth 100000 in
theorem num_Sub.calls (k : Nat) (a0 : ByteArray) (a1 : ByteArray) (r1 : ByteArray) (r2 : Bool) (w : World) (h : num_Sub.f k a0 a1 = some (r1, r2)) :
    Calls Tryz.prog 74 #[.string a0, .string a1] w fun e w' => e = .returned (.tuple #[.string r1, .bool r2]) ∧ Below w.heap.size w w' := by
  have HB := Aside0.mk (Below.refl w.heap.size w)
  have H : ((num_all.f k (([a0, a1] : List ByteArray))).bind fun t326 => (if t326 = true then ((num_Cmp.f k a0 a1).bind fun t327 => (num_Sub.j0 k a0 a1 (decide (t327 < 0)))) else (num_Sub.j0 k a0 a1 true))) = some (r1, r2) := h
  clear h
  have HC3 := Aside0.mk H
  clear H
  go_enter Tryz.func74, Tryz.ntmps74
  go_upto_region 1 with (fail)
  go_cut [20] (fun v20 wc => ∃ (kq : Nat) (x20_2 : Bool), v20 = .bool x20_2 ∧ Aside0 (num_Sub.j0 kq a0 a1 x20_2 = some (r1, r2)) ∧ Aside0 (kq ≤ k) ∧ Aside0 (Below w.heap.size w wc))
  case first =>
    have H := HC3.out
    clear HC3
    obtain ⟨y323, hy323⟩ : ∃ y_ : List ByteArray, y_ = (([a0, a1] : List ByteArray)) := ⟨_, rfl⟩
    replace H : ((num_all.f k y323).bind fun t326 => (if t326 = true then ((num_Cmp.f k a0 a1).bind fun t327 => (num_Sub.j0 k a0 a1 (decide (t327 < 0)))) else (num_Sub.j0 k a0 a1 true))) = some (r1, r2) := by first | (rw [hy323]; with_reducible exact H) | (have H2_ := (Option.bind_some _ _).symm.trans H; rw [hy323]; with_reducible exact H2_) | (have H2_ := (Option.bind_some _ _).symm.trans H; with_reducible exact H2_) | with_reducible exact H | (rw [hy323]; exact H) | exact H
    have Ny323 := Aside0.mk hy323
    clear hy323
    replace H := Option.bind_eq_some_iff.mp H
    obtain ⟨t326, A40, H⟩ := H
    replace H : (if t326 = true then ((num_Cmp.f k a0 a1).bind fun t327 => (num_Sub.j0 k a0 a1 (decide (t327 < 0)))) else (num_Sub.j0 k a0 a1 true)) = some (r1, r2) := H
    have A4 := Aside0.mk A40
    clear A40
    by_cases c5 : t326 = true
    · subst c5
      have H1 : ((num_Cmp.f k a0 a1).bind fun t327 => (num_Sub.j0 k a0 a1 (decide (t327 < 0)))) = some (r1, r2) := by rw [if_pos rfl] at H; exact H
      clear H
      have H := H1
      clear H1
      replace H := Option.bind_eq_some_iff.mp H
      obtain ⟨t327, A60, H⟩ := H
      replace H : (num_Sub.j0 k a0 a1 (decide (t327 < 0))) = some (r1, r2) := H
      have A6 := Aside0.mk A60
      clear A60
      have H' := Aside0.mk H
      clear H
      go_wp2_with (first | ((with_reducible refine gate_dst (N := 12) rfl ?_); refine Kd.R_lit Kd.string _ 9 ?hg (N := 12) ?hd (xs := ([a0, a1] : List ByteArray)) (inner := [.string a0, .string a1]) (ok := fun _ => True) (okp := fun _ => True) ?hr ?hp (fun _ hk => hk) trivial (Below.refl _ _) (Nat.le_refl _) (by simp) ?_; (case hd => rfl); (case hg => rfl); (case hr => first | (go_simp; done) | (go_simp; rfl)); (case hp => exact (Reps.one (show Kd.M Kd.string _ _ _ a0 [.string a0] from rfl) (Reps.one (show Kd.M Kd.string _ _ _ a1 [.string a1] from rfl) (Reps.none _ _)))); intro v324 w7 ho8 hb hg_ hnew_; clear hg_ hnew_; (first | rw [← Ny323.out] at ho8 | (simp only [Int.reduceToNat] at ho8; rw [← Ny323.out] at ho8)); have HO325 := Aside0.mk (Kd.R_lower ho8 (below_size (bl_ HB).out)); replace HB := Aside0.mk (below_step (bl_ HB).out hb); clear hb ho8; obtain ⟨Ao9, co9, eo9⟩ := Kd.R_slice HO325.out; subst eo9) | ((with_reducible refine gate_callee (f := 83) rfl ?_); refine gl_ (some 13) Tryz.func83 #[.slice Ao9 y323.length co9] ?_; (with_reducible refine (num_all.calls k _ _ y323 true _ ?side1 ?side2 A4.out).mono ?_); (case side1 => repeat (first | exact (Kd.R_reads' HO325.out).2.2 | (with_reducible refine Kd.C_alloc ?_ _) | (with_reducible refine Kd.C_drewN ?_ _) | (with_reducible refine Kd.C_drew ?_))); (case side2 => exact (Kd.R_reads' HO325.out).2.1); rintro e w' ⟨rfl, ⟨nd, rfl⟩⟩; refine ⟨_, rfl, ?_⟩) | (go_at_call 85; (with_reducible refine (num_Cmp.calls k a0 a1 t327 _ A6.out).mono ?_); rintro e w10 ⟨rfl, hb⟩; have n0_ := Aside0.mk (Kd.R_below (by (with_reducible repeat (first | apply Kd.R_alloc | apply Kd.R_drewN | apply Kd.R_drew)); exact HO325.out) hb); have n1_ := Aside0.mk (below_step (bl_ HB).out hb); clear HO325; clear HB; have HO325 := n0_; have HB := n1_; clear n0_ n1_; (try clear hb); (try clear hb2); (try clear hk); (try clear hi)))
      go_meet
      case rel => exact ⟨_, (decide (t327 < 0)), eq_, H', ⟨by first | omega | exact Nat.le_refl _⟩, (bl_ HB)⟩
    · replace c5 := Bool.eq_false_iff.mpr c5
      subst c5
      have H1 : (num_Sub.j0 k a0 a1 true) = some (r1, r2) := by rw [if_neg (show ¬ (false = true) by decide)] at H; exact H
      clear H
      have H := H1
      clear H1
      have H' := Aside0.mk H
      clear H
      go_wp2_with (first | ((with_reducible refine gate_dst (N := 12) rfl ?_); refine Kd.R_lit Kd.string _ 9 ?hg (N := 12) ?hd (xs := ([a0, a1] : List ByteArray)) (inner := [.string a0, .string a1]) (ok := fun _ => True) (okp := fun _ => True) ?hr ?hp (fun _ hk => hk) trivial (Below.refl _ _) (Nat.le_refl _) (by simp) ?_; (case hd => rfl); (case hg => rfl); (case hr => first | (go_simp; done) | (go_simp; rfl)); (case hp => exact (Reps.one (show Kd.M Kd.string _ _ _ a0 [.string a0] from rfl) (Reps.one (show Kd.M Kd.string _ _ _ a1 [.string a1] from rfl) (Reps.none _ _)))); intro v324 w11 ho12 hb hg_ hnew_; clear hg_ hnew_; (first | rw [← Ny323.out] at ho12 | (simp only [Int.reduceToNat] at ho12; rw [← Ny323.out] at ho12)); have HO325 := Aside0.mk (Kd.R_lower ho12 (below_size (bl_ HB).out)); replace HB := Aside0.mk (below_step (bl_ HB).out hb); clear hb ho12; obtain ⟨Ao13, co13, eo13⟩ := Kd.R_slice HO325.out; subst eo13) | ((with_reducible refine gate_callee (f := 83) rfl ?_); refine gl_ (some 13) Tryz.func83 #[.slice Ao13 y323.length co13] ?_; (with_reducible refine (num_all.calls k _ _ y323 false _ ?side1 ?side2 A4.out).mono ?_); (case side1 => repeat (first | exact (Kd.R_reads' HO325.out).2.2 | (with_reducible refine Kd.C_alloc ?_ _) | (with_reducible refine Kd.C_drewN ?_ _) | (with_reducible refine Kd.C_drew ?_))); (case side2 => exact (Kd.R_reads' HO325.out).2.1); rintro e w' ⟨rfl, ⟨nd, rfl⟩⟩; refine ⟨_, rfl, ?_⟩))
      go_meet
      case rel => exact ⟨_, (true), eq_, H', ⟨by first | omega | exact Nat.le_refl _⟩, (bl_ HB)⟩
  case rest =>
    clear HC3
    try clear p2
    try clear c5
    try clear p6
    try clear c7
    try clear c8
    obtain ⟨kq, x20_2, rfl, HA, HJ2, HB⟩ := hcut
    cases kq with
    | zero => exact absurd HA.out (by simp [num_Sub.j0])
    | succ kj2 =>
      have H := HA.out
      clear HA
      simp only [num_Sub.j0] at H
      by_cases c14 : x20_2 = true
      · subst c14
        have H1 : (some ((⟨#[]⟩ : ByteArray), false)) = some (r1, r2) := by rw [if_pos rfl] at H; exact H
        clear H
        have H := H1
        clear H1
        simp only [Option.some.injEq, Prod.mk.injEq] at H
        obtain ⟨rfl, rfl⟩ := H
        go_wp2
        go_ret2
        exact ⟨ew_, (bl_ HB).out⟩
      · replace c14 := Bool.eq_false_iff.mpr c14
        subst c14
        have H1 : (num_Sub.l0 kj2 a0 a1 ([] : List Int) 0 (a0.size : Int) 0) = some (r1, r2) := by rw [if_neg (show ¬ (false = true) by decide)] at H; exact H
        clear H
        have H := H1
        clear H1
        have H' := Aside0.mk H
        clear H
        go_wp2
        go_loopg [6, 7, 23] kj2 (fun kq v6 v7 v23 w' => ∃ (x6_2 : List Int) (x7_2 : Int) (x23_2 : Int), v7 = .int .i64 x7_2 ∧ v23 = .int .i64 x23_2 ∧ Aside0 (num_Sub.l0 kq a0 a1 x6_2 x7_2 (a0.size : Int) x23_2 = some (r1, r2)) ∧ Aside0 (kq ≤ kj2) ∧ Aside0 (Kd.R (Kd.int .u8) 5 w' w.heap.size (fun _ => True) v6 x6_2) ∧ Aside0 (Below w.heap.size w w'))
        case atStart => exact ⟨(([] : List Int)), (0), (0), eq_, eq_, H', ⟨Nat.le_refl _⟩, ⟨by first | exact Kd.R_nil _ _ _ _ _ | exact Kd.N_nil _ _ _ _ _ | exact Kd.V_nil _ _ _ _ _ | exact Kd.Q_nil _ _ _ _ _ | exact Kd.S_nil _ _ _ _ _⟩, (bl_ HB)⟩
        case round =>
          clear H'
          try clear c1
          try clear p2
          try clear c5
          try clear p6
          try clear c7
          try clear c8
          try clear c14
          try clear p2
          try clear p6
          obtain ⟨x6_2, x7_2, x23_2, rfl, rfl, HA, HK2, HO_6, HB⟩ := hrel
          cases gk with
          | zero => exact absurd HA.out (by simp [num_Sub.l0])
          | succ k2 =>
            have H := HA.out
            clear HA
            simp only [num_Sub.l0] at H
            by_cases c15 : x23_2 < (a0.size : Int)
            · rw [if_pos c15] at H
              have c15b0 : decide (x23_2 < (a0.size : Int)) = true := decide_eq_true c15
              clear c15
              replace H := Option.bind_eq_some_iff.mp H
              obtain ⟨t329, A160, H⟩ := H
              replace H : ((num_at.f a1 x23_2).bind fun t330 => (if (wrap64 ((wrap64 (t329 - t330)) - x7_2)) < 0 then (if x6_2.length < 140737488355328 then (num_Sub.l0 k2 a0 a1 (x6_2 ++ [(48 + (wrap64 ((wrap64 ((wrap64 (t329 - t330)) - x7_2)) + 10))) % 256]) 1 (a0.size : Int) (wrap64 (x23_2 + 1))) else (none)) else (if x6_2.length < 140737488355328 then (num_Sub.l0 k2 a0 a1 (x6_2 ++ [(48 + (wrap64 ((wrap64 (t329 - t330)) - x7_2))) % 256]) 0 (a0.size : Int) (wrap64 (x23_2 + 1))) else (none)))) = some (r1, r2) := H
              have A16 := Aside0.mk A160
              clear A160
              replace H := Option.bind_eq_some_iff.mp H
              obtain ⟨t330, A170, H⟩ := H
              replace H : (if (wrap64 ((wrap64 (t329 - t330)) - x7_2)) < 0 then (if x6_2.length < 140737488355328 then (num_Sub.l0 k2 a0 a1 (x6_2 ++ [(48 + (wrap64 ((wrap64 ((wrap64 (t329 - t330)) - x7_2)) + 10))) % 256]) 1 (a0.size : Int) (wrap64 (x23_2 + 1))) else (none)) else (if x6_2.length < 140737488355328 then (num_Sub.l0 k2 a0 a1 (x6_2 ++ [(48 + (wrap64 ((wrap64 (t329 - t330)) - x7_2))) % 256]) 0 (a0.size : Int) (wrap64 (x23_2 + 1))) else (none))) = some (r1, r2) := H
              have A17 := Aside0.mk A170
              clear A170
              by_cases c18 : (wrap64 ((wrap64 (t329 - t330)) - x7_2)) < 0
              · rw [if_pos c18] at H
                have c18b0 : decide ((wrap64 ((wrap64 (t329 - t330)) - x7_2)) < 0) = true := decide_eq_true c18
                clear c18
                by_cases c19 : x6_2.length < 140737488355328
                · rw [if_pos c19] at H
                  have LMc19 := Aside0.mk c19
                  clear c19
                  obtain ⟨y331, hy331⟩ : ∃ y_ : List Int, y_ = (x6_2 ++ [(48 + (wrap64 ((wrap64 ((wrap64 (t329 - t330)) - x7_2)) + 10))) % 256]) := ⟨_, rfl⟩
                  replace H : (num_Sub.l0 k2 a0 a1 y331 1 (a0.size : Int) (wrap64 (x23_2 + 1))) = some (r1, r2) := by first | (rw [hy331]; with_reducible exact H) | (have H2_ := (Option.bind_some _ _).symm.trans H; rw [hy331]; with_reducible exact H2_) | (have H2_ := (Option.bind_some _ _).symm.trans H; with_reducible exact H2_) | with_reducible exact H | (rw [hy331]; exact H) | exact H
                  have Ny331 := Aside0.mk hy331
                  clear hy331
                  have H' := Aside0.mk H
                  clear H
                  go_wp2_with (first | ((with_reducible refine gate_callee (f := 69) rfl ?_); refine gl_ (some 28) Tryz.func69 #[.string a0, .int .i64 x23_2] ?_; (with_reducible refine (num_at.calls a0 x23_2 t329 _ A16.out).mono ?_); rintro e w' ⟨rfl, ⟨nd, rfl⟩⟩; refine ⟨_, rfl, ?_⟩) | ((with_reducible refine gate_callee (f := 69) rfl ?_); refine gl_ (some 31) Tryz.func69 #[.string a1, .int .i64 x23_2] ?_; (with_reducible refine (num_at.calls a1 x23_2 t330 _ A17.out).mono ?_); rintro e w' ⟨rfl, ⟨nd, rfl⟩⟩; refine ⟨_, rfl, ?_⟩) | ((with_reducible refine gate_builtin (b := .append) (xs := #[.tmp 39, .tmp 43]) rfl ?_); at_builtin; refine Kd.R_append (Kd.int .u8) (w0 := w) w.heap.size rfl (.tmp 39) (.tmp 43) 22 5 (.int .u8 0) 1 rfl Tryz.underlying22 info5 rfl (by decide) (by omega) u6 x6_2 ((48 + (wrap64 ((wrap64 ((wrap64 (t329 - t330)) - x7_2)) + 10))) % 256) [.int .u8 ((48 + (wrap64 ((wrap64 ((wrap64 (t329 - t330)) - x7_2)) + 10))) % 256)] (fun _ => True) (fun _ => False) rfl rfl ?aP (fun _ hk => hk.elim) ?aF ?aO ?aB ?aS ?aL ?_; (case aP => exact rfl); (case aB => exact (bl_ HB).out); (case aF => exact (fun _ _ => trivial)); (case aO => exact (by (with_reducible repeat (first | apply Kd.R_alloc | apply Kd.R_drewN | apply Kd.R_drew)); exact HO_6.out)); (case aS => exact (below_size (bl_ HB).out)); (case aL => have := LMc19.out; omega); intro v332 w20 ho hb hg hat; rw [← Ny331.out] at ho; have n0_ := Aside0.mk (hb); have n1_ := Aside0.mk (ho); clear HB; clear HO_6; have HB := n0_; have HO333 := n1_; clear n0_ n1_; clear ho hb hg hat))
                  go_roundg k2
                  case measure => have := HJ2.out; have := HK2.out; omega
                  case rel => exact ⟨(y331), (1), (wrap64 (x23_2 + 1)), eq_, eq_, H', ⟨by have := HJ2.out; have := HK2.out; omega⟩, ⟨by (with_reducible repeat (first | apply Kd.R_alloc | apply Kd.R_drewN | apply Kd.R_drew)); exact HO333.out⟩, (bl_ HB)⟩
                · rw [if_neg c19] at H
                  exact absurd H (by simp)
              · rw [if_neg c18] at H
                have c18b0 : decide ((wrap64 ((wrap64 (t329 - t330)) - x7_2)) < 0) = false := decide_eq_false c18
                clear c18
                by_cases c21 : x6_2.length < 140737488355328
                · rw [if_pos c21] at H
                  have LMc21 := Aside0.mk c21
                  clear c21
                  obtain ⟨y334, hy334⟩ : ∃ y_ : List Int, y_ = (x6_2 ++ [(48 + (wrap64 ((wrap64 (t329 - t330)) - x7_2))) % 256]) := ⟨_, rfl⟩
                  replace H : (num_Sub.l0 k2 a0 a1 y334 0 (a0.size : Int) (wrap64 (x23_2 + 1))) = some (r1, r2) := by first | (rw [hy334]; with_reducible exact H) | (have H2_ := (Option.bind_some _ _).symm.trans H; rw [hy334]; with_reducible exact H2_) | (have H2_ := (Option.bind_some _ _).symm.trans H; with_reducible exact H2_) | with_reducible exact H | (rw [hy334]; exact H) | exact H
                  have Ny334 := Aside0.mk hy334
                  clear hy334
                  have H' := Aside0.mk H
                  clear H
                  go_wp2_with (first | ((with_reducible refine gate_callee (f := 69) rfl ?_); refine gl_ (some 28) Tryz.func69 #[.string a0, .int .i64 x23_2] ?_; (with_reducible refine (num_at.calls a0 x23_2 t329 _ A16.out).mono ?_); rintro e w' ⟨rfl, ⟨nd, rfl⟩⟩; refine ⟨_, rfl, ?_⟩) | ((with_reducible refine gate_callee (f := 69) rfl ?_); refine gl_ (some 31) Tryz.func69 #[.string a1, .int .i64 x23_2] ?_; (with_reducible refine (num_at.calls a1 x23_2 t330 _ A17.out).mono ?_); rintro e w' ⟨rfl, ⟨nd, rfl⟩⟩; refine ⟨_, rfl, ?_⟩) | ((with_reducible refine gate_builtin (b := .append) (xs := #[.tmp 39, .tmp 43]) rfl ?_); at_builtin; refine Kd.R_append (Kd.int .u8) (w0 := w) w.heap.size rfl (.tmp 39) (.tmp 43) 22 5 (.int .u8 0) 1 rfl Tryz.underlying22 info5 rfl (by decide) (by omega) u6 x6_2 ((48 + (wrap64 ((wrap64 (t329 - t330)) - x7_2))) % 256) [.int .u8 ((48 + (wrap64 ((wrap64 (t329 - t330)) - x7_2))) % 256)] (fun _ => True) (fun _ => False) rfl rfl ?aP (fun _ hk => hk.elim) ?aF ?aO ?aB ?aS ?aL ?_; (case aP => exact rfl); (case aB => exact (bl_ HB).out); (case aF => exact (fun _ _ => trivial)); (case aO => exact (by (with_reducible repeat (first | apply Kd.R_alloc | apply Kd.R_drewN | apply Kd.R_drew)); exact HO_6.out)); (case aS => exact (below_size (bl_ HB).out)); (case aL => have := LMc21.out; omega); intro v335 w22 ho hb hg hat; rw [← Ny334.out] at ho; have n0_ := Aside0.mk (hb); have n1_ := Aside0.mk (ho); clear HB; clear HO_6; have HB := n0_; have HO336 := n1_; clear n0_ n1_; clear ho hb hg hat))
                  go_roundg k2
                  case measure => have := HJ2.out; have := HK2.out; omega
                  case rel => exact ⟨(y334), (0), (wrap64 (x23_2 + 1)), eq_, eq_, H', ⟨by have := HJ2.out; have := HK2.out; omega⟩, ⟨by (with_reducible repeat (first | apply Kd.R_alloc | apply Kd.R_drewN | apply Kd.R_drew)); exact HO336.out⟩, (bl_ HB)⟩
                · rw [if_neg c21] at H
                  exact absurd H (by simp)
            · rw [if_neg c15] at H
              have c15b0 : decide (x23_2 < (a0.size : Int)) = false := decide_eq_false c15
              clear c15
              replace H := Option.bind_eq_some_iff.mp H
              obtain ⟨t328, A230, H⟩ := H
              replace H : (some (t328, true)) = some (r1, r2) := H
              have A23 := Aside0.mk A230
              clear A230
              simp only [Option.some.injEq, Prod.mk.injEq] at H
              obtain ⟨rfl, rfl⟩ := H
              obtain ⟨Ao24, co24, eo24⟩ := Kd.R_slice HO_6.out
              subst eo24
              go_wp2_with (first | ((with_reducible refine gate_callee (f := 43) rfl ?_); refine gl_ (some 47) Tryz.func43 #[.slice Ao24 x6_2.length co24] ?_; (with_reducible refine (num_text.calls k2 _ _ x6_2 t328 _ ?side1 ?side2 A23.out).mono ?_); (case side1 => repeat (first | exact (Kd.R_reads' HO_6.out).2.2 | (with_reducible refine Kd.C_alloc ?_ _) | (with_reducible refine Kd.C_drewN ?_ _) | (with_reducible refine Kd.C_drew ?_))); (case side2 => exact (Kd.R_reads' HO_6.out).2.1); rintro e w25 ⟨rfl, hb⟩; refine ⟨_, rfl, ?_⟩; have n0_ := Aside0.mk (Kd.R_below (by (with_reducible repeat (first | apply Kd.R_alloc | apply Kd.R_drewN | apply Kd.R_drew)); exact HO_6.out) hb); have n1_ := Aside0.mk (below_step (bl_ HB).out hb); clear HO_6; clear HB; have HO_6 := n0_; have HB := n1_; clear n0_ n1_; (try clear hb); (try clear hb2); (try clear hk); (try clear hi)))
              go_ret2
              exact ⟨ew_, (bl_ HB).out⟩

end Go.Proofs.YthkpmiajcmihjaaGreatDoor.P
