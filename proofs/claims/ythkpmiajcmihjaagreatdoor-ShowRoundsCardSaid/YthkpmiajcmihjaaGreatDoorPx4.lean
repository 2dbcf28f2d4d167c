-- written by a program of this session (wip/p2)
import Derived.Test.YthkpmiajcmihjaaGreatDoorPx0
import Derived.Test.YthkpmiajcmihjaaGreatDoorPx2
import Derived.Test.YthkpmiajcmihjaaGreatDoorPx3
namespace Go.Proofs.YthkpmiajcmihjaaGreatDoor.P
open Go.RowKit Go.Proofs.YthkpmiajcmihjaaGreatDoorW.PrintWords Go.Proofs.YthkpmiajcmihjaaGreatDoorW.PrintLast Go.Proofs.YthkpmiajcmihjaaGreatDoorW.PrintMore
attribute [local go_sem] max2_int min2_int max_two min_two max_three min_three max_four min_four   -- for this text's walks alone
set_option linter.unusedVariables false
set_option linter.unusedSimpArgs false

/-! ### round_At: function 27 -/
def round_At.j0 : Nat → Int → Int → Bool → Bool → ByteArray → Int → Option (Bool × ByteArray × Int)
  | 0, _, _, _, _, _, _ => none
  | k + 1, x1, x2, x24, x148000, x148001, x148002 => if x24 = true then (some (x148000, x148001, x148002)) else ((num_Zeros.f (wrap64 ((wrap64 (x1 - x148002)) - (x148001.size : Int)))).bind fun t153 => (if t153.size + x148001.size ≤ 9223372036854775807 then (if 0 ≤ (wrap64 (((t153 ++ x148001).size : Int) - (wrap64 (x1 - x148002)))) then (if (wrap64 (((t153 ++ x148001).size : Int) - (wrap64 (x1 - x148002)))) ≤ ((t153 ++ x148001).size : Int) then ((round_odd.f ((t153 ++ x148001).extract 0 ((wrap64 (((t153 ++ x148001).size : Int) - (wrap64 (x1 - x148002)))) : Int).toNat)).bind fun t154 => ((round_tail.f ((t153 ++ x148001).extract ((wrap64 (((t153 ++ x148001).size : Int) - (wrap64 (x1 - x148002)))) : Int).toNat (t153 ++ x148001).size)).bind fun t155 => ((round_Mode_up.f x2 x148000 t154 t155).bind fun t156 => ((round_step.f k ((t153 ++ x148001).extract 0 ((wrap64 (((t153 ++ x148001).size : Int) - (wrap64 (x1 - x148002)))) : Int).toNat) t156).bind fun t157 => ((dec_Made.f k x148000 t157 x1).bind fun bt158 => (some (bt158.1, bt158.2.1, bt158.2.2))))))) else (none)) else (none)) else (none)))
def round_At.f (k : Nat) (a0_0 : Bool) (a0_1 : ByteArray) (a0_2 : Int) (a1 : Int) (a2 : Int) : Option (Bool × ByteArray × Int) := (dec_Dec_Norm.f k a0_0 a0_1 a0_2).bind fun bt149 => (if bt149.2.2 ≥ (mn (mx a1 (-30000)) 30000) then (round_At.j0 k (mn (mx a1 (-30000)) 30000) a2 true bt149.1 bt149.2.1 bt149.2.2) else ((round_Mode_Valid.f a2).bind fun t152 => (round_At.j0 k (mn (mx a1 (-30000)) 30000) a2 (!t152) bt149.1 bt149.2.1 bt149.2.2)))
theorem round_At.mono_l : ∀ k, (∀ y0 y1 y2 y3 y4 y5, LeO (round_At.j0 k y0 y1 y2 y3 y4 y5) (round_At.j0 (k + 1) y0 y1 y2 y3 y4 y5))
  | 0 => fun _ _ _ _ _ _ r h => by simp [round_At.j0] at h
  | k + 1 => by
    have ih0 := round_At.mono_l k
    · intro y0 y1 y2 y3 y4 y5
      unfold round_At.j0
      repeat' first
      | (with_reducible exact ih0 _ _ _ _ _ _)
      | (with_reducible exact dec_Dec_Norm.mono _ _ _ _)
      | (with_reducible exact dec_Made.mono _ _ _ _)
      | (with_reducible exact round_step.mono _ _ _)
      | (with_reducible exact LeO.refl _)
      | (with_reducible exact LeO.none _)
      | (with_reducible refine LeO.ite ?_ ?_)
      | (with_reducible refine LeO.bind ?_ (fun _ => ?_))
      | exact ih0 _ _ _ _ _ _
      | exact dec_Dec_Norm.mono _ _ _ _
      | exact dec_Made.mono _ _ _ _
      | exact round_step.mono _ _ _
      | exact LeO.none _
      | refine LeO.ite ?_ ?_
      | refine LeO.bind ?_ (fun _ => ?_)
theorem round_At.mono : ∀ a0 a1 a2 a3 a4 k, LeO (round_At.f k a0 a1 a2 a3 a4) (round_At.f (k + 1) a0 a1 a2 a3 a4) := by
  intro a0 a1 a2 a3 a4 k
  have ih0 := round_At.mono_l k
  unfold round_At.f
  repeat' first
      | (with_reducible exact ih0 _ _ _ _ _ _)
      | (with_reducible exact dec_Dec_Norm.mono _ _ _ _)
      | (with_reducible exact dec_Made.mono _ _ _ _)
      | (with_reducible exact round_step.mono _ _ _)
      | (with_reducible exact LeO.refl _)
      | (with_reducible exact LeO.none _)
      | (with_reducible refine LeO.ite ?_ ?_)
      | (with_reducible refine LeO.bind ?_ (fun _ => ?_))
      | exact ih0 _ _ _ _ _ _
      | exact dec_Dec_Norm.mono _ _ _ _
      | exact dec_Made.mono _ _ _ _
      | exact round_step.mono _ _ _
      | exact LeO.none _
      | refine LeO.ite ?_ ?_
      | refine LeO.bind ?_ (fun _ => ?_)
def round_At.T6 : Bool × List (List Nat × List Nat) := (true, [([], []), ([], []), ([1], [1]), ([2], [2]), ([0, 3], [0, 3]), ([4], [4]), ([], []), ([6], [6]), ([5, 7], [5, 7]), ([8, 5, 0, 1, 2, 3, 4, 5, 6, 7, 8], [8])])
def round_At.B6 : List Nat := [0, 0, 2, 6, 15, 31, 0, 64, 255, 511]
theorem round_At.tab6 : rtab .any (opsOf Tryz.f27 6) = round_At.T6 := by kernel_rfl
theorem round_At.bits6 : waitsOk round_At.T6.2 round_At.B6 = true := by kernel_rfl
def round_At.T7 : Bool × List (List Nat × List Nat) := (true, [([], []), ([], []), ([1], [1]), ([], []), ([2, 3], [2, 3]), ([0, 4], [0, 4]), ([], []), ([], []), ([7], [7]), ([], []), ([8, 9], [8, 9]), ([6, 10], [6, 10]), ([5, 0, 1, 2, 3, 4, 5], [5]), ([11, 12, 0, 1, 2, 3, 4, 5, 6, 7, 8, 9, 10, 11, 12], [11])])
def round_At.B7 : List Nat := [0, 0, 2, 0, 14, 31, 0, 0, 128, 0, 896, 1984, 63, 8191]
theorem round_At.tab7 : rtab .any (opsOf Tryz.f27 7) = round_At.T7 := by kernel_rfl
theorem round_At.bits7 : waitsOk round_At.T7.2 round_At.B7 = true := by kernel_rfl
def round_At.T8 : Bool × List (List Nat × List Nat) := (true, [([], []), ([0], [0]), ([], []), ([], []), ([], []), ([4], [4]), ([], []), ([6], [6]), ([], []), ([8, 7], [8]), ([3, 5, 7, 9, 9], [3, 5, 7, 9]), ([2, 10, 10], [2, 10]), ([], []), ([1, 11, 12, 11], [1, 11, 12]), ([13, 13, 0, 1, 2, 3, 4, 5, 6, 7, 8, 9, 10, 11, 12, 13], [13])])
def round_At.B8 : List Nat := [0, 1, 0, 0, 0, 16, 0, 64, 0, 448, 1016, 2044, 0, 8191, 16383]
theorem round_At.tab8 : rtab .any (opsOf Tryz.f27 8) = round_At.T8 := by kernel_rfl
theorem round_At.bits8 : waitsOk round_At.T8.2 round_At.B8 = true := by kernel_rfl
set_option maxHeartbeats 8000000 in
set_option maxRecDepth 100000 in
theorem round_At.calls (k : Nat) (a0_0 : Bool) (a0_1 : ByteArray) (a0_2 : Int) (a1 : Int) (a2 : Int) (r1 : Bool) (r2 : ByteArray) (r3 : Int) (w : World) (h : round_At.f k a0_0 a0_1 a0_2 a1 a2 = some (r1, r2, r3)) :
    Calls Tryz.prog 27 #[.agg #[.bool a0_0, .string a0_1, .int .i64 a0_2], .int .i64 a1, .int .i64 a2] w fun e w' => e = .returned (.agg #[.bool r1, .string r2, .int .i64 r3]) ∧ Below w.heap.size w w' := by
  have hu31 := Tryz.underlying31
  have HB := Aside0.mk (Below.refl w.heap.size w)
  have H : ((dec_Dec_Norm.f k a0_0 a0_1 a0_2).bind fun bt149 => (if bt149.2.2 ≥ (mn (mx a1 (-30000)) 30000) then (round_At.j0 k (mn (mx a1 (-30000)) 30000) a2 true bt149.1 bt149.2.1 bt149.2.2) else ((round_Mode_Valid.f a2).bind fun t152 => (round_At.j0 k (mn (mx a1 (-30000)) 30000) a2 (!t152) bt149.1 bt149.2.1 bt149.2.2)))) = some (r1, r2, r3) := h
  clear h
  replace H := Option.bind_eq_some_iff.mp H
  obtain ⟨⟨t149, t150, t151⟩, A40, H⟩ := H
  replace H : (if t151 ≥ (mn (mx a1 (-30000)) 30000) then (round_At.j0 k (mn (mx a1 (-30000)) 30000) a2 true t149 t150 t151) else ((round_Mode_Valid.f a2).bind fun t152 => (round_At.j0 k (mn (mx a1 (-30000)) 30000) a2 (!t152) t149 t150 t151))) = some (r1, r2, r3) := H
  have A4 := Aside0.mk A40
  clear A40
  obtain ⟨ji5, hji5⟩ : ∃ j_ : Int, (mx a1 (-30000)) = j_ := ⟨_, rfl⟩
  replace H : (if t151 ≥ (mn (ji5) 30000) then (round_At.j0 k (mn (ji5) 30000) a2 true t149 t150 t151) else ((round_Mode_Valid.f a2).bind fun t152 => (round_At.j0 k (mn (ji5) 30000) a2 (!t152) t149 t150 t151))) = some (r1, r2, r3) := by first | (rw [hji5] at H; exact H) | (simp only [hji5] at H ⊢; exact H)
  (try rw [hji5] at A4)
  have hji5_ : (if a1 < (-30000) then (-30000) else a1) = ji5 := hji5
  obtain ⟨ji6, hji6⟩ : ∃ j_ : Int, (mn (ji5) 30000) = j_ := ⟨_, rfl⟩
  replace H : (if t151 ≥ (ji6) then (round_At.j0 k ji6 a2 true t149 t150 t151) else ((round_Mode_Valid.f a2).bind fun t152 => (round_At.j0 k ji6 a2 (!t152) t149 t150 t151))) = some (r1, r2, r3) := by first | (rw [hji6] at H; exact H) | (simp only [hji6] at H ⊢; exact H)
  (try rw [hji6] at A4)
  have hji6_ : (if 30000 < (ji5) then 30000 else (ji5)) = ji6 := hji6
  have HC7 := Aside0.mk H
  clear H
  go_enter Tryz.func27, Tryz.ntmps27
  go_upto_region 3 with (first | ((with_reducible refine gate_dst (N := 3) rfl ?_); refine be_ 3 #[.bool a0_0, .string a0_1, .int .i64 a0_2] 31 ?_; intro gb147 hg w8 hbox hb; have BK147 := Aside0.mk (hbox); have GW147 := sz_ HB hg; have GE147 := sz_ HB hg; replace HB := Aside0.mk (below_step (bl_ HB).out hb); clear hb hbox hg) | ((with_reducible refine gate_dst (N := 6) rfl ?_); refine be_ 6 #[.bool false, .string (⟨#[]⟩ : ByteArray), .int .i64 0] 31 ?_; intro gb148 hg w9 hbox hb; have BK148 := Aside0.mk (hbox); have GW148 := sz_ HB hg; have GE148 := sz_ HB hg; have NB147_148 := na_ BK147 hg; have NB148_147 := nb_ BK147 hg; replace BK147 := bb_ BK147 hb; replace HB := Aside0.mk (below_step (bl_ HB).out hb); clear hb hbox hg; have hnb10 := NB147_148.out; have hnc10 := NB148_147.out; obtain ⟨hcz11_0, hcz11_1, hcz11_2, hfz11_0, hfz11_1, hfz11_2⟩ := bo3_ BK147) | ((with_reducible refine gate_callee (f := 8) rfl ?_); refine gl_ (some 12) Tryz.func8 #[.agg #[.bool a0_0, .string a0_1, .int .i64 a0_2]] ?_; (with_reducible refine (dec_Dec_Norm.calls k a0_0 a0_1 a0_2 t149 t150 t151 _ A4.out).mono ?_); rintro e w12 ⟨rfl, hb⟩; refine ⟨_, rfl, ?_⟩; replace BK147 := bb_ BK147 hb; replace BK148 := bb_ BK148 hb; replace HB := Aside0.mk (below_step (bl_ HB).out hb); (try clear hb); (try clear hb2); (try clear hk); (try clear hi); obtain ⟨hcz13_0, hcz13_1, hcz13_2, hfz13_0, hfz13_1, hfz13_2⟩ := bo3_ BK147))
  (try simp only [Act.put, List.setIfInBounds_toArray, List.set_cons_zero, List.set_cons_succ])
  go_cut [24] (fun v24 wc => ∃ (kq : Nat) (x24_6 : Bool), v24 = .bool x24_6 ∧ Aside0 (round_At.j0 kq ji6 a2 x24_6 t149 t150 t151 = some (r1, r2, r3)) ∧ Aside0 (kq ≤ k) ∧ Aside0 (wc.heap[gb147]? = some (.cells #[.bool t149, .string t150, .int .i64 t151] 31 (0, 0))) ∧ Aside0 (wc.heap[gb148]? = some (.cells #[.bool false, .string (⟨#[]⟩ : ByteArray), .int .i64 0] 31 (0, 0))) ∧ Aside0 (Below w.heap.size w wc))
  case first =>
    have H := HC7.out
    clear HC7
    by_cases c14 : t151 ≥ (ji6)
    · rw [if_pos c14] at H
      have c14b0 : decide ((ji6) ≤ t151) = true := decide_eq_true c14
      clear c14
      (first | rw [c14b0] | (simp only [i64_w, i32_w]; rw [c14b0]) | skip)
      have H' := Aside0.mk H
      clear H
      have hnb15 := NB147_148.out
      have hnc15 := NB148_147.out
      obtain ⟨hcz16_0, hcz16_1, hcz16_2, hfz16_0, hfz16_1, hfz16_2⟩ := bo3_ BK147
      go_wp2
      go_meet
      case rel => first | (exact ⟨_, (true), eq_, H', ⟨by first | omega | exact Nat.le_refl _⟩, ⟨by (with_reducible repeat (first | refine blk_drewN ?_ _ | refine blk_drew ?_ | refine blk_alloc ?_ _)); refine blk_put (cs := #[.bool t149, .string t150, .int .i64 a0_2]) ?_ 2 _ rfl; (with_reducible repeat (first | refine blk_drewN ?_ _ | refine blk_drew ?_ | refine blk_alloc ?_ _)); refine blk_put (cs := #[.bool t149, .string a0_1, .int .i64 a0_2]) ?_ 1 _ rfl; (with_reducible repeat (first | refine blk_drewN ?_ _ | refine blk_drew ?_ | refine blk_alloc ?_ _)); refine blk_put (cs := #[.bool a0_0, .string a0_1, .int .i64 a0_2]) ?_ 0 _ rfl; (with_reducible repeat (first | refine blk_drewN ?_ _ | refine blk_drew ?_ | refine blk_alloc ?_ _)); exact BK147.out⟩, ⟨by (with_reducible repeat (first | refine blk_drewN ?_ _ | refine blk_drew ?_ | refine blk_alloc ?_ _)); refine blk_far ?_ NB148_147.out _; (with_reducible repeat (first | refine blk_drewN ?_ _ | refine blk_drew ?_ | refine blk_alloc ?_ _)); refine blk_far ?_ NB148_147.out _; (with_reducible repeat (first | refine blk_drewN ?_ _ | refine blk_drew ?_ | refine blk_alloc ?_ _)); refine blk_far ?_ NB148_147.out _; (with_reducible repeat (first | refine blk_drewN ?_ _ | refine blk_drew ?_ | refine blk_alloc ?_ _)); exact BK148.out⟩, (bl_ HB)⟩) | (rw [← hji5] at H'; exact ⟨_, (true), eq_, H', ⟨by first | omega | exact Nat.le_refl _⟩, ⟨by (with_reducible repeat (first | refine blk_drewN ?_ _ | refine blk_drew ?_ | refine blk_alloc ?_ _)); refine blk_put (cs := #[.bool t149, .string t150, .int .i64 a0_2]) ?_ 2 _ rfl; (with_reducible repeat (first | refine blk_drewN ?_ _ | refine blk_drew ?_ | refine blk_alloc ?_ _)); refine blk_put (cs := #[.bool t149, .string a0_1, .int .i64 a0_2]) ?_ 1 _ rfl; (with_reducible repeat (first | refine blk_drewN ?_ _ | refine blk_drew ?_ | refine blk_alloc ?_ _)); refine blk_put (cs := #[.bool a0_0, .string a0_1, .int .i64 a0_2]) ?_ 0 _ rfl; (with_reducible repeat (first | refine blk_drewN ?_ _ | refine blk_drew ?_ | refine blk_alloc ?_ _)); exact BK147.out⟩, ⟨by (with_reducible repeat (first | refine blk_drewN ?_ _ | refine blk_drew ?_ | refine blk_alloc ?_ _)); refine blk_far ?_ NB148_147.out _; (with_reducible repeat (first | refine blk_drewN ?_ _ | refine blk_drew ?_ | refine blk_alloc ?_ _)); refine blk_far ?_ NB148_147.out _; (with_reducible repeat (first | refine blk_drewN ?_ _ | refine blk_drew ?_ | refine blk_alloc ?_ _)); refine blk_far ?_ NB148_147.out _; (with_reducible repeat (first | refine blk_drewN ?_ _ | refine blk_drew ?_ | refine blk_alloc ?_ _)); exact BK148.out⟩, (bl_ HB)⟩) | (rw [← hji6] at H'; exact ⟨_, (true), eq_, H', ⟨by first | omega | exact Nat.le_refl _⟩, ⟨by (with_reducible repeat (first | refine blk_drewN ?_ _ | refine blk_drew ?_ | refine blk_alloc ?_ _)); refine blk_put (cs := #[.bool t149, .string t150, .int .i64 a0_2]) ?_ 2 _ rfl; (with_reducible repeat (first | refine blk_drewN ?_ _ | refine blk_drew ?_ | refine blk_alloc ?_ _)); refine blk_put (cs := #[.bool t149, .string a0_1, .int .i64 a0_2]) ?_ 1 _ rfl; (with_reducible repeat (first | refine blk_drewN ?_ _ | refine blk_drew ?_ | refine blk_alloc ?_ _)); refine blk_put (cs := #[.bool a0_0, .string a0_1, .int .i64 a0_2]) ?_ 0 _ rfl; (with_reducible repeat (first | refine blk_drewN ?_ _ | refine blk_drew ?_ | refine blk_alloc ?_ _)); exact BK147.out⟩, ⟨by (with_reducible repeat (first | refine blk_drewN ?_ _ | refine blk_drew ?_ | refine blk_alloc ?_ _)); refine blk_far ?_ NB148_147.out _; (with_reducible repeat (first | refine blk_drewN ?_ _ | refine blk_drew ?_ | refine blk_alloc ?_ _)); refine blk_far ?_ NB148_147.out _; (with_reducible repeat (first | refine blk_drewN ?_ _ | refine blk_drew ?_ | refine blk_alloc ?_ _)); refine blk_far ?_ NB148_147.out _; (with_reducible repeat (first | refine blk_drewN ?_ _ | refine blk_drew ?_ | refine blk_alloc ?_ _)); exact BK148.out⟩, (bl_ HB)⟩) | (rw [← hji5, ← hji6] at H'; exact ⟨_, (true), eq_, H', ⟨by first | omega | exact Nat.le_refl _⟩, ⟨by (with_reducible repeat (first | refine blk_drewN ?_ _ | refine blk_drew ?_ | refine blk_alloc ?_ _)); refine blk_put (cs := #[.bool t149, .string t150, .int .i64 a0_2]) ?_ 2 _ rfl; (with_reducible repeat (first | refine blk_drewN ?_ _ | refine blk_drew ?_ | refine blk_alloc ?_ _)); refine blk_put (cs := #[.bool t149, .string a0_1, .int .i64 a0_2]) ?_ 1 _ rfl; (with_reducible repeat (first | refine blk_drewN ?_ _ | refine blk_drew ?_ | refine blk_alloc ?_ _)); refine blk_put (cs := #[.bool a0_0, .string a0_1, .int .i64 a0_2]) ?_ 0 _ rfl; (with_reducible repeat (first | refine blk_drewN ?_ _ | refine blk_drew ?_ | refine blk_alloc ?_ _)); exact BK147.out⟩, ⟨by (with_reducible repeat (first | refine blk_drewN ?_ _ | refine blk_drew ?_ | refine blk_alloc ?_ _)); refine blk_far ?_ NB148_147.out _; (with_reducible repeat (first | refine blk_drewN ?_ _ | refine blk_drew ?_ | refine blk_alloc ?_ _)); refine blk_far ?_ NB148_147.out _; (with_reducible repeat (first | refine blk_drewN ?_ _ | refine blk_drew ?_ | refine blk_alloc ?_ _)); refine blk_far ?_ NB148_147.out _; (with_reducible repeat (first | refine blk_drewN ?_ _ | refine blk_drew ?_ | refine blk_alloc ?_ _)); exact BK148.out⟩, (bl_ HB)⟩)
    · rw [if_neg c14] at H
      have c14b0 : decide ((ji6) ≤ t151) = false := decide_eq_false c14
      clear c14
      (first | rw [c14b0] | (simp only [i64_w, i32_w]; rw [c14b0]) | skip)
      replace H := Option.bind_eq_some_iff.mp H
      obtain ⟨t152, A170, H⟩ := H
      replace H : (round_At.j0 k ji6 a2 (!t152) t149 t150 t151) = some (r1, r2, r3) := H
      have A17 := Aside0.mk A170
      clear A170
      have H' := Aside0.mk H
      clear H
      have hnb18 := NB147_148.out
      have hnc18 := NB148_147.out
      obtain ⟨hcz19_0, hcz19_1, hcz19_2, hfz19_0, hfz19_1, hfz19_2⟩ := bo3_ BK147
      go_wp2_with (first | (go_at_call 25; (with_reducible refine (round_Mode_Valid.calls a2 t152 _ A17.out).mono ?_); rintro e w' ⟨rfl, ⟨nd, rfl⟩⟩))
      go_meet
      case rel => first | (exact ⟨_, (!t152), eq_, H', ⟨by first | omega | exact Nat.le_refl _⟩, ⟨by (with_reducible repeat (first | refine blk_drewN ?_ _ | refine blk_drew ?_ | refine blk_alloc ?_ _)); refine blk_put (cs := #[.bool t149, .string t150, .int .i64 a0_2]) ?_ 2 _ rfl; (with_reducible repeat (first | refine blk_drewN ?_ _ | refine blk_drew ?_ | refine blk_alloc ?_ _)); refine blk_put (cs := #[.bool t149, .string a0_1, .int .i64 a0_2]) ?_ 1 _ rfl; (with_reducible repeat (first | refine blk_drewN ?_ _ | refine blk_drew ?_ | refine blk_alloc ?_ _)); refine blk_put (cs := #[.bool a0_0, .string a0_1, .int .i64 a0_2]) ?_ 0 _ rfl; (with_reducible repeat (first | refine blk_drewN ?_ _ | refine blk_drew ?_ | refine blk_alloc ?_ _)); exact BK147.out⟩, ⟨by (with_reducible repeat (first | refine blk_drewN ?_ _ | refine blk_drew ?_ | refine blk_alloc ?_ _)); refine blk_far ?_ NB148_147.out _; (with_reducible repeat (first | refine blk_drewN ?_ _ | refine blk_drew ?_ | refine blk_alloc ?_ _)); refine blk_far ?_ NB148_147.out _; (with_reducible repeat (first | refine blk_drewN ?_ _ | refine blk_drew ?_ | refine blk_alloc ?_ _)); refine blk_far ?_ NB148_147.out _; (with_reducible repeat (first | refine blk_drewN ?_ _ | refine blk_drew ?_ | refine blk_alloc ?_ _)); exact BK148.out⟩, (bl_ HB)⟩) | (rw [← hji5] at H'; exact ⟨_, (!t152), eq_, H', ⟨by first | omega | exact Nat.le_refl _⟩, ⟨by (with_reducible repeat (first | refine blk_drewN ?_ _ | refine blk_drew ?_ | refine blk_alloc ?_ _)); refine blk_put (cs := #[.bool t149, .string t150, .int .i64 a0_2]) ?_ 2 _ rfl; (with_reducible repeat (first | refine blk_drewN ?_ _ | refine blk_drew ?_ | refine blk_alloc ?_ _)); refine blk_put (cs := #[.bool t149, .string a0_1, .int .i64 a0_2]) ?_ 1 _ rfl; (with_reducible repeat (first | refine blk_drewN ?_ _ | refine blk_drew ?_ | refine blk_alloc ?_ _)); refine blk_put (cs := #[.bool a0_0, .string a0_1, .int .i64 a0_2]) ?_ 0 _ rfl; (with_reducible repeat (first | refine blk_drewN ?_ _ | refine blk_drew ?_ | refine blk_alloc ?_ _)); exact BK147.out⟩, ⟨by (with_reducible repeat (first | refine blk_drewN ?_ _ | refine blk_drew ?_ | refine blk_alloc ?_ _)); refine blk_far ?_ NB148_147.out _; (with_reducible repeat (first | refine blk_drewN ?_ _ | refine blk_drew ?_ | refine blk_alloc ?_ _)); refine blk_far ?_ NB148_147.out _; (with_reducible repeat (first | refine blk_drewN ?_ _ | refine blk_drew ?_ | refine blk_alloc ?_ _)); refine blk_far ?_ NB148_147.out _; (with_reducible repeat (first | refine blk_drewN ?_ _ | refine blk_drew ?_ | refine blk_alloc ?_ _)); exact BK148.out⟩, (bl_ HB)⟩) | (rw [← hji6] at H'; exact ⟨_, (!t152), eq_, H', ⟨by first | omega | exact Nat.le_refl _⟩, ⟨by (with_reducible repeat (first | refine blk_drewN ?_ _ | refine blk_drew ?_ | refine blk_alloc ?_ _)); refine blk_put (cs := #[.bool t149, .string t150, .int .i64 a0_2]) ?_ 2 _ rfl; (with_reducible repeat (first | refine blk_drewN ?_ _ | refine blk_drew ?_ | refine blk_alloc ?_ _)); refine blk_put (cs := #[.bool t149, .string a0_1, .int .i64 a0_2]) ?_ 1 _ rfl; (with_reducible repeat (first | refine blk_drewN ?_ _ | refine blk_drew ?_ | refine blk_alloc ?_ _)); refine blk_put (cs := #[.bool a0_0, .string a0_1, .int .i64 a0_2]) ?_ 0 _ rfl; (with_reducible repeat (first | refine blk_drewN ?_ _ | refine blk_drew ?_ | refine blk_alloc ?_ _)); exact BK147.out⟩, ⟨by (with_reducible repeat (first | refine blk_drewN ?_ _ | refine blk_drew ?_ | refine blk_alloc ?_ _)); refine blk_far ?_ NB148_147.out _; (with_reducible repeat (first | refine blk_drewN ?_ _ | refine blk_drew ?_ | refine blk_alloc ?_ _)); refine blk_far ?_ NB148_147.out _; (with_reducible repeat (first | refine blk_drewN ?_ _ | refine blk_drew ?_ | refine blk_alloc ?_ _)); refine blk_far ?_ NB148_147.out _; (with_reducible repeat (first | refine blk_drewN ?_ _ | refine blk_drew ?_ | refine blk_alloc ?_ _)); exact BK148.out⟩, (bl_ HB)⟩) | (rw [← hji5, ← hji6] at H'; exact ⟨_, (!t152), eq_, H', ⟨by first | omega | exact Nat.le_refl _⟩, ⟨by (with_reducible repeat (first | refine blk_drewN ?_ _ | refine blk_drew ?_ | refine blk_alloc ?_ _)); refine blk_put (cs := #[.bool t149, .string t150, .int .i64 a0_2]) ?_ 2 _ rfl; (with_reducible repeat (first | refine blk_drewN ?_ _ | refine blk_drew ?_ | refine blk_alloc ?_ _)); refine blk_put (cs := #[.bool t149, .string a0_1, .int .i64 a0_2]) ?_ 1 _ rfl; (with_reducible repeat (first | refine blk_drewN ?_ _ | refine blk_drew ?_ | refine blk_alloc ?_ _)); refine blk_put (cs := #[.bool a0_0, .string a0_1, .int .i64 a0_2]) ?_ 0 _ rfl; (with_reducible repeat (first | refine blk_drewN ?_ _ | refine blk_drew ?_ | refine blk_alloc ?_ _)); exact BK147.out⟩, ⟨by (with_reducible repeat (first | refine blk_drewN ?_ _ | refine blk_drew ?_ | refine blk_alloc ?_ _)); refine blk_far ?_ NB148_147.out _; (with_reducible repeat (first | refine blk_drewN ?_ _ | refine blk_drew ?_ | refine blk_alloc ?_ _)); refine blk_far ?_ NB148_147.out _; (with_reducible repeat (first | refine blk_drewN ?_ _ | refine blk_drew ?_ | refine blk_alloc ?_ _)); refine blk_far ?_ NB148_147.out _; (with_reducible repeat (first | refine blk_drewN ?_ _ | refine blk_drew ?_ | refine blk_alloc ?_ _)); exact BK148.out⟩, (bl_ HB)⟩)
  case rest =>
    clear HC7
    try clear c1
    try clear c2
    try clear p2
    try clear p6
    try clear c8
    try clear c10
    try clear c14
    try clear c14b0
    try clear c15
    try clear c18
    try clear hcz11_0
    try clear hcz11_1
    try clear hcz11_2
    try clear hcz13_0
    try clear hcz13_1
    try clear hcz13_2
    try clear hcz16_0
    try clear hcz16_1
    try clear hcz16_2
    try clear hcz19_0
    try clear hcz19_1
    try clear hcz19_2
    try clear hfz11_0
    try clear hfz11_1
    try clear hfz11_2
    try clear hfz13_0
    try clear hfz13_1
    try clear hfz13_2
    try clear hfz16_0
    try clear hfz16_1
    try clear hfz16_2
    try clear hfz19_0
    try clear hfz19_1
    try clear hfz19_2
    obtain ⟨kq, x24_6, rfl, HA, HJ6, BK147, BK148, HB⟩ := hcut
    cases kq with
    | zero => exact absurd HA.out (by simp [round_At.j0])
    | succ kj6 =>
      have H := HA.out
      clear HA
      simp only [round_At.j0] at H
      by_cases c20 : x24_6 = true
      · subst c20
        have H1 : (some (t149, t150, t151)) = some (r1, r2, r3) := by rw [if_pos rfl] at H; exact H
        clear H
        have H := H1
        clear H1
        simp only [Option.some.injEq, Prod.mk.injEq] at H
        obtain ⟨rfl, rfl, rfl⟩ := H
        have hnb21 := NB147_148.out
        have hnc21 := NB148_147.out
        obtain ⟨hcz22_0, hcz22_1, hcz22_2, hfz22_0, hfz22_1, hfz22_2⟩ := bo3_ BK147
        obtain ⟨hcz23_0, hcz23_1, hcz23_2, hfz23_0, hfz23_1, hfz23_2⟩ := bo3_ BK148
        go_wp2
        refine bodyPost_ret (results_cell_row rfl _ _ gb148 31 #[.bool t149, .string t150, .int .i64 t151] (0, 0) _ rfl (by (with_reducible repeat (first | refine blk_drewN ?_ _ | refine blk_drew ?_ | refine blk_alloc ?_ _)); refine blk_put (cs := #[.bool t149, .string t150, .int .i64 0]) ?_ 2 _ rfl; (with_reducible repeat (first | refine blk_drewN ?_ _ | refine blk_drew ?_ | refine blk_alloc ?_ _)); refine blk_put (cs := #[.bool t149, .string (⟨#[]⟩ : ByteArray), .int .i64 0]) ?_ 1 _ rfl; (with_reducible repeat (first | refine blk_drewN ?_ _ | refine blk_drew ?_ | refine blk_alloc ?_ _)); refine blk_put (cs := #[.bool false, .string (⟨#[]⟩ : ByteArray), .int .i64 0]) ?_ 0 _ rfl; (with_reducible repeat (first | refine blk_drewN ?_ _ | refine blk_drew ?_ | refine blk_alloc ?_ _)); exact BK148.out) Tryz.underlying31 rfl (by kernel_rfl)) rfl ?_
        exact ⟨by first | rfl | (simp [errW_none, errW_some] <;> rfl) | (simp only [← hji5, ← hji6]; first | rfl | (simp [errW_none, errW_some] <;> rfl)) | (simp [*, errW_none, errW_some] <;> first | rfl | exact given_isEmpty _ | exact (given_isEmpty _).symm), by repeat (first | (with_reducible first | exact HB.out | apply below_alloc | apply pw_below_drewN | apply below_drew1 | refine below_set ?_ GE147.out | refine below_set ?_ GE148.out) | exact HB.out)⟩
      · replace c20 := Bool.eq_false_iff.mpr c20
        subst c20
        have H1 : ((num_Zeros.f (wrap64 ((wrap64 (ji6 - t151)) - (t150.size : Int)))).bind fun t153 => (if t153.size + t150.size ≤ 9223372036854775807 then (if 0 ≤ (wrap64 (((t153 ++ t150).size : Int) - (wrap64 (ji6 - t151)))) then (if (wrap64 (((t153 ++ t150).size : Int) - (wrap64 (ji6 - t151)))) ≤ ((t153 ++ t150).size : Int) then ((round_odd.f ((t153 ++ t150).extract 0 ((wrap64 (((t153 ++ t150).size : Int) - (wrap64 (ji6 - t151)))) : Int).toNat)).bind fun t154 => ((round_tail.f ((t153 ++ t150).extract ((wrap64 (((t153 ++ t150).size : Int) - (wrap64 (ji6 - t151)))) : Int).toNat (t153 ++ t150).size)).bind fun t155 => ((round_Mode_up.f a2 t149 t154 t155).bind fun t156 => ((round_step.f kj6 ((t153 ++ t150).extract 0 ((wrap64 (((t153 ++ t150).size : Int) - (wrap64 (ji6 - t151)))) : Int).toNat) t156).bind fun t157 => ((dec_Made.f kj6 t149 t157 ji6).bind fun bt158 => (some (bt158.1, bt158.2.1, bt158.2.2))))))) else (none)) else (none)) else (none))) = some (r1, r2, r3) := by rw [if_neg (show ¬ (false = true) by decide)] at H; exact H
        clear H
        have H := H1
        clear H1
        replace H := Option.bind_eq_some_iff.mp H
        obtain ⟨t153, A240, H⟩ := H
        replace H : (if t153.size + t150.size ≤ 9223372036854775807 then (if 0 ≤ (wrap64 (((t153 ++ t150).size : Int) - (wrap64 (ji6 - t151)))) then (if (wrap64 (((t153 ++ t150).size : Int) - (wrap64 (ji6 - t151)))) ≤ ((t153 ++ t150).size : Int) then ((round_odd.f ((t153 ++ t150).extract 0 ((wrap64 (((t153 ++ t150).size : Int) - (wrap64 (ji6 - t151)))) : Int).toNat)).bind fun t154 => ((round_tail.f ((t153 ++ t150).extract ((wrap64 (((t153 ++ t150).size : Int) - (wrap64 (ji6 - t151)))) : Int).toNat (t153 ++ t150).size)).bind fun t155 => ((round_Mode_up.f a2 t149 t154 t155).bind fun t156 => ((round_step.f kj6 ((t153 ++ t150).extract 0 ((wrap64 (((t153 ++ t150).size : Int) - (wrap64 (ji6 - t151)))) : Int).toNat) t156).bind fun t157 => ((dec_Made.f kj6 t149 t157 ji6).bind fun bt158 => (some (bt158.1, bt158.2.1, bt158.2.2))))))) else (none)) else (none)) else (none)) = some (r1, r2, r3) := H
        have A24 := Aside0.mk A240
        clear A240
        by_cases c25 : t153.size + t150.size ≤ 9223372036854775807
        · rw [if_pos c25] at H
          have c25b0 := eq_true c25
          have c25b1 : decide (t153.size + t150.size ≤ 9223372036854775807) = true := decide_eq_true c25
          try have c25b2 : (9223372036854775807 < t153.size + t150.size) = False := eq_false (Nat.not_lt.2 c25)
          obtain ⟨ji26, hji26⟩ : ∃ j_ : Int, (wrap64 (((t153 ++ t150).size : Int) - (wrap64 (ji6 - t151)))) = j_ := ⟨_, rfl⟩
          replace H : (if 0 ≤ (ji26) then (if (ji26) ≤ ((t153 ++ t150).size : Int) then ((round_odd.f ((t153 ++ t150).extract 0 ((ji26) : Int).toNat)).bind fun t154 => ((round_tail.f ((t153 ++ t150).extract ((ji26) : Int).toNat (t153 ++ t150).size)).bind fun t155 => ((round_Mode_up.f a2 t149 t154 t155).bind fun t156 => ((round_step.f kj6 ((t153 ++ t150).extract 0 ((ji26) : Int).toNat) t156).bind fun t157 => ((dec_Made.f kj6 t149 t157 ji6).bind fun bt158 => (some (bt158.1, bt158.2.1, bt158.2.2))))))) else (none)) else (none)) = some (r1, r2, r3) := by first | (rw [hji26] at H; exact H) | (simp only [hji26] at H ⊢; exact H)
          (try rw [hji26] at A24)
          have hji26w : (IntKind.i64.wrap (((t153 ++ t150).size : Int) - (wrap64 (ji6 - t151)))) = ji26 := (i64_w _).trans hji26
          try (have hji26s := hji26; simp only [ByteArray.size_append, Int.natCast_add] at hji26s)
          try (have hji26s := hji26; simp only [ByteArray.size_append, Int.natCast_add] at hji26s)
          by_cases c27 : 0 ≤ (ji26)
          · rw [if_pos c27] at H
            have c27b0 := eq_true c27
            have c27b1 : decide (0 ≤ (ji26)) = true := decide_eq_true c27
            clear c27
            by_cases c28 : (ji26) ≤ ((t153 ++ t150).size : Int)
            · rw [if_pos c28] at H
              have c28b0 := eq_true c28
              have c28b1 : decide ((ji26) ≤ ((t153 ++ t150).size : Int)) = true := decide_eq_true c28
              try (have c28b5 := c28b0; simp only [ByteArray.size_append, Int.natCast_add] at c28b5)
              have c29b0 := eq_true (of_decide_eq_true (by first | (with_reducible assumption) | assumption) : 0 ≤ (ji26))
              have c30b0 := eq_true (of_decide_eq_true (by first | (with_reducible assumption) | assumption) : (ji26) ≤ ((t153 ++ t150).size : Int))
              replace H := Option.bind_eq_some_iff.mp H
              obtain ⟨t154, A310, H⟩ := H
              replace H : ((round_tail.f ((t153 ++ t150).extract ((ji26) : Int).toNat (t153 ++ t150).size)).bind fun t155 => ((round_Mode_up.f a2 t149 t154 t155).bind fun t156 => ((round_step.f kj6 ((t153 ++ t150).extract 0 ((ji26) : Int).toNat) t156).bind fun t157 => ((dec_Made.f kj6 t149 t157 ji6).bind fun bt158 => (some (bt158.1, bt158.2.1, bt158.2.2)))))) = some (r1, r2, r3) := H
              have A31 := Aside0.mk A310
              clear A310
              replace H := Option.bind_eq_some_iff.mp H
              obtain ⟨t155, A320, H⟩ := H
              replace H : ((round_Mode_up.f a2 t149 t154 t155).bind fun t156 => ((round_step.f kj6 ((t153 ++ t150).extract 0 ((ji26) : Int).toNat) t156).bind fun t157 => ((dec_Made.f kj6 t149 t157 ji6).bind fun bt158 => (some (bt158.1, bt158.2.1, bt158.2.2))))) = some (r1, r2, r3) := H
              have A32 := Aside0.mk A320
              clear A320
              replace H := Option.bind_eq_some_iff.mp H
              obtain ⟨t156, A330, H⟩ := H
              replace H : ((round_step.f kj6 ((t153 ++ t150).extract 0 ((ji26) : Int).toNat) t156).bind fun t157 => ((dec_Made.f kj6 t149 t157 ji6).bind fun bt158 => (some (bt158.1, bt158.2.1, bt158.2.2)))) = some (r1, r2, r3) := H
              have A33 := Aside0.mk A330
              clear A330
              replace H := Option.bind_eq_some_iff.mp H
              obtain ⟨t157, A340, H⟩ := H
              replace H : ((dec_Made.f kj6 t149 t157 ji6).bind fun bt158 => (some (bt158.1, bt158.2.1, bt158.2.2))) = some (r1, r2, r3) := H
              have A34 := Aside0.mk A340
              clear A340
              replace H := Option.bind_eq_some_iff.mp H
              obtain ⟨⟨t158, t159, t160⟩, A350, H⟩ := H
              replace H : (some (t158, t159, t160)) = some (r1, r2, r3) := H
              have A35 := Aside0.mk A350
              clear A350
              simp only [Option.some.injEq, Prod.mk.injEq] at H
              obtain ⟨rfl, rfl, rfl⟩ := H
              have hnb36 := NB147_148.out
              have hnc36 := NB148_147.out
              obtain ⟨hcz37_0, hcz37_1, hcz37_2, hfz37_0, hfz37_1, hfz37_2⟩ := bo3_ BK147
              try go_wp2
              replace BK147 := Aside0.mk (blk_drew BK147.out)
              replace BK148 := Aside0.mk (blk_drew BK148.out)
              replace HB := Aside0.mk (below_drew1 HB.out)
              refine start_ (n := 10) (S := fun w' => w'.cell? ⟨gb147, 0, none⟩ = some (.bool t149) ∧ w'.cell? ⟨gb147, 1, none⟩ = some (.string t150) ∧ w'.cell? ⟨gb147, 2, none⟩ = some (.int .i64 t151)) (ds := []) #[false, false, false, false, false, false, false, false, false, false] (by kernel_rfl) rfl rfl ⟨bc_ BK147 0, bc_ BK147 1, bc_ BK147 2⟩ (fun hHeld => ?_); refine with_tabW round_At.tab6 round_At.bits6 (fun HT_ HW_ => ?_)
              generalize wc.drew = w38 at BK147 BK148 HB hHeld ⊢
              refine pu_ 0 30 (bm_ 10 1) HT_ ?_
              refine pu_ 1 31 (bm_ 10 3) HT_ ?_
              refine pu_ 6 36 (bm_ 10 67) HT_ ?_
              refine tk_ 2 32 (bm_ 10 71) HT_ HW_ hHeld rfl (by rintro w' ⟨s0, s1, s2⟩; go_simp; with_reducible rfl) ?_
              refine pu_ 3 33 (bm_ 10 79) HT_ ?_
              refine pu_ 4 34 (bm_ 10 95) HT_ ?_
              refine tk_ 7 37 (bm_ 10 223) HT_ HW_ hHeld rfl (by rintro w' ⟨s0, s1, s2⟩; go_simp; with_reducible rfl) ?_
              refine one_ (i := 5) (N := some 35) (bm_ 10 255) rfl rfl (one_of HT_.out (by kernel_rfl)) (by decide) (fun K hK => ?_)
              refine goes_ Tryz.func24 (by kernel_rfl) rfl #[.int .i64 (wrap64 ((wrap64 (ji6 - t151)) - (t150.size : Int)))] (by rfl) rfl rfl (by (try simp only [List.map_toArray, List.map_cons, List.map_nil]); first | done | (simp only [hji6]; rfl) | rfl | (simp only [List.length_drop, List.length_take]; rfl) | (have z_ : ∀ s_ : ByteArray, s_.size ≤ 9223372036854775807 → -(s_.size : Int) = wrap64 (-(s_.size : Int)) := (fun s_ h_ => by unfold wrap64; omega); rw [← z_ _ (by omega)]; rfl) | (simp only [ByteArray.size_append]; rfl)) ?_
              with_reducible refine (num_Zeros.calls (wrap64 ((wrap64 (ji6 - t151)) - (t150.size : Int))) t153 _ A24.out).mono ?_
              rintro e w39 ⟨rfl, hb⟩
              refine ⟨_, rfl, ?_⟩
              replace BK147 := bb_ BK147 hb
              replace BK148 := bb_ BK148 hb
              replace HB := Aside0.mk (below_step (bl_ HB).out hb)
              (try clear hb)
              (try clear hb2)
              (try clear hk)
              (try clear hi)
              refine hK.out _ _ ⟨bc_ BK147 0, bc_ BK147 1, bc_ BK147 2⟩ (fun hHeld => ?_)
              clear hK K
              refine nm_ 35 ?_
              refine pu_ 8 38 (bm_ 10 511) HT_ ?_
              refine pu_ 9 8 (bm_ 10 1023) HT_ ?_
              refine done_ (done_of HT_.out (by kernel_rfl)) ?_
              try go_wp2
              replace BK147 := Aside0.mk (blk_drew BK147.out)
              replace BK148 := Aside0.mk (blk_drew BK148.out)
              replace HB := Aside0.mk (below_drew1 HB.out)
              refine start_ (n := 14) (S := fun w' => True) (ds := []) #[false, false, false, false, false, false, false, false, false, false, false, false, false, false] (by kernel_rfl) rfl rfl trivial (fun hHeld => ?_); refine with_tabW round_At.tab7 round_At.bits7 (fun HT_ HW_ => ?_)
              generalize w39.drew = w40 at BK147 BK148 HB hHeld ⊢
              refine pu_ 0 39 (bm_ 14 1) HT_ ?_
              refine pu_ 1 40 (bm_ 14 3) HT_ ?_
              refine pu_ 2 41 (bm_ 14 7) HT_ ?_
              refine pu_ 3 42 (bm_ 14 15) HT_ ?_
              refine pu_ 4 43 (bm_ 14 31) HT_ ?_
              refine pu_ 5 44 (bm_ 14 63) HT_ ?_
              refine pu_ 6 45 (bm_ 14 127) HT_ ?_
              refine pu_ 7 46 (bm_ 14 255) HT_ ?_
              refine pu_ 8 47 (bm_ 14 511) HT_ ?_
              refine pu_ 9 48 (bm_ 14 1023) HT_ ?_
              refine pu_ 10 49 (bm_ 14 2047) HT_ ?_
              refine pu_ 11 50 (bm_ 14 4095) HT_ ?_
              refine pu_ 12 9 (bm_ 14 8191) HT_ ?_
              refine pu_ 13 10 (bm_ 14 16383) HT_ ?_
              refine done_ (done_of HT_.out (by kernel_rfl)) ?_
              try go_wp2
              replace BK147 := Aside0.mk (blk_drew BK147.out)
              replace BK148 := Aside0.mk (blk_drew BK148.out)
              replace HB := Aside0.mk (below_drew1 HB.out)
              refine start_ (n := 15) (S := fun w' => w'.cell? ⟨gb147, 0, none⟩ = some (.bool t149) ∧ w'.cell? ⟨gb147, 1, none⟩ = some (.string t150) ∧ w'.cell? ⟨gb147, 2, none⟩ = some (.int .i64 t151)) (ds := []) #[false, false, false, false, false, false, false, false, false, false, false, false, false, false, false] (by kernel_rfl) rfl rfl ⟨bc_ BK147 0, bc_ BK147 1, bc_ BK147 2⟩ (fun hHeld => ?_); refine with_tabW round_At.tab8 round_At.bits8 (fun HT_ HW_ => ?_)
              generalize w40.drew = w41 at BK147 BK148 HB hHeld ⊢
              refine pu_ 0 51 (bm_ 15 1) HT_ ?_
              refine pu_ 2 53 (bm_ 15 5) HT_ ?_
              refine pu_ 3 54 (bm_ 15 13) HT_ ?_
              refine pu_ 4 55 (bm_ 15 29) HT_ ?_
              refine pu_ 6 57 (bm_ 15 93) HT_ ?_
              refine pu_ 8 59 (bm_ 15 349) HT_ ?_
              refine pu_ 12 63 (bm_ 15 4445) HT_ ?_
              refine tk_ 1 52 (bm_ 15 4447) HT_ HW_ hHeld rfl (by rintro w' ⟨s0, s1, s2⟩; go_simp; with_reducible rfl) ?_
              refine tk_ 5 56 (bm_ 15 4479) HT_ HW_ hHeld rfl (by rintro w' ⟨s0, s1, s2⟩; go_simp; with_reducible rfl) ?_
              refine one_ (i := 7) (N := some 58) (bm_ 15 4607) rfl rfl (one_of HT_.out (by kernel_rfl)) (by decide) (fun K hK => ?_)
              refine goes_ Tryz.func47 (by kernel_rfl) rfl #[.string ((t153 ++ t150).extract 0 ((ji26) : Int).toNat)] (by rfl) rfl rfl (by (try simp only [List.map_toArray, List.map_cons, List.map_nil]); first | done | (simp only [hji26]; rfl) | rfl | (simp only [List.length_drop, List.length_take]; rfl) | (have z_ : ∀ s_ : ByteArray, s_.size ≤ 9223372036854775807 → -(s_.size : Int) = wrap64 (-(s_.size : Int)) := (fun s_ h_ => by unfold wrap64; omega); rw [← z_ _ (by omega)]; rfl) | (simp only [ByteArray.size_append]; rfl)) ?_
              with_reducible refine (round_odd.calls ((t153 ++ t150).extract 0 ((ji26) : Int).toNat) t154 _ A31.out).mono ?_
              rintro e w' ⟨rfl, ⟨nd, rfl⟩⟩
              refine ⟨_, rfl, ?_⟩
              refine hK.out _ _ ⟨bc_ BK147 0, bc_ BK147 1, bc_ BK147 2⟩ (fun hHeld => ?_)
              clear hK K
              refine nm_ 58 ?_
              refine one_ (i := 9) (N := some 60) (bm_ 15 5119) rfl rfl (one_of HT_.out (by kernel_rfl)) (by decide) (fun K hK => ?_)
              refine goes_ Tryz.func48 (by kernel_rfl) rfl #[.string ((t153 ++ t150).extract ((ji26) : Int).toNat (t153 ++ t150).size)] (by rfl) rfl rfl (by (try simp only [List.map_toArray, List.map_cons, List.map_nil]); first | done | (simp only [hji26]; rfl) | rfl | (simp only [List.length_drop, List.length_take]; rfl) | (have z_ : ∀ s_ : ByteArray, s_.size ≤ 9223372036854775807 → -(s_.size : Int) = wrap64 (-(s_.size : Int)) := (fun s_ h_ => by unfold wrap64; omega); rw [← z_ _ (by omega)]; rfl) | (simp only [ByteArray.size_append]; rfl)) ?_
              with_reducible refine (round_tail.calls ((t153 ++ t150).extract ((ji26) : Int).toNat (t153 ++ t150).size) t155 _ A32.out).mono ?_
              rintro e w' ⟨rfl, ⟨nd, rfl⟩⟩
              refine ⟨_, rfl, ?_⟩
              refine hK.out _ _ ⟨bc_ BK147 0, bc_ BK147 1, bc_ BK147 2⟩ (fun hHeld => ?_)
              clear hK K
              refine nm_ 60 ?_
              refine one_ (i := 10) (N := some 61) (bm_ 15 6143) rfl rfl (one_of HT_.out (by kernel_rfl)) (by decide) (fun K hK => ?_)
              refine gs_ Tryz.func46 #[.int .i64 a2, .bool t149, .bool t154, .int .i64 t155] ?_
              with_reducible refine (round_Mode_up.calls a2 t149 t154 t155 t156 _ A33.out).mono ?_
              rintro e w' ⟨rfl, ⟨nd, rfl⟩⟩
              refine ⟨_, rfl, ?_⟩
              refine hK.out _ _ ⟨bc_ BK147 0, bc_ BK147 1, bc_ BK147 2⟩ (fun hHeld => ?_)
              clear hK K
              refine nm_ 61 ?_
              refine one_ (i := 11) (N := some 62) (bm_ 15 8191) rfl rfl (one_of HT_.out (by kernel_rfl)) (by decide) (fun K hK => ?_)
              refine goes_ Tryz.func45 (by kernel_rfl) rfl #[.string ((t153 ++ t150).extract 0 ((ji26) : Int).toNat), .bool t156] (by rfl) rfl rfl (by (try simp only [List.map_toArray, List.map_cons, List.map_nil]); first | done | (simp only [hji26]; rfl) | rfl | (simp only [List.length_drop, List.length_take]; rfl) | (have z_ : ∀ s_ : ByteArray, s_.size ≤ 9223372036854775807 → -(s_.size : Int) = wrap64 (-(s_.size : Int)) := (fun s_ h_ => by unfold wrap64; omega); rw [← z_ _ (by omega)]; rfl) | (simp only [ByteArray.size_append]; rfl)) ?_
              with_reducible refine (round_step.calls kj6 ((t153 ++ t150).extract 0 ((ji26) : Int).toNat) t156 t157 _ A34.out).mono ?_
              rintro e w42 ⟨rfl, hb⟩
              refine ⟨_, rfl, ?_⟩
              replace BK147 := bb_ BK147 hb
              replace BK148 := bb_ BK148 hb
              replace HB := Aside0.mk (below_step (bl_ HB).out hb)
              (try clear hb)
              (try clear hb2)
              (try clear hk)
              (try clear hi)
              refine hK.out _ _ ⟨bc_ BK147 0, bc_ BK147 1, bc_ BK147 2⟩ (fun hHeld => ?_)
              clear hK K
              refine nm_ 62 ?_
              refine one_ (i := 13) (N := some 64) (bm_ 15 16383) rfl rfl (one_of HT_.out (by kernel_rfl)) (by decide) (fun K hK => ?_)
              refine goes_ Tryz.func16 (by kernel_rfl) rfl #[.bool t149, .string t157, .int .i64 ji6] (by rfl) rfl rfl (by (try simp only [List.map_toArray, List.map_cons, List.map_nil]); first | done | (simp only [hji6]; rfl) | rfl | (simp only [List.length_drop, List.length_take]; rfl) | (have z_ : ∀ s_ : ByteArray, s_.size ≤ 9223372036854775807 → -(s_.size : Int) = wrap64 (-(s_.size : Int)) := (fun s_ h_ => by unfold wrap64; omega); rw [← z_ _ (by omega)]; rfl) | (simp only [ByteArray.size_append]; rfl)) ?_
              with_reducible refine (dec_Made.calls kj6 t149 t157 ji6 t158 t159 t160 _ A35.out).mono ?_
              rintro e w43 ⟨rfl, hb⟩
              refine ⟨_, rfl, ?_⟩
              replace BK147 := bb_ BK147 hb
              replace BK148 := bb_ BK148 hb
              replace HB := Aside0.mk (below_step (bl_ HB).out hb)
              (try clear hb)
              (try clear hb2)
              (try clear hk)
              (try clear hi)
              refine hK.out _ _ ⟨bc_ BK147 0, bc_ BK147 1, bc_ BK147 2⟩ (fun hHeld => ?_)
              clear hK K
              refine nm_ 64 ?_
              refine one_ (i := 14) (N := none) (bm_ 15 32767) rfl rfl (one_of HT_.out (by kernel_rfl)) (by decide) (fun K hK => ?_)
              have hs44 : w43.cell? ⟨gb148, 0, none⟩ = some (.bool false) := bc_ BK148 0
              have hfs44 := blk_frozen BK148.out 0
              have hns44_0 := NB147_148.out
              have hms44_0 := NB148_147.out
              have hs45 : w43.cell? ⟨gb148, 1, none⟩ = some (.string (⟨#[]⟩ : ByteArray)) := bc_ BK148 1
              have hfs45 := blk_frozen BK148.out 1
              have hns45_0 := NB147_148.out
              have hms45_0 := NB148_147.out
              have hs46 : w43.cell? ⟨gb148, 2, none⟩ = some (.int .i64 0) := bc_ BK148 2
              have hfs46 := blk_frozen BK148.out 2
              have hns46_0 := NB147_148.out
              have hms46_0 := NB148_147.out
              refine skip_ (w1 := ?_) (by rfl) rfl ?_ ?_
              rotate_left
              · go_simp
                rfl
              refine hK.out _ _ ⟨((cell_far (p := ⟨gb148, _, none⟩) NB147_148.out _).trans (((cell_far (p := ⟨gb148, _, none⟩) NB147_148.out _).trans (((cell_far (p := ⟨gb148, _, none⟩) NB147_148.out _).trans (hHeld.1)))))), ((cell_far (p := ⟨gb148, _, none⟩) NB147_148.out _).trans (((cell_far (p := ⟨gb148, _, none⟩) NB147_148.out _).trans (((cell_far (p := ⟨gb148, _, none⟩) NB147_148.out _).trans (hHeld.2.1)))))), ((cell_far (p := ⟨gb148, _, none⟩) NB147_148.out _).trans (((cell_far (p := ⟨gb148, _, none⟩) NB147_148.out _).trans (((cell_far (p := ⟨gb148, _, none⟩) NB147_148.out _).trans (hHeld.2.2))))))⟩ (fun hHeld => ?_)
              clear hK K
              refine done_ (done_of HT_.out (by kernel_rfl)) ?_
              try go_wp2
              refine bodyPost_ret (results_cell_row rfl _ _ gb148 31 #[.bool t158, .string t159, .int .i64 t160] (0, 0) _ rfl (by (with_reducible repeat (first | refine blk_drewN ?_ _ | refine blk_drew ?_ | refine blk_alloc ?_ _)); refine blk_put (cs := #[.bool t158, .string t159, .int .i64 0]) ?_ 2 _ rfl; (with_reducible repeat (first | refine blk_drewN ?_ _ | refine blk_drew ?_ | refine blk_alloc ?_ _)); refine blk_put (cs := #[.bool t158, .string (⟨#[]⟩ : ByteArray), .int .i64 0]) ?_ 1 _ rfl; (with_reducible repeat (first | refine blk_drewN ?_ _ | refine blk_drew ?_ | refine blk_alloc ?_ _)); refine blk_put (cs := #[.bool false, .string (⟨#[]⟩ : ByteArray), .int .i64 0]) ?_ 0 _ rfl; (with_reducible repeat (first | refine blk_drewN ?_ _ | refine blk_drew ?_ | refine blk_alloc ?_ _)); exact BK148.out) Tryz.underlying31 rfl (by kernel_rfl)) rfl ?_
              exact ⟨by first | rfl | (simp [errW_none, errW_some] <;> rfl) | (simp only [← hji5, ← hji6, ← hji26]; first | rfl | (simp [errW_none, errW_some] <;> rfl)) | (simp [*, errW_none, errW_some] <;> first | rfl | exact given_isEmpty _ | exact (given_isEmpty _).symm), by repeat (first | (with_reducible first | exact HB.out | apply below_alloc | apply pw_below_drewN | apply below_drew1 | refine below_set ?_ GE147.out | refine below_set ?_ GE148.out) | exact HB.out)⟩
            · rw [if_neg c28] at H
              exact absurd H (by simp)
          · rw [if_neg c27] at H
            exact absurd H (by simp)
        · rw [if_neg c25] at H
          exact absurd H (by simp)

/-! ### dec_Dec_Zero: function 13 -/
def dec_Dec_Zero.f (k : Nat) (a0_0 : Bool) (a0_1 : ByteArray) (a0_2 : Int) : Option (Bool) := (num_Trim.f k a0_1).bind fun t162 => (some (t162.toList == ([] : List UInt8)))
theorem dec_Dec_Zero.mono : ∀ a0 a1 a2 k, LeO (dec_Dec_Zero.f k a0 a1 a2) (dec_Dec_Zero.f (k + 1) a0 a1 a2) := by
  intro a0 a1 a2 k
  unfold dec_Dec_Zero.f
  repeat' first
      | (with_reducible exact num_Trim.mono _ _)
      | (with_reducible exact LeO.refl _)
      | (with_reducible exact LeO.none _)
      | (with_reducible refine LeO.ite ?_ ?_)
      | (with_reducible refine LeO.bind ?_ (fun _ => ?_))
      | exact num_Trim.mono _ _
      | exact LeO.none _
      | refine LeO.ite ?_ ?_
      | refine LeO.bind ?_ (fun _ => ?_)
set_option maxHeartbeats 8000000 in
set_option maxRecDepth 100000 in
theorem dec_Dec_Zero.calls (k : Nat) (a0_0 : Bool) (a0_1 : ByteArray) (a0_2 : Int) (r : Bool) (w : World) (h : dec_Dec_Zero.f k a0_0 a0_1 a0_2 = some r) :
    Calls Tryz.prog 13 #[.agg #[.bool a0_0, .string a0_1, .int .i64 a0_2]] w fun e w' => e = .returned (.bool r) ∧ Below w.heap.size w w' := by
  have hu31 := Tryz.underlying31
  have HB := Aside0.mk (Below.refl w.heap.size w)
  have H : ((num_Trim.f k a0_1).bind fun t162 => (some (t162.toList == ([] : List UInt8)))) = some r := h
  clear h
  replace H := Option.bind_eq_some_iff.mp H
  obtain ⟨t162, A20, H⟩ := H
  replace H : (some (t162.toList == ([] : List UInt8))) = some r := H
  have A2 := Aside0.mk A20
  clear A20
  obtain rfl := Option.some.inj H
  go_enter Tryz.func13, Tryz.ntmps13
  go_wp2_with (first | ((with_reducible refine gate_dst (N := 1) rfl ?_); refine be_ 1 #[.bool a0_0, .string a0_1, .int .i64 a0_2] 31 ?_; intro gb161 hg w3 hbox hb; have BK161 := Aside0.mk (hbox); have GW161 := sz_ HB hg; have GE161 := sz_ HB hg; replace HB := Aside0.mk (below_step (bl_ HB).out hb); clear hb hbox hg; obtain ⟨hcz4_0, hcz4_1, hcz4_2, hfz4_0, hfz4_1, hfz4_2⟩ := bo3_ BK161) | ((with_reducible refine gate_callee (f := 30) rfl ?_); refine gl_ (some 5) Tryz.func30 #[.string a0_1] ?_; (with_reducible refine (num_Trim.calls k a0_1 t162 _ A2.out).mono ?_); rintro e w' ⟨rfl, ⟨nd, rfl⟩⟩; refine ⟨_, rfl, ?_⟩))
  go_ret
  exact ⟨ew_, (bl_ HB).out⟩

/-! ### dec_Dec_Mag: function 37 -/
def dec_Dec_Mag.f (k : Nat) (a0_0 : Bool) (a0_1 : ByteArray) (a0_2 : Int) : Option (Int × Bool) := (dec_Dec_Norm.f k a0_0 a0_1 a0_2).bind fun bt164 => ((dec_Dec_Zero.f k bt164.1 bt164.2.1 bt164.2.2).bind fun t167 => (if t167 = true then (some (0, false)) else (some (wrap64 ((wrap64 (bt164.2.2 + (bt164.2.1.size : Int))) - 1), true))))
theorem dec_Dec_Mag.mono : ∀ a0 a1 a2 k, LeO (dec_Dec_Mag.f k a0 a1 a2) (dec_Dec_Mag.f (k + 1) a0 a1 a2) := by
  intro a0 a1 a2 k
  unfold dec_Dec_Mag.f
  repeat' first
      | (with_reducible exact dec_Dec_Norm.mono _ _ _ _)
      | (with_reducible exact dec_Dec_Zero.mono _ _ _ _)
      | (with_reducible exact LeO.refl _)
      | (with_reducible exact LeO.none _)
      | (with_reducible refine LeO.ite ?_ ?_)
      | (with_reducible refine LeO.bind ?_ (fun _ => ?_))
      | exact dec_Dec_Norm.mono _ _ _ _
      | exact dec_Dec_Zero.mono _ _ _ _
      | exact LeO.none _
      | refine LeO.ite ?_ ?_
      | refine LeO.bind ?_ (fun _ => ?_)
set_option maxHeartbeats 8000000 in
set_option maxRecDepth 100000 in
theorem dec_Dec_Mag.calls (k : Nat) (a0_0 : Bool) (a0_1 : ByteArray) (a0_2 : Int) (r1 : Int) (r2 : Bool) (w : World) (h : dec_Dec_Mag.f k a0_0 a0_1 a0_2 = some (r1, r2)) :
    Calls Tryz.prog 37 #[.agg #[.bool a0_0, .string a0_1, .int .i64 a0_2]] w fun e w' => e = .returned (.tuple #[.int .i64 r1, .bool r2]) ∧ Below w.heap.size w w' := by
  have hu31 := Tryz.underlying31
  have HB := Aside0.mk (Below.refl w.heap.size w)
  have H : ((dec_Dec_Norm.f k a0_0 a0_1 a0_2).bind fun bt164 => ((dec_Dec_Zero.f k bt164.1 bt164.2.1 bt164.2.2).bind fun t167 => (if t167 = true then (some (0, false)) else (some (wrap64 ((wrap64 (bt164.2.2 + (bt164.2.1.size : Int))) - 1), true))))) = some (r1, r2) := h
  clear h
  replace H := Option.bind_eq_some_iff.mp H
  obtain ⟨⟨t164, t165, t166⟩, A20, H⟩ := H
  replace H : ((dec_Dec_Zero.f k t164 t165 t166).bind fun t167 => (if t167 = true then (some (0, false)) else (some (wrap64 ((wrap64 (t166 + (t165.size : Int))) - 1), true)))) = some (r1, r2) := H
  have A2 := Aside0.mk A20
  clear A20
  replace H := Option.bind_eq_some_iff.mp H
  obtain ⟨t167, A30, H⟩ := H
  replace H : (if t167 = true then (some (0, false)) else (some (wrap64 ((wrap64 (t166 + (t165.size : Int))) - 1), true))) = some (r1, r2) := H
  have A3 := Aside0.mk A30
  clear A30
  by_cases c4 : t167 = true
  · subst c4
    have H1 : (some (0, false)) = some (r1, r2) := by rw [if_pos rfl] at H; exact H
    clear H
    have H := H1
    clear H1
    simp only [Option.some.injEq, Prod.mk.injEq] at H
    obtain ⟨rfl, rfl⟩ := H
    go_enter Tryz.func37, Tryz.ntmps37
    go_wp2_with (first | ((with_reducible refine gate_dst (N := 1) rfl ?_); refine be_ 1 #[.bool a0_0, .string a0_1, .int .i64 a0_2] 31 ?_; intro gb163 hg w5 hbox hb; have BK163 := Aside0.mk (hbox); have GW163 := sz_ HB hg; have GE163 := sz_ HB hg; replace HB := Aside0.mk (below_step (bl_ HB).out hb); clear hb hbox hg; obtain ⟨hcz6_0, hcz6_1, hcz6_2, hfz6_0, hfz6_1, hfz6_2⟩ := bo3_ BK163) | ((with_reducible refine gate_callee (f := 8) rfl ?_); refine gl_ (some 5) Tryz.func8 #[.agg #[.bool a0_0, .string a0_1, .int .i64 a0_2]] ?_; (with_reducible refine (dec_Dec_Norm.calls k a0_0 a0_1 a0_2 t164 t165 t166 _ A2.out).mono ?_); rintro e w7 ⟨rfl, hb⟩; refine ⟨_, rfl, ?_⟩; replace BK163 := bb_ BK163 hb; replace HB := Aside0.mk (below_step (bl_ HB).out hb); (try clear hb); (try clear hb2); (try clear hk); (try clear hi); obtain ⟨hcz8_0, hcz8_1, hcz8_2, hfz8_0, hfz8_1, hfz8_2⟩ := bo3_ BK163) | ((with_reducible refine gate_callee (f := 13) rfl ?_); refine gl_ (some 7) Tryz.func13 #[.agg #[.bool t164, .string t165, .int .i64 t166]] ?_; (with_reducible refine (dec_Dec_Zero.calls k t164 t165 t166 true _ A3.out).mono ?_); rintro e w9 ⟨rfl, hb⟩; refine ⟨_, rfl, ?_⟩; have n0_ := Aside0.mk (blk_below (g := gb163) (o := .cells #[.bool t164, .string t165, .int .i64 t166] 31 (0, 0)) (by (with_reducible repeat (first | refine blk_drewN ?_ _ | refine blk_drew ?_ | refine blk_alloc ?_ _)); refine blk_put (cs := #[.bool t164, .string t165, .int .i64 a0_2]) ?_ 2 _ rfl; (with_reducible repeat (first | refine blk_drewN ?_ _ | refine blk_drew ?_ | refine blk_alloc ?_ _)); refine blk_put (cs := #[.bool t164, .string a0_1, .int .i64 a0_2]) ?_ 1 _ rfl; (with_reducible repeat (first | refine blk_drewN ?_ _ | refine blk_drew ?_ | refine blk_alloc ?_ _)); refine blk_put (cs := #[.bool a0_0, .string a0_1, .int .i64 a0_2]) ?_ 0 _ rfl; (with_reducible repeat (first | refine blk_drewN ?_ _ | refine blk_drew ?_ | refine blk_alloc ?_ _)); exact BK163.out) hb); have n1_ := Aside0.mk (below_step (bl_ HB).out hb); clear BK163; clear HB; have BK163 := n0_; have HB := n1_; clear n0_ n1_; (try clear hb); (try clear hb2); (try clear hk); (try clear hi)))
    go_ret2
    exact ⟨ew_, (bl_ HB).out⟩
  · replace c4 := Bool.eq_false_iff.mpr c4
    subst c4
    have H1 : (some (wrap64 ((wrap64 (t166 + (t165.size : Int))) - 1), true)) = some (r1, r2) := by rw [if_neg (show ¬ (false = true) by decide)] at H; exact H
    clear H
    have H := H1
    clear H1
    simp only [Option.some.injEq, Prod.mk.injEq] at H
    obtain ⟨rfl, rfl⟩ := H
    go_enter Tryz.func37, Tryz.ntmps37
    go_wp2_with (first | ((with_reducible refine gate_dst (N := 1) rfl ?_); refine be_ 1 #[.bool a0_0, .string a0_1, .int .i64 a0_2] 31 ?_; intro gb163 hg w10 hbox hb; have BK163 := Aside0.mk (hbox); have GW163 := sz_ HB hg; have GE163 := sz_ HB hg; replace HB := Aside0.mk (below_step (bl_ HB).out hb); clear hb hbox hg; obtain ⟨hcz11_0, hcz11_1, hcz11_2, hfz11_0, hfz11_1, hfz11_2⟩ := bo3_ BK163) | ((with_reducible refine gate_callee (f := 8) rfl ?_); refine gl_ (some 5) Tryz.func8 #[.agg #[.bool a0_0, .string a0_1, .int .i64 a0_2]] ?_; (with_reducible refine (dec_Dec_Norm.calls k a0_0 a0_1 a0_2 t164 t165 t166 _ A2.out).mono ?_); rintro e w12 ⟨rfl, hb⟩; refine ⟨_, rfl, ?_⟩; replace BK163 := bb_ BK163 hb; replace HB := Aside0.mk (below_step (bl_ HB).out hb); (try clear hb); (try clear hb2); (try clear hk); (try clear hi); obtain ⟨hcz13_0, hcz13_1, hcz13_2, hfz13_0, hfz13_1, hfz13_2⟩ := bo3_ BK163) | ((with_reducible refine gate_callee (f := 13) rfl ?_); refine gl_ (some 7) Tryz.func13 #[.agg #[.bool t164, .string t165, .int .i64 t166]] ?_; (with_reducible refine (dec_Dec_Zero.calls k t164 t165 t166 false _ A3.out).mono ?_); rintro e w14 ⟨rfl, hb⟩; refine ⟨_, rfl, ?_⟩; have n0_ := Aside0.mk (blk_below (g := gb163) (o := .cells #[.bool t164, .string t165, .int .i64 t166] 31 (0, 0)) (by (with_reducible repeat (first | refine blk_drewN ?_ _ | refine blk_drew ?_ | refine blk_alloc ?_ _)); refine blk_put (cs := #[.bool t164, .string t165, .int .i64 a0_2]) ?_ 2 _ rfl; (with_reducible repeat (first | refine blk_drewN ?_ _ | refine blk_drew ?_ | refine blk_alloc ?_ _)); refine blk_put (cs := #[.bool t164, .string a0_1, .int .i64 a0_2]) ?_ 1 _ rfl; (with_reducible repeat (first | refine blk_drewN ?_ _ | refine blk_drew ?_ | refine blk_alloc ?_ _)); refine blk_put (cs := #[.bool a0_0, .string a0_1, .int .i64 a0_2]) ?_ 0 _ rfl; (with_reducible repeat (first | refine blk_drewN ?_ _ | refine blk_drew ?_ | refine blk_alloc ?_ _)); exact BK163.out) hb); have n1_ := Aside0.mk (below_step (bl_ HB).out hb); clear BK163; clear HB; have BK163 := n0_; have HB := n1_; clear n0_ n1_; (try clear hb); (try clear hb2); (try clear hk); (try clear hi); obtain ⟨hcz15_0, hcz15_1, hcz15_2, hfz15_0, hfz15_1, hfz15_2⟩ := bo3_ BK163))
    go_ret2
    exact ⟨ew_, (bl_ HB).out⟩

/-! ### round_Sig: function 28 -/
def round_Sig.f (k : Nat) (a0_0 : Bool) (a0_1 : ByteArray) (a0_2 : Int) (a1 : Int) (a2 : Int) : Option (Bool × ByteArray × Int) := (dec_Dec_Mag.f k a0_0 a0_1 a0_2).bind fun bt170 => (if bt170.2 = true then ((round_At.f k a0_0 a0_1 a0_2 (wrap64 ((wrap64 (bt170.1 + 1)) - (mn (mx a1 1) 30000))) a2).bind fun bt172 => (some (bt172.1, bt172.2.1, bt172.2.2))) else (some (false, (⟨#[]⟩ : ByteArray), 0)))
theorem round_Sig.mono : ∀ a0 a1 a2 a3 a4 k, LeO (round_Sig.f k a0 a1 a2 a3 a4) (round_Sig.f (k + 1) a0 a1 a2 a3 a4) := by
  intro a0 a1 a2 a3 a4 k
  unfold round_Sig.f
  repeat' first
      | (with_reducible exact dec_Dec_Mag.mono _ _ _ _)
      | (with_reducible exact round_At.mono _ _ _ _ _ _)
      | (with_reducible exact LeO.refl _)
      | (with_reducible exact LeO.none _)
      | (with_reducible refine LeO.ite ?_ ?_)
      | (with_reducible refine LeO.bind ?_ (fun _ => ?_))
      | exact dec_Dec_Mag.mono _ _ _ _
      | exact round_At.mono _ _ _ _ _ _
      | exact LeO.none _
      | refine LeO.ite ?_ ?_
      | refine LeO.bind ?_ (fun _ => ?_)
set_option maxHeartbeats 8000000 in
set_option maxRecDepth 100000 in
theorem round_Sig.calls (k : Nat) (a0_0 : Bool) (a0_1 : ByteArray) (a0_2 : Int) (a1 : Int) (a2 : Int) (r1 : Bool) (r2 : ByteArray) (r3 : Int) (w : World) (h : round_Sig.f k a0_0 a0_1 a0_2 a1 a2 = some (r1, r2, r3)) :
    Calls Tryz.prog 28 #[.agg #[.bool a0_0, .string a0_1, .int .i64 a0_2], .int .i64 a1, .int .i64 a2] w fun e w' => e = .returned (.agg #[.bool r1, .string r2, .int .i64 r3]) ∧ Below w.heap.size w w' := by
  have hu31 := Tryz.underlying31
  have HB := Aside0.mk (Below.refl w.heap.size w)
  have H : ((dec_Dec_Mag.f k a0_0 a0_1 a0_2).bind fun bt170 => (if bt170.2 = true then ((round_At.f k a0_0 a0_1 a0_2 (wrap64 ((wrap64 (bt170.1 + 1)) - (mn (mx a1 1) 30000))) a2).bind fun bt172 => (some (bt172.1, bt172.2.1, bt172.2.2))) else (some (false, (⟨#[]⟩ : ByteArray), 0)))) = some (r1, r2, r3) := h
  clear h
  replace H := Option.bind_eq_some_iff.mp H
  obtain ⟨⟨t170, t171⟩, A40, H⟩ := H
  replace H : (if t171 = true then ((round_At.f k a0_0 a0_1 a0_2 (wrap64 ((wrap64 (t170 + 1)) - (mn (mx a1 1) 30000))) a2).bind fun bt172 => (some (bt172.1, bt172.2.1, bt172.2.2))) else (some (false, (⟨#[]⟩ : ByteArray), 0))) = some (r1, r2, r3) := H
  have A4 := Aside0.mk A40
  clear A40
  by_cases c5 : t171 = true
  · subst c5
    have H1 : ((round_At.f k a0_0 a0_1 a0_2 (wrap64 ((wrap64 (t170 + 1)) - (mn (mx a1 1) 30000))) a2).bind fun bt172 => (some (bt172.1, bt172.2.1, bt172.2.2))) = some (r1, r2, r3) := by rw [if_pos rfl] at H; exact H
    clear H
    have H := H1
    clear H1
    obtain ⟨ji6, hji6⟩ : ∃ j_ : Int, (mx a1 1) = j_ := ⟨_, rfl⟩
    replace H : ((round_At.f k a0_0 a0_1 a0_2 (wrap64 ((wrap64 (t170 + 1)) - (mn (ji6) 30000))) a2).bind fun bt172 => (some (bt172.1, bt172.2.1, bt172.2.2))) = some (r1, r2, r3) := by first | (rw [hji6] at H; exact H) | (simp only [hji6] at H ⊢; exact H)
    (try rw [hji6] at A4)
    (try (have hji6l : 1 ≤ ji6 := by (rw [← hji6]; unfold mx; (repeat' split) <;> omega)))
    (try (have hji6m : 0 ≤ ji6 := by omega))
    have hji6_ : (if a1 < 1 then 1 else a1) = ji6 := hji6
    obtain ⟨ji7, hji7⟩ : ∃ j_ : Int, (mn (ji6) 30000) = j_ := ⟨_, rfl⟩
    replace H : ((round_At.f k a0_0 a0_1 a0_2 (wrap64 ((wrap64 (t170 + 1)) - (ji7))) a2).bind fun bt172 => (some (bt172.1, bt172.2.1, bt172.2.2))) = some (r1, r2, r3) := by first | (rw [hji7] at H; exact H) | (simp only [hji7] at H ⊢; exact H)
    (try rw [hji7] at A4)
    have hji7_ : (if 30000 < (ji6) then 30000 else (ji6)) = ji7 := hji7
    replace H := Option.bind_eq_some_iff.mp H
    obtain ⟨⟨t172, t173, t174⟩, A80, H⟩ := H
    replace H : (some (t172, t173, t174)) = some (r1, r2, r3) := H
    have A8 := Aside0.mk A80
    clear A80
    simp only [Option.some.injEq, Prod.mk.injEq] at H
    obtain ⟨rfl, rfl, rfl⟩ := H
    go_enter Tryz.func28, Tryz.ntmps28
    go_wp2_with (first | ((with_reducible refine gate_dst (N := 3) rfl ?_); refine be_ 3 #[.bool a0_0, .string a0_1, .int .i64 a0_2] 31 ?_; intro gb168 hg w9 hbox hb; have BK168 := Aside0.mk (hbox); have GW168 := sz_ HB hg; have GE168 := sz_ HB hg; replace HB := Aside0.mk (below_step (bl_ HB).out hb); clear hb hbox hg) | ((with_reducible refine gate_dst (N := 6) rfl ?_); refine be_ 6 #[.bool false, .string (⟨#[]⟩ : ByteArray), .int .i64 0] 31 ?_; intro gb169 hg w10 hbox hb; have BK169 := Aside0.mk (hbox); have GW169 := sz_ HB hg; have GE169 := sz_ HB hg; have NB168_169 := na_ BK168 hg; have NB169_168 := nb_ BK168 hg; replace BK168 := bb_ BK168 hb; replace HB := Aside0.mk (below_step (bl_ HB).out hb); clear hb hbox hg; have hnb11 := NB168_169.out; have hnc11 := NB169_168.out; obtain ⟨hcz12_0, hcz12_1, hcz12_2, hfz12_0, hfz12_1, hfz12_2⟩ := bo3_ BK168) | ((with_reducible refine gate_callee (f := 37) rfl ?_); refine gl_ (some 11) Tryz.func37 #[.agg #[.bool a0_0, .string a0_1, .int .i64 a0_2]] ?_; (with_reducible refine (dec_Dec_Mag.calls k a0_0 a0_1 a0_2 t170 true _ A4.out).mono ?_); rintro e w13 ⟨rfl, hb⟩; refine ⟨_, rfl, ?_⟩; replace BK168 := bb_ BK168 hb; replace BK169 := bb_ BK169 hb; replace HB := Aside0.mk (below_step (bl_ HB).out hb); (try clear hb); (try clear hb2); (try clear hk); (try clear hi); obtain ⟨hcz14_0, hcz14_1, hcz14_2, hfz14_0, hfz14_1, hfz14_2⟩ := bo3_ BK168) | ((with_reducible refine gate_callee (f := 27) rfl ?_); refine goesL_ (some 25) rfl rfl Tryz.func27 (by kernel_rfl) rfl #[.agg #[.bool a0_0, .string a0_1, .int .i64 a0_2], .int .i64 (wrap64 ((wrap64 (t170 + 1)) - (ji7))), .int .i64 a2] rfl (by (try simp only [List.map_toArray, List.map_cons, List.map_nil]); first | done | (simp only [hji7]; rfl) | rfl | (simp only [List.length_drop, List.length_take]; rfl) | (have z_ : ∀ s_ : ByteArray, s_.size ≤ 9223372036854775807 → -(s_.size : Int) = wrap64 (-(s_.size : Int)) := (fun s_ h_ => by unfold wrap64; omega); rw [← z_ _ (by omega)]; rfl) | (simp only [ByteArray.size_append]; rfl)) ?_; (with_reducible refine (round_At.calls k a0_0 a0_1 a0_2 (wrap64 ((wrap64 (t170 + 1)) - (ji7))) a2 t172 t173 t174 _ A8.out).mono ?_); rintro e w15 ⟨rfl, hb⟩; refine ⟨_, rfl, ?_⟩; replace BK168 := bb_ BK168 hb; replace BK169 := bb_ BK169 hb; replace HB := Aside0.mk (below_step (bl_ HB).out hb); (try clear hb); (try clear hb2); (try clear hk); (try clear hi); obtain ⟨hcz16_0, hcz16_1, hcz16_2, hfz16_0, hfz16_1, hfz16_2⟩ := bo3_ BK169))
    refine bodyPost_ret (results_cell_row rfl _ _ gb169 31 #[.bool t172, .string t173, .int .i64 t174] (0, 0) _ rfl (by (with_reducible repeat (first | refine blk_drewN ?_ _ | refine blk_drew ?_ | refine blk_alloc ?_ _)); refine blk_put (cs := #[.bool t172, .string t173, .int .i64 0]) ?_ 2 _ rfl; (with_reducible repeat (first | refine blk_drewN ?_ _ | refine blk_drew ?_ | refine blk_alloc ?_ _)); refine blk_put (cs := #[.bool t172, .string (⟨#[]⟩ : ByteArray), .int .i64 0]) ?_ 1 _ rfl; (with_reducible repeat (first | refine blk_drewN ?_ _ | refine blk_drew ?_ | refine blk_alloc ?_ _)); refine blk_put (cs := #[.bool false, .string (⟨#[]⟩ : ByteArray), .int .i64 0]) ?_ 0 _ rfl; (with_reducible repeat (first | refine blk_drewN ?_ _ | refine blk_drew ?_ | refine blk_alloc ?_ _)); exact BK169.out) Tryz.underlying31 rfl (by kernel_rfl)) rfl ?_
    exact ⟨by first | rfl | (simp [errW_none, errW_some] <;> rfl) | (simp only [← hji6, ← hji7]; first | rfl | (simp [errW_none, errW_some] <;> rfl)) | (simp [*, errW_none, errW_some] <;> first | rfl | exact given_isEmpty _ | exact (given_isEmpty _).symm), by repeat (first | (with_reducible first | exact HB.out | apply below_alloc | apply pw_below_drewN | apply below_drew1 | refine below_set ?_ GE168.out | refine below_set ?_ GE169.out) | exact HB.out)⟩
  · replace c5 := Bool.eq_false_iff.mpr c5
    subst c5
    have H1 : (some (false, (⟨#[]⟩ : ByteArray), 0)) = some (r1, r2, r3) := by rw [if_neg (show ¬ (false = true) by decide)] at H; exact H
    clear H
    have H := H1
    clear H1
    simp only [Option.some.injEq, Prod.mk.injEq] at H
    obtain ⟨rfl, rfl, rfl⟩ := H
    go_enter Tryz.func28, Tryz.ntmps28
    go_wp2_with (first | ((with_reducible refine gate_dst (N := 3) rfl ?_); refine be_ 3 #[.bool a0_0, .string a0_1, .int .i64 a0_2] 31 ?_; intro gb168 hg w17 hbox hb; have BK168 := Aside0.mk (hbox); have GW168 := sz_ HB hg; have GE168 := sz_ HB hg; replace HB := Aside0.mk (below_step (bl_ HB).out hb); clear hb hbox hg) | ((with_reducible refine gate_dst (N := 6) rfl ?_); refine be_ 6 #[.bool false, .string (⟨#[]⟩ : ByteArray), .int .i64 0] 31 ?_; intro gb169 hg w18 hbox hb; have BK169 := Aside0.mk (hbox); have GW169 := sz_ HB hg; have GE169 := sz_ HB hg; have NB168_169 := na_ BK168 hg; have NB169_168 := nb_ BK168 hg; replace BK168 := bb_ BK168 hb; replace HB := Aside0.mk (below_step (bl_ HB).out hb); clear hb hbox hg; have hnb19 := NB168_169.out; have hnc19 := NB169_168.out; obtain ⟨hcz20_0, hcz20_1, hcz20_2, hfz20_0, hfz20_1, hfz20_2⟩ := bo3_ BK168) | ((with_reducible refine gate_callee (f := 37) rfl ?_); refine gl_ (some 11) Tryz.func37 #[.agg #[.bool a0_0, .string a0_1, .int .i64 a0_2]] ?_; (with_reducible refine (dec_Dec_Mag.calls k a0_0 a0_1 a0_2 t170 false _ A4.out).mono ?_); rintro e w21 ⟨rfl, hb⟩; refine ⟨_, rfl, ?_⟩; replace BK168 := bb_ BK168 hb; replace BK169 := bb_ BK169 hb; replace HB := Aside0.mk (below_step (bl_ HB).out hb); (try clear hb); (try clear hb2); (try clear hk); (try clear hi); obtain ⟨hcz22_0, hcz22_1, hcz22_2, hfz22_0, hfz22_1, hfz22_2⟩ := bo3_ BK169))
    refine bodyPost_ret (results_cell_row rfl _ _ gb169 31 #[.bool false, .string (⟨#[]⟩ : ByteArray), .int .i64 0] (0, 0) _ rfl (by (with_reducible repeat (first | refine blk_drewN ?_ _ | refine blk_drew ?_ | refine blk_alloc ?_ _)); refine blk_put (cs := #[.bool false, .string (⟨#[]⟩ : ByteArray), .int .i64 0]) ?_ 2 _ rfl; (with_reducible repeat (first | refine blk_drewN ?_ _ | refine blk_drew ?_ | refine blk_alloc ?_ _)); refine blk_put (cs := #[.bool false, .string (⟨#[]⟩ : ByteArray), .int .i64 0]) ?_ 1 _ rfl; (with_reducible repeat (first | refine blk_drewN ?_ _ | refine blk_drew ?_ | refine blk_alloc ?_ _)); refine blk_put (cs := #[.bool false, .string (⟨#[]⟩ : ByteArray), .int .i64 0]) ?_ 0 _ rfl; (with_reducible repeat (first | refine blk_drewN ?_ _ | refine blk_drew ?_ | refine blk_alloc ?_ _)); exact BK169.out) Tryz.underlying31 rfl (by kernel_rfl)) rfl ?_
    exact ⟨ew_, (bl_ HB).out⟩

/-! ### dec_Dec_Parts: function 21 -/
def dec_Dec_Parts.f (k : Nat) (a0_0 : Bool) (a0_1 : ByteArray) (a0_2 : Int) : Option (ByteArray × ByteArray) := (dec_Dec_Norm.f k a0_0 a0_1 a0_2).bind fun bt176 => (if bt176.2.2 ≥ 0 then ((num_Zeros.f bt176.2.2).bind fun t179 => (if bt176.2.1.size + t179.size ≤ 9223372036854775807 then (some (bt176.2.1 ++ t179, (⟨#[]⟩ : ByteArray))) else (none))) else ((num_Zeros.f (wrap64 ((wrap64 (-bt176.2.2)) - (bt176.2.1.size : Int)))).bind fun t180 => (if t180.size + bt176.2.1.size ≤ 9223372036854775807 then (if 0 ≤ (wrap64 (((t180 ++ bt176.2.1).size : Int) + bt176.2.2)) then (if (wrap64 (((t180 ++ bt176.2.1).size : Int) + bt176.2.2)) ≤ ((t180 ++ bt176.2.1).size : Int) then ((num_Trim.f k ((t180 ++ bt176.2.1).extract 0 ((wrap64 (((t180 ++ bt176.2.1).size : Int) + bt176.2.2)) : Int).toNat)).bind fun t181 => (some (t181, (t180 ++ bt176.2.1).extract ((wrap64 (((t180 ++ bt176.2.1).size : Int) + bt176.2.2)) : Int).toNat (t180 ++ bt176.2.1).size))) else (none)) else (none)) else (none))))
theorem dec_Dec_Parts.mono : ∀ a0 a1 a2 k, LeO (dec_Dec_Parts.f k a0 a1 a2) (dec_Dec_Parts.f (k + 1) a0 a1 a2) := by
  intro a0 a1 a2 k
  unfold dec_Dec_Parts.f
  repeat' first
      | (with_reducible exact dec_Dec_Norm.mono _ _ _ _)
      | (with_reducible exact num_Trim.mono _ _)
      | (with_reducible exact LeO.refl _)
      | (with_reducible exact LeO.none _)
      | (with_reducible refine LeO.ite ?_ ?_)
      | (with_reducible refine LeO.bind ?_ (fun _ => ?_))
      | exact dec_Dec_Norm.mono _ _ _ _
      | exact num_Trim.mono _ _
      | exact LeO.none _
      | refine LeO.ite ?_ ?_
      | refine LeO.bind ?_ (fun _ => ?_)
def dec_Dec_Parts.T3 : Bool × List (List Nat × List Nat) := (true, [([], []), ([0], [0]), ([], []), ([2], [2]), ([3], [3]), ([1, 4], [1, 4]), ([5, 4, 0, 1, 2, 3, 4, 5], [5]), ([6, 0, 1, 2, 3, 4, 5, 6], [])])
def dec_Dec_Parts.B3 : List Nat := [0, 1, 0, 4, 12, 31, 63, 127]
theorem dec_Dec_Parts.tab3 : rtab .any (opsOf Tryz.f21 3) = dec_Dec_Parts.T3 := by kernel_rfl
theorem dec_Dec_Parts.bits3 : waitsOk dec_Dec_Parts.T3.2 dec_Dec_Parts.B3 = true := by kernel_rfl
def dec_Dec_Parts.T4 : Bool × List (List Nat × List Nat) := (true, [([], []), ([0], [0]), ([1], [1]), ([], []), ([3], [3]), ([4], [4]), ([2, 5], [2, 5]), ([6], [6]), ([], []), ([8], [8]), ([7, 9], [7, 9]), ([10, 7, 0, 1, 2, 3, 4, 5, 6, 7, 8, 9, 10], [10])])
def dec_Dec_Parts.B4 : List Nat := [0, 1, 3, 0, 8, 24, 63, 127, 0, 256, 1023, 2047]
theorem dec_Dec_Parts.tab4 : rtab .any (opsOf Tryz.f21 4) = dec_Dec_Parts.T4 := by kernel_rfl
theorem dec_Dec_Parts.bits4 : waitsOk dec_Dec_Parts.T4.2 dec_Dec_Parts.B4 = true := by kernel_rfl
def dec_Dec_Parts.T6 : Bool × List (List Nat × List Nat) := (true, [([], []), ([], []), ([0, 1], [0, 1]), ([2], [2]), ([], []), ([], []), ([4, 5], [4, 5]), ([3, 3, 0, 1, 2, 3], [3]), ([6, 7, 0, 1, 2, 3, 4, 5, 6, 7], [6])])
def dec_Dec_Parts.B6 : List Nat := [0, 0, 3, 7, 0, 0, 48, 15, 255]
theorem dec_Dec_Parts.tab6 : rtab .any (opsOf Tryz.f21 6) = dec_Dec_Parts.T6 := by kernel_rfl
theorem dec_Dec_Parts.bits6 : waitsOk dec_Dec_Parts.T6.2 dec_Dec_Parts.B6 = true := by kernel_rfl
set_option maxHeartbeats 8000000 in
set_option maxRecDepth 100000 in
theorem dec_Dec_Parts.calls (k : Nat) (a0_0 : Bool) (a0_1 : ByteArray) (a0_2 : Int) (r1 : ByteArray) (r2 : ByteArray) (w : World) (h : dec_Dec_Parts.f k a0_0 a0_1 a0_2 = some (r1, r2)) :
    Calls Tryz.prog 21 #[.agg #[.bool a0_0, .string a0_1, .int .i64 a0_2]] w fun e w' => e = .returned (.tuple #[.string r1, .string r2]) ∧ Below w.heap.size w w' := by
  have hu31 := Tryz.underlying31
  have HB := Aside0.mk (Below.refl w.heap.size w)
  have H : ((dec_Dec_Norm.f k a0_0 a0_1 a0_2).bind fun bt176 => (if bt176.2.2 ≥ 0 then ((num_Zeros.f bt176.2.2).bind fun t179 => (if bt176.2.1.size + t179.size ≤ 9223372036854775807 then (some (bt176.2.1 ++ t179, (⟨#[]⟩ : ByteArray))) else (none))) else ((num_Zeros.f (wrap64 ((wrap64 (-bt176.2.2)) - (bt176.2.1.size : Int)))).bind fun t180 => (if t180.size + bt176.2.1.size ≤ 9223372036854775807 then (if 0 ≤ (wrap64 (((t180 ++ bt176.2.1).size : Int) + bt176.2.2)) then (if (wrap64 (((t180 ++ bt176.2.1).size : Int) + bt176.2.2)) ≤ ((t180 ++ bt176.2.1).size : Int) then ((num_Trim.f k ((t180 ++ bt176.2.1).extract 0 ((wrap64 (((t180 ++ bt176.2.1).size : Int) + bt176.2.2)) : Int).toNat)).bind fun t181 => (some (t181, (t180 ++ bt176.2.1).extract ((wrap64 (((t180 ++ bt176.2.1).size : Int) + bt176.2.2)) : Int).toNat (t180 ++ bt176.2.1).size))) else (none)) else (none)) else (none))))) = some (r1, r2) := h
  clear h
  replace H := Option.bind_eq_some_iff.mp H
  obtain ⟨⟨t176, t177, t178⟩, A20, H⟩ := H
  replace H : (if t178 ≥ 0 then ((num_Zeros.f t178).bind fun t179 => (if t177.size + t179.size ≤ 9223372036854775807 then (some (t177 ++ t179, (⟨#[]⟩ : ByteArray))) else (none))) else ((num_Zeros.f (wrap64 ((wrap64 (-t178)) - (t177.size : Int)))).bind fun t180 => (if t180.size + t177.size ≤ 9223372036854775807 then (if 0 ≤ (wrap64 (((t180 ++ t177).size : Int) + t178)) then (if (wrap64 (((t180 ++ t177).size : Int) + t178)) ≤ ((t180 ++ t177).size : Int) then ((num_Trim.f k ((t180 ++ t177).extract 0 ((wrap64 (((t180 ++ t177).size : Int) + t178)) : Int).toNat)).bind fun t181 => (some (t181, (t180 ++ t177).extract ((wrap64 (((t180 ++ t177).size : Int) + t178)) : Int).toNat (t180 ++ t177).size))) else (none)) else (none)) else (none)))) = some (r1, r2) := H
  have A2 := Aside0.mk A20
  clear A20
  by_cases c3 : t178 ≥ 0
  · rw [if_pos c3] at H
    have c3b0 : decide (0 ≤ t178) = true := decide_eq_true c3
    clear c3
    replace H := Option.bind_eq_some_iff.mp H
    obtain ⟨t179, A40, H⟩ := H
    replace H : (if t177.size + t179.size ≤ 9223372036854775807 then (some (t177 ++ t179, (⟨#[]⟩ : ByteArray))) else (none)) = some (r1, r2) := H
    have A4 := Aside0.mk A40
    clear A40
    by_cases c5 : t177.size + t179.size ≤ 9223372036854775807
    · rw [if_pos c5] at H
      have c5b0 := eq_true c5
      have c5b1 : decide (t177.size + t179.size ≤ 9223372036854775807) = true := decide_eq_true c5
      try have c5b2 : (9223372036854775807 < t177.size + t179.size) = False := eq_false (Nat.not_lt.2 c5)
      simp only [Option.some.injEq, Prod.mk.injEq] at H
      obtain ⟨rfl, rfl⟩ := H
      go_enter Tryz.func21, Tryz.ntmps21
      try go_wp2_with (first | ((with_reducible refine gate_dst (N := 1) rfl ?_); refine be_ 1 #[.bool a0_0, .string a0_1, .int .i64 a0_2] 31 ?_; intro gb175 hg w6 hbox hb; have BK175 := Aside0.mk (hbox); have GW175 := sz_ HB hg; have GE175 := sz_ HB hg; replace HB := Aside0.mk (below_step (bl_ HB).out hb); clear hb hbox hg; obtain ⟨hcz7_0, hcz7_1, hcz7_2, hfz7_0, hfz7_1, hfz7_2⟩ := bo3_ BK175) | ((with_reducible refine gate_callee (f := 8) rfl ?_); refine gl_ (some 7) Tryz.func8 #[.agg #[.bool a0_0, .string a0_1, .int .i64 a0_2]] ?_; (with_reducible refine (dec_Dec_Norm.calls k a0_0 a0_1 a0_2 t176 t177 t178 _ A2.out).mono ?_); rintro e w8 ⟨rfl, hb⟩; refine ⟨_, rfl, ?_⟩; replace BK175 := bb_ BK175 hb; replace HB := Aside0.mk (below_step (bl_ HB).out hb); (try clear hb); (try clear hb2); (try clear hk); (try clear hi); obtain ⟨hcz9_0, hcz9_1, hcz9_2, hfz9_0, hfz9_1, hfz9_2⟩ := bo3_ BK175))
      have n0_ : Aside0 ((((w8.setCell ⟨gb175, 0, none⟩ (.bool t176)).setCell ⟨gb175, 1, none⟩ (.string t177)).setCell ⟨gb175, 2, none⟩ (.int .i64 t178)).heap[gb175]? = some (.cells #[.bool t176, .string t177, .int .i64 t178] 31 (0, 0))) := ⟨by (with_reducible repeat (first | refine blk_drewN ?_ _ | refine blk_drew ?_ | refine blk_alloc ?_ _)); refine blk_put (cs := #[.bool t176, .string t177, .int .i64 a0_2]) ?_ 2 _ rfl; (with_reducible repeat (first | refine blk_drewN ?_ _ | refine blk_drew ?_ | refine blk_alloc ?_ _)); refine blk_put (cs := #[.bool t176, .string a0_1, .int .i64 a0_2]) ?_ 1 _ rfl; (with_reducible repeat (first | refine blk_drewN ?_ _ | refine blk_drew ?_ | refine blk_alloc ?_ _)); refine blk_put (cs := #[.bool a0_0, .string a0_1, .int .i64 a0_2]) ?_ 0 _ rfl; (with_reducible repeat (first | refine blk_drewN ?_ _ | refine blk_drew ?_ | refine blk_alloc ?_ _)); exact BK175.out⟩
      have n1_ : Aside0 (Below w.heap.size w (((w8.setCell ⟨gb175, 0, none⟩ (.bool t176)).setCell ⟨gb175, 1, none⟩ (.string t177)).setCell ⟨gb175, 2, none⟩ (.int .i64 t178))) := (bl_ HB)
      (try clear BK175)
      (try clear HB)
      generalize (((w8.setCell ⟨gb175, 0, none⟩ (.bool t176)).setCell ⟨gb175, 1, none⟩ (.string t177)).setCell ⟨gb175, 2, none⟩ (.int .i64 t178)) = w10 at n0_ n1_ ⊢
      have BK175 := n0_
      have HB := n1_
      clear n0_ n1_
      replace BK175 := Aside0.mk (blk_drew BK175.out)
      replace HB := Aside0.mk (below_drew1 HB.out)
      refine start_ (n := 8) (S := fun w' => w'.cell? ⟨gb175, 0, none⟩ = some (.bool t176) ∧ w'.cell? ⟨gb175, 1, none⟩ = some (.string t177) ∧ w'.cell? ⟨gb175, 2, none⟩ = some (.int .i64 t178)) (ds := []) #[false, false, false, false, false, false, false, false] (by kernel_rfl) rfl rfl ⟨bc_ BK175 0, bc_ BK175 1, bc_ BK175 2⟩ (fun hHeld => ?_); refine with_tabW dec_Dec_Parts.tab3 dec_Dec_Parts.bits3 (fun HT_ HW_ => ?_)
      generalize w10.drew = w11 at BK175 HB hHeld ⊢
      refine pu_ 0 11 #[true, false, false, false, false, false, false, false] HT_ ?_
      refine pu_ 2 13 #[true, false, true, false, false, false, false, false] HT_ ?_
      refine tk_ 1 12 #[true, true, true, false, false, false, false, false] HT_ HW_ hHeld rfl (by rintro w' ⟨s0, s1, s2⟩; go_simp; with_reducible rfl) ?_
      refine tk_ 3 14 #[true, true, true, true, false, false, false, false] HT_ HW_ hHeld rfl (by rintro w' ⟨s0, s1, s2⟩; go_simp; with_reducible rfl) ?_
      refine one_ (i := 4) (N := some 15) #[true, true, true, true, true, false, false, false] rfl rfl (one_of HT_.out (by kernel_rfl)) (by decide) (fun K hK => ?_)
      refine gs_ Tryz.func24 #[.int .i64 t178] ?_
      with_reducible refine (num_Zeros.calls t178 t179 _ A4.out).mono ?_
      rintro e w12 ⟨rfl, hb⟩
      refine ⟨_, rfl, ?_⟩
      replace BK175 := bb_ BK175 hb
      replace HB := Aside0.mk (below_step (bl_ HB).out hb)
      (try clear hb)
      (try clear hb2)
      (try clear hk)
      (try clear hi)
      refine hK.out _ _ ⟨bc_ BK175 0, bc_ BK175 1, bc_ BK175 2⟩ (fun hHeld => ?_)
      clear hK K
      refine nm_ 15 ?_
      refine pu_ 5 16 #[true, true, true, true, true, true, false, false] HT_ ?_
      refine pu_ 6 2 #[true, true, true, true, true, true, true, false] HT_ ?_
      refine pu_ 7 3 #[true, true, true, true, true, true, true, true] HT_ ?_
      refine done_ (done_of HT_.out (by kernel_rfl)) ?_
      try go_wp2
      go_ret2
      exact ⟨ew_, (bl_ HB).out⟩
    · rw [if_neg c5] at H
      exact absurd H (by simp)
  · rw [if_neg c3] at H
    have c3b0 : decide (0 ≤ t178) = false := decide_eq_false c3
    clear c3
    replace H := Option.bind_eq_some_iff.mp H
    obtain ⟨t180, A130, H⟩ := H
    replace H : (if t180.size + t177.size ≤ 9223372036854775807 then (if 0 ≤ (wrap64 (((t180 ++ t177).size : Int) + t178)) then (if (wrap64 (((t180 ++ t177).size : Int) + t178)) ≤ ((t180 ++ t177).size : Int) then ((num_Trim.f k ((t180 ++ t177).extract 0 ((wrap64 (((t180 ++ t177).size : Int) + t178)) : Int).toNat)).bind fun t181 => (some (t181, (t180 ++ t177).extract ((wrap64 (((t180 ++ t177).size : Int) + t178)) : Int).toNat (t180 ++ t177).size))) else (none)) else (none)) else (none)) = some (r1, r2) := H
    have A13 := Aside0.mk A130
    clear A130
    by_cases c14 : t180.size + t177.size ≤ 9223372036854775807
    · rw [if_pos c14] at H
      have c14b0 := eq_true c14
      have c14b1 : decide (t180.size + t177.size ≤ 9223372036854775807) = true := decide_eq_true c14
      try have c14b2 : (9223372036854775807 < t180.size + t177.size) = False := eq_false (Nat.not_lt.2 c14)
      obtain ⟨ji15, hji15⟩ : ∃ j_ : Int, (wrap64 (((t180 ++ t177).size : Int) + t178)) = j_ := ⟨_, rfl⟩
      replace H : (if 0 ≤ (ji15) then (if (ji15) ≤ ((t180 ++ t177).size : Int) then ((num_Trim.f k ((t180 ++ t177).extract 0 ((ji15) : Int).toNat)).bind fun t181 => (some (t181, (t180 ++ t177).extract ((ji15) : Int).toNat (t180 ++ t177).size))) else (none)) else (none)) = some (r1, r2) := by first | (rw [hji15] at H; exact H) | (simp only [hji15] at H ⊢; exact H)
      (try rw [hji15] at A2)
      (try rw [hji15] at A13)
      have hji15w : (IntKind.i64.wrap (((t180 ++ t177).size : Int) + t178)) = ji15 := (i64_w _).trans hji15
      try (have hji15s := hji15; simp only [ByteArray.size_append, Int.natCast_add] at hji15s)
      try (have hji15s := hji15; simp only [ByteArray.size_append, Int.natCast_add] at hji15s)
      by_cases c16 : 0 ≤ (ji15)
      · rw [if_pos c16] at H
        have c16b0 := eq_true c16
        have c16b1 : decide (0 ≤ (ji15)) = true := decide_eq_true c16
        clear c16
        by_cases c17 : (ji15) ≤ ((t180 ++ t177).size : Int)
        · rw [if_pos c17] at H
          have c17b0 := eq_true c17
          have c17b1 : decide ((ji15) ≤ ((t180 ++ t177).size : Int)) = true := decide_eq_true c17
          try (have c17b5 := c17b0; simp only [ByteArray.size_append, Int.natCast_add] at c17b5)
          replace H := Option.bind_eq_some_iff.mp H
          obtain ⟨t181, A180, H⟩ := H
          replace H : (some (t181, (t180 ++ t177).extract ((ji15) : Int).toNat (t180 ++ t177).size)) = some (r1, r2) := H
          have A18 := Aside0.mk A180
          clear A180
          have c19b0 := eq_true (of_decide_eq_true (by first | (with_reducible assumption) | assumption) : 0 ≤ (ji15))
          have c20b0 := eq_true (of_decide_eq_true (by first | (with_reducible assumption) | assumption) : (ji15) ≤ ((t180 ++ t177).size : Int))
          simp only [Option.some.injEq, Prod.mk.injEq] at H
          obtain ⟨rfl, rfl⟩ := H
          go_enter Tryz.func21, Tryz.ntmps21
          try go_wp2_with (first | ((with_reducible refine gate_dst (N := 1) rfl ?_); refine be_ 1 #[.bool a0_0, .string a0_1, .int .i64 a0_2] 31 ?_; intro gb175 hg w21 hbox hb; have BK175 := Aside0.mk (hbox); have GW175 := sz_ HB hg; have GE175 := sz_ HB hg; replace HB := Aside0.mk (below_step (bl_ HB).out hb); clear hb hbox hg; obtain ⟨hcz22_0, hcz22_1, hcz22_2, hfz22_0, hfz22_1, hfz22_2⟩ := bo3_ BK175) | ((with_reducible refine gate_callee (f := 8) rfl ?_); refine gl_ (some 7) Tryz.func8 #[.agg #[.bool a0_0, .string a0_1, .int .i64 a0_2]] ?_; (with_reducible refine (dec_Dec_Norm.calls k a0_0 a0_1 a0_2 t176 t177 t178 _ A2.out).mono ?_); rintro e w23 ⟨rfl, hb⟩; refine ⟨_, rfl, ?_⟩; replace BK175 := bb_ BK175 hb; replace HB := Aside0.mk (below_step (bl_ HB).out hb); (try clear hb); (try clear hb2); (try clear hk); (try clear hi); obtain ⟨hcz24_0, hcz24_1, hcz24_2, hfz24_0, hfz24_1, hfz24_2⟩ := bo3_ BK175))
          have n0_ : Aside0 ((((w23.setCell ⟨gb175, 0, none⟩ (.bool t176)).setCell ⟨gb175, 1, none⟩ (.string t177)).setCell ⟨gb175, 2, none⟩ (.int .i64 t178)).heap[gb175]? = some (.cells #[.bool t176, .string t177, .int .i64 t178] 31 (0, 0))) := ⟨by (with_reducible repeat (first | refine blk_drewN ?_ _ | refine blk_drew ?_ | refine blk_alloc ?_ _)); refine blk_put (cs := #[.bool t176, .string t177, .int .i64 a0_2]) ?_ 2 _ rfl; (with_reducible repeat (first | refine blk_drewN ?_ _ | refine blk_drew ?_ | refine blk_alloc ?_ _)); refine blk_put (cs := #[.bool t176, .string a0_1, .int .i64 a0_2]) ?_ 1 _ rfl; (with_reducible repeat (first | refine blk_drewN ?_ _ | refine blk_drew ?_ | refine blk_alloc ?_ _)); refine blk_put (cs := #[.bool a0_0, .string a0_1, .int .i64 a0_2]) ?_ 0 _ rfl; (with_reducible repeat (first | refine blk_drewN ?_ _ | refine blk_drew ?_ | refine blk_alloc ?_ _)); exact BK175.out⟩
          have n1_ : Aside0 (Below w.heap.size w (((w23.setCell ⟨gb175, 0, none⟩ (.bool t176)).setCell ⟨gb175, 1, none⟩ (.string t177)).setCell ⟨gb175, 2, none⟩ (.int .i64 t178))) := (bl_ HB)
          (try clear BK175)
          (try clear HB)
          generalize (((w23.setCell ⟨gb175, 0, none⟩ (.bool t176)).setCell ⟨gb175, 1, none⟩ (.string t177)).setCell ⟨gb175, 2, none⟩ (.int .i64 t178)) = w25 at n0_ n1_ ⊢
          have BK175 := n0_
          have HB := n1_
          clear n0_ n1_
          replace BK175 := Aside0.mk (blk_drew BK175.out)
          replace HB := Aside0.mk (below_drew1 HB.out)
          refine start_ (n := 12) (S := fun w' => w'.cell? ⟨gb175, 0, none⟩ = some (.bool t176) ∧ w'.cell? ⟨gb175, 1, none⟩ = some (.string t177) ∧ w'.cell? ⟨gb175, 2, none⟩ = some (.int .i64 t178)) (ds := []) #[false, false, false, false, false, false, false, false, false, false, false, false] (by kernel_rfl) rfl rfl ⟨bc_ BK175 0, bc_ BK175 1, bc_ BK175 2⟩ (fun hHeld => ?_); refine with_tabW dec_Dec_Parts.tab4 dec_Dec_Parts.bits4 (fun HT_ HW_ => ?_)
          generalize w25.drew = w26 at BK175 HB hHeld ⊢
          refine pu_ 0 17 (bm_ 12 1) HT_ ?_
          refine pu_ 3 20 (bm_ 12 9) HT_ ?_
          refine pu_ 8 25 (bm_ 12 265) HT_ ?_
          refine tk_ 1 18 (bm_ 12 267) HT_ HW_ hHeld rfl (by rintro w' ⟨s0, s1, s2⟩; go_simp; with_reducible rfl) ?_
          refine pu_ 2 19 (bm_ 12 271) HT_ ?_
          refine tk_ 4 21 (bm_ 12 287) HT_ HW_ hHeld rfl (by rintro w' ⟨s0, s1, s2⟩; go_simp; with_reducible rfl) ?_
          refine pu_ 5 22 (bm_ 12 319) HT_ ?_
          refine pu_ 6 23 (bm_ 12 383) HT_ ?_
          refine tk_ 9 26 (bm_ 12 895) HT_ HW_ hHeld rfl (by rintro w' ⟨s0, s1, s2⟩; go_simp; with_reducible rfl) ?_
          refine one_ (i := 7) (N := some 24) (bm_ 12 1023) rfl rfl (one_of HT_.out (by kernel_rfl)) (by decide) (fun K hK => ?_)
          refine gs_ Tryz.func24 #[.int .i64 (wrap64 ((wrap64 (-t178)) - (t177.size : Int)))] ?_
          with_reducible refine (num_Zeros.calls (wrap64 ((wrap64 (-t178)) - (t177.size : Int))) t180 _ A13.out).mono ?_
          rintro e w27 ⟨rfl, hb⟩
          refine ⟨_, rfl, ?_⟩
          replace BK175 := bb_ BK175 hb
          replace HB := Aside0.mk (below_step (bl_ HB).out hb)
          (try clear hb)
          (try clear hb2)
          (try clear hk)
          (try clear hi)
          refine hK.out _ _ ⟨bc_ BK175 0, bc_ BK175 1, bc_ BK175 2⟩ (fun hHeld => ?_)
          clear hK K
          refine nm_ 24 ?_
          refine pu_ 10 27 (bm_ 12 2047) HT_ ?_
          refine pu_ 11 4 (bm_ 12 4095) HT_ ?_
          refine done_ (done_of HT_.out (by kernel_rfl)) ?_
          obtain ⟨hcz28_0, hcz28_1, hcz28_2, hfz28_0, hfz28_1, hfz28_2⟩ := bo3_ BK175
          try go_wp2
          replace BK175 := Aside0.mk (blk_drew BK175.out)
          replace HB := Aside0.mk (below_drew1 HB.out)
          refine start_ (n := 9) (S := fun w' => True) (ds := []) #[false, false, false, false, false, false, false, false, false] (by kernel_rfl) rfl rfl trivial (fun hHeld => ?_); refine with_tabW dec_Dec_Parts.tab6 dec_Dec_Parts.bits6 (fun HT_ HW_ => ?_)
          generalize w27.drew = w29 at BK175 HB hHeld ⊢
          refine pu_ 0 33 #[true, false, false, false, false, false, false, false, false] HT_ ?_
          refine pu_ 1 34 #[true, true, false, false, false, false, false, false, false] HT_ ?_
          refine pu_ 2 35 #[true, true, true, false, false, false, false, false, false] HT_ ?_
          refine pu_ 4 37 #[true, true, true, false, true, false, false, false, false] HT_ ?_
          refine pu_ 5 38 #[true, true, true, false, true, true, false, false, false] HT_ ?_
          refine pu_ 6 39 #[true, true, true, false, true, true, true, false, false] HT_ ?_
          refine one_ (i := 3) (N := some 36) #[true, true, true, true, true, true, true, false, false] rfl rfl (one_of HT_.out (by kernel_rfl)) (by decide) (fun K hK => ?_)
          refine goes_ Tryz.func30 (by kernel_rfl) rfl #[.string ((t180 ++ t177).extract 0 ((ji15) : Int).toNat)] (by rfl) rfl rfl (by (try simp only [List.map_toArray, List.map_cons, List.map_nil]); first | done | (simp only [hji15]; rfl) | rfl | (simp only [List.length_drop, List.length_take]; rfl) | (have z_ : ∀ s_ : ByteArray, s_.size ≤ 9223372036854775807 → -(s_.size : Int) = wrap64 (-(s_.size : Int)) := (fun s_ h_ => by unfold wrap64; omega); rw [← z_ _ (by omega)]; rfl) | (simp only [ByteArray.size_append]; rfl)) ?_
          with_reducible refine (num_Trim.calls k ((t180 ++ t177).extract 0 ((ji15) : Int).toNat) t181 _ A18.out).mono ?_
          rintro e w' ⟨rfl, ⟨nd, rfl⟩⟩
          refine ⟨_, rfl, ?_⟩
          refine hK.out _ _ trivial (fun hHeld => ?_)
          clear hK K
          refine nm_ 36 ?_
          refine pu_ 7 2 #[true, true, true, true, true, true, true, true, false] HT_ ?_
          refine pu_ 8 3 #[true, true, true, true, true, true, true, true, true] HT_ ?_
          refine done_ (done_of HT_.out (by kernel_rfl)) ?_
          try go_wp2
          go_ret2
          exact ⟨by first | rfl | (simp [errW_none, errW_some] <;> rfl) | (simp only [← hji15]; first | rfl | (simp [errW_none, errW_some] <;> rfl)) | (simp [*, errW_none, errW_some] <;> first | rfl | exact given_isEmpty _ | exact (given_isEmpty _).symm), by repeat (first | (with_reducible first | exact HB.out | apply below_alloc | apply pw_below_drewN | apply below_drew1 | refine below_set ?_ GE175.out) | exact HB.out)⟩
        · rw [if_neg c17] at H
          exact absurd H (by simp)
      · rw [if_neg c16] at H
        exact absurd H (by simp)
    · rw [if_neg c14] at H
      exact absurd H (by simp)

/-! ### num_Int: function 55 -/
theorem num_Int.below_bytes (B : Nat) (w W : World) (u : ByteArray) (h : Below B w W) (hB : B ≤ W.heap.size) : Below B w (Lib.bytesWorld W 5 u) :=
  h.trans ⟨rfl, rfl, rfl, by rw [Lib.bytesWorld_size]; omega, fun k hk => Lib.bytesWorld_at_old _ _ _ k (by omega)⟩
theorem num_Int.ret_ {k : IntKind} {a b : Int} (h : a = b) : Value.int k a = .int k b := by rw [h]
def num_Int.step (n : Int) (c : UInt8) : Int := wrap64 (wrap64 (10 * n) + ((c.toNat : Int) - 48) % 256)
def num_Int.go (l : List UInt8) : Int := l.foldl num_Int.step 0
theorem num_Int.go_take (s : ByteArray) (k : Nat) (h : k < s.size) : num_Int.go (s.data.toList.take (k + 1)) = num_Int.step (num_Int.go (s.data.toList.take k)) (s.data.toList.getD k 0) := by
  unfold num_Int.go
  have h' : k < s.data.toList.length := by simpa using h
  rw [List.take_succ_eq_append_getElem h', List.foldl_append]
  simp only [List.foldl_cons, List.foldl_nil, List.getD_eq_getElem?_getD, List.getElem?_eq_getElem h', Option.getD_some]
def num_Int.f (k : Nat) (a0 : ByteArray) : Option (Int × Bool) := (num_Is.f k a0).bind fun t => if t = true then (num_Trim.f k a0).bind fun u => (if 18 < u.size then some (0, false) else some (num_Int.go u.data.toList, true)) else some (0, false)
theorem num_Int.mono : ∀ a0 k, LeO (num_Int.f k a0) (num_Int.f (k + 1) a0) := by
  intro a0 k
  unfold num_Int.f
  repeat' first
  | (with_reducible exact num_Is.mono _ _)
  | (with_reducible exact num_Trim.mono _ _)
  | (with_reducible exact LeO.refl _)
  | (with_reducible exact LeO.none _)
  | (with_reducible refine LeO.ite ?_ ?_)
  | (with_reducible refine LeO.bind ?_ (fun _ => ?_))
set_option maxHeartbeats 1000000 in
theorem num_Int.calls (k : Nat) (a0 : ByteArray) (r1 : Int) (r2 : Bool) (w : World) (h : num_Int.f k a0 = some (r1, r2)) :
    Calls Tryz.prog 55 #[.string a0] w fun e w' => e = .returned (.tuple #[.int .i64 r1, .bool r2]) ∧ Below w.heap.size w w' := by
  unfold num_Int.f at h
  replace h := Option.bind_eq_some_iff.mp h
  obtain ⟨t, h1, h⟩ := h
  have h1' := Aside0.mk h1
  clear h1
  cases t with
  | false =>
    rw [if_neg (by decide)] at h
    simp only [Option.some.injEq, Prod.mk.injEq] at h
    obtain ⟨rfl, rfl⟩ := h
    go_enter Tryz.func55, Tryz.ntmps55
    go_wp2_with (go_at_call 53; refine (num_Is.calls k a0 _ _ h1'.out).mono ?_; rintro e w' ⟨rfl, ⟨m, rfl⟩⟩)
    go_ret2
    exact ⟨rfl, pw_below_drewN (Below.refl _ _) m⟩
  | true =>
    rw [if_pos rfl] at h
    replace h := Option.bind_eq_some_iff.mp h
    obtain ⟨u, h2, h⟩ := h
    have h2' := Aside0.mk h2
    clear h2
    by_cases h18 : 18 < u.size
    · rw [if_pos h18] at h
      simp only [Option.some.injEq, Prod.mk.injEq] at h
      obtain ⟨rfl, rfl⟩ := h
      have d18 : decide ((18 : Int) < (u.size : Int)) = true := decide_eq_true (by omega)
      clear h18
      go_enter Tryz.func55, Tryz.ntmps55
      go_wp2_with (first | (go_at_call 53; refine (num_Is.calls k a0 _ _ h1'.out).mono ?_; rintro e w' ⟨rfl, ⟨m, rfl⟩⟩) | (go_at_call 30; refine (num_Trim.calls k a0 _ _ h2'.out).mono ?_; rintro e w' ⟨rfl, ⟨m, rfl⟩⟩))
      go_ret2
      exact ⟨rfl, by repeat (first | exact Below.refl _ _ | apply pw_below_drewN)⟩
    · rw [if_neg h18] at h
      simp only [Option.some.injEq, Prod.mk.injEq] at h
      obtain ⟨rfl, rfl⟩ := h
      have d18 : decide ((18 : Int) < (u.size : Int)) = false := decide_eq_false (by omega)
      clear h18
      have hcv := fun w : World => Lib.run_convert_string_bytes (P := Tryz.prog) w 9 22 5 u Tryz.underlying9 Tryz.underlying22 Tryz.underlying5
      go_enter Tryz.func55, Tryz.ntmps55
      go_wp2_with (first | (go_at_call 53; refine (num_Is.calls k a0 _ _ h1'.out).mono ?_; rintro e w' ⟨rfl, ⟨m, rfl⟩⟩) | (go_at_call 30; refine (num_Trim.calls k a0 _ _ h2'.out).mono ?_; rintro e w' ⟨rfl, ⟨m', rfl⟩⟩))
      have hu : u.size ≤ 18 := by have := of_decide_eq_false d18; omega
      rename_i q _ _
      obtain ⟨W, hW⟩ : ∃ W, Lib.bytesWorld (w.drewN (m + q + m')) 5 u = W := ⟨_, rfl⟩
      have hcell : ∀ j, j < u.size → W.cell? ⟨w.heap.size, j, none⟩ = some (.int .u8 (u.data.toList.getD j 0).toNat) := by
        intro j hj
        rw [← hW]
        exact Lib.bytesWorld_cell (w.drewN _) 5 u j hj
      have hB : Below w.heap.size w W := by
        rw [← hW]
        exact num_Int.below_bytes _ _ _ _ (pw_below_drewN (Below.refl _ _) _) (Nat.le_refl _)
      rw [hW]
      clear hW hcv d18
      go_loop [4, 20] (fun n i => ∃ j : Nat, j ≤ u.size ∧ i = .int .i64 j ∧ n = .int .i64 (num_Int.go (u.data.toList.take j))) (fun _ i => u.size - (intOf i).toNat)
      case atStart => exact ⟨0, Nat.zero_le _, rfl, rfl⟩
      case round =>
        obtain ⟨j, hj, rfl, rfl⟩ := hrel
        by_cases hlt : j < u.size
        · have hc := hcell j hlt
          have hg := Aside0.mk (num_Int.go_take u j hlt)
          obtain ⟨c, hcc⟩ : ∃ c : UInt8, u.data.toList.getD j 0 = c := ⟨_, rfl⟩
          rw [hcc] at hc hg
          clear hcc
          have hd : decide (j < u.size) = true := decide_eq_true hlt
          have hHB := Aside0.mk hB
          have hlt' := Aside0.mk hlt
          clear hcell hB hd
          go_wp2
          go_round
          case rel => exact ⟨j + 1, by have := hlt'.out; omega, by have := hlt'.out; go_num, by rw [hg.out]; exact num_Int.ret_ (by unfold num_Int.step; try simp only [i64_w])⟩
          case measure => have := hlt'.out; simp [intOf]; omega
        · have hHB := Aside0.mk hB
          clear hcell hB
          go_wp2
          go_ret2
          exact ⟨by rw [List.take_of_length_le (by simp; omega)]; rfl, hHB.out⟩

end Go.Proofs.YthkpmiajcmihjaaGreatDoor.P
