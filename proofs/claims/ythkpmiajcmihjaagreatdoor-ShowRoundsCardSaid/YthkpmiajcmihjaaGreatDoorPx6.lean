-- written by a program of this session (wip/p2)
import Derived.Test.YthkpmiajcmihjaaGreatDoorPx0
import Derived.Test.YthkpmiajcmihjaaGreatDoorPx2
import Derived.Test.YthkpmiajcmihjaaGreatDoorPx3
import Derived.Test.YthkpmiajcmihjaaGreatDoorPx4
import Derived.Test.YthkpmiajcmihjaaGreatDoorPx5
namespace Go.Proofs.YthkpmiajcmihjaaGreatDoor.P
open Go.RowKit Go.Proofs.YthkpmiajcmihjaaGreatDoorW.PrintWords Go.Proofs.YthkpmiajcmihjaaGreatDoorW.PrintLast Go.Proofs.YthkpmiajcmihjaaGreatDoorW.PrintMore
attribute [local go_sem] max2_int min2_int max_two min_two max_three min_three max_four min_four   -- for this text's walks alone
set_option linter.unusedVariables false
set_option linter.unusedSimpArgs false

/-! ### round_Step: function 29 -/
def round_Step.j0 : Nat → Int → Int → Bool → Bool → ByteArray → Int → Bool → ByteArray → Int → Option (Bool × ByteArray × Int)
  | 0, _, _, _, _, _, _, _, _, _ => none
  | k + 1, x2, x7, x29, x200000, x200001, x200002, x201000, x201001, x201002 => if x29 = true then (some (x200000, x200001, x200002)) else ((dec_Made.f k false x200001 (wrap64 (x200002 - x201002))).bind fun bt211 => ((dec_Dec_Parts.f k bt211.1 bt211.2.1 bt211.2.2).bind fun bt215 => ((num_Div.f k bt215.1 x7).bind fun bt217 => ((round_odd.f bt217.1).bind fun t219 => ((round_between.f k bt217.2 bt215.2 x7).bind fun t220 => ((round_Mode_up.f x2 x200000 t219 t220).bind fun t221 => ((round_step.f k bt217.1 t221).bind fun t222 => ((num_Times.f k t222 x7).bind fun t223 => ((dec_Made.f k x200000 t223 x201002).bind fun bt224 => (some (bt224.1, bt224.2.1, bt224.2.2)))))))))))
def round_Step.f (k : Nat) (a0_0 : Bool) (a0_1 : ByteArray) (a0_2 : Int) (a1_0 : Bool) (a1_1 : ByteArray) (a1_2 : Int) (a2 : Int) : Option (Bool × ByteArray × Int) := (dec_Dec_Norm.f k a0_0 a0_1 a0_2).bind fun bt202 => ((dec_Dec_Norm.f k a1_0 a1_1 a1_2).bind fun bt205 => ((round_whole.f k bt205.1 bt205.2.1 bt205.2.2).bind fun bt208 => (if bt208.2 = true then ((round_Mode_Valid.f a2).bind fun t210 => (round_Step.j0 k a2 bt208.1 (!t210) bt202.1 bt202.2.1 bt202.2.2 bt205.1 bt205.2.1 bt205.2.2)) else (round_Step.j0 k a2 bt208.1 true bt202.1 bt202.2.1 bt202.2.2 bt205.1 bt205.2.1 bt205.2.2))))
theorem round_Step.mono_l : ∀ k, (∀ y0 y1 y2 y3 y4 y5 y6 y7 y8, LeO (round_Step.j0 k y0 y1 y2 y3 y4 y5 y6 y7 y8) (round_Step.j0 (k + 1) y0 y1 y2 y3 y4 y5 y6 y7 y8))
  | 0 => fun _ _ _ _ _ _ _ _ _ r h => by simp [round_Step.j0] at h
  | k + 1 => by
    have ih0 := round_Step.mono_l k
    · intro y0 y1 y2 y3 y4 y5 y6 y7 y8
      unfold round_Step.j0
      repeat' first
      | (with_reducible exact ih0 _ _ _ _ _ _ _ _ _)
      | (with_reducible exact dec_Dec_Norm.mono _ _ _ _)
      | (with_reducible exact dec_Dec_Parts.mono _ _ _ _)
      | (with_reducible exact dec_Made.mono _ _ _ _)
      | (with_reducible exact num_Div.mono _ _ _)
      | (with_reducible exact num_Times.mono _ _ _)
      | (with_reducible exact round_between.mono _ _ _ _)
      | (with_reducible exact round_step.mono _ _ _)
      | (with_reducible exact round_whole.mono _ _ _ _)
      | (with_reducible exact LeO.refl _)
      | (with_reducible exact LeO.none _)
      | (with_reducible refine LeO.ite ?_ ?_)
      | (with_reducible refine LeO.bind ?_ (fun _ => ?_))
      | exact ih0 _ _ _ _ _ _ _ _ _
      | exact dec_Dec_Norm.mono _ _ _ _
      | exact dec_Dec_Parts.mono _ _ _ _
      | exact dec_Made.mono _ _ _ _
      | exact num_Div.mono _ _ _
      | exact num_Times.mono _ _ _
      | exact round_between.mono _ _ _ _
      | exact round_step.mono _ _ _
      | exact round_whole.mono _ _ _ _
      | exact LeO.none _
      | refine LeO.ite ?_ ?_
      | refine LeO.bind ?_ (fun _ => ?_)
theorem round_Step.mono : ∀ a0 a1 a2 a3 a4 a5 a6 k, LeO (round_Step.f k a0 a1 a2 a3 a4 a5 a6) (round_Step.f (k + 1) a0 a1 a2 a3 a4 a5 a6) := by
  intro a0 a1 a2 a3 a4 a5 a6 k
  have ih0 := round_Step.mono_l k
  unfold round_Step.f
  repeat' first
      | (with_reducible exact ih0 _ _ _ _ _ _ _ _ _)
      | (with_reducible exact dec_Dec_Norm.mono _ _ _ _)
      | (with_reducible exact dec_Dec_Parts.mono _ _ _ _)
      | (with_reducible exact dec_Made.mono _ _ _ _)
      | (with_reducible exact num_Div.mono _ _ _)
      | (with_reducible exact num_Times.mono _ _ _)
      | (with_reducible exact round_between.mono _ _ _ _)
      | (with_reducible exact round_step.mono _ _ _)
      | (with_reducible exact round_whole.mono _ _ _ _)
      | (with_reducible exact LeO.refl _)
      | (with_reducible exact LeO.none _)
      | (with_reducible refine LeO.ite ?_ ?_)
      | (with_reducible refine LeO.bind ?_ (fun _ => ?_))
      | exact ih0 _ _ _ _ _ _ _ _ _
      | exact dec_Dec_Norm.mono _ _ _ _
      | exact dec_Dec_Parts.mono _ _ _ _
      | exact dec_Made.mono _ _ _ _
      | exact num_Div.mono _ _ _
      | exact num_Times.mono _ _ _
      | exact round_between.mono _ _ _ _
      | exact round_step.mono _ _ _
      | exact round_whole.mono _ _ _ _
      | exact LeO.none _
      | refine LeO.ite ?_ ?_
      | refine LeO.bind ?_ (fun _ => ?_)
def round_Step.T8 : Bool × List (List Nat × List Nat) := (true, [([], []), ([], []), ([], []), ([2], [2]), ([], []), ([4], [4]), ([], []), ([], []), ([], []), ([6, 7, 8, 5], [6, 7, 8]), ([1, 3, 5, 9, 9], [1, 3, 5, 9]), ([0, 10, 10], [0, 10]), ([11, 11, 0, 1, 2, 3, 4, 5, 6, 7, 8, 9, 10, 11], [0, 4, 11])])
def round_Step.B8 : List Nat := [0, 0, 0, 4, 0, 16, 0, 0, 0, 496, 1022, 2047, 4095]
theorem round_Step.tab8 : rtab .any (opsOf Tryz.f29 8) = round_Step.T8 := by kernel_rfl
theorem round_Step.bits8 : waitsOk round_Step.T8.2 round_Step.B8 = true := by kernel_rfl
def round_Step.T9 : Bool × List (List Nat × List Nat) := (true, [([], []), ([0], [0]), ([], []), ([], []), ([2, 3], [2, 3]), ([], []), ([5], [5]), ([1, 4, 6, 4], [1, 4, 6]), ([7, 7, 0, 1, 2, 3, 4, 5, 6, 7], [7])])
def round_Step.B9 : List Nat := [0, 1, 0, 0, 12, 0, 32, 127, 255]
theorem round_Step.tab9 : rtab .any (opsOf Tryz.f29 9) = round_Step.T9 := by kernel_rfl
theorem round_Step.bits9 : waitsOk round_Step.T9.2 round_Step.B9 = true := by kernel_rfl
set_option maxHeartbeats 8000000 in
set_option maxRecDepth 100000 in
theorem round_Step.calls (k : Nat) (a0_0 : Bool) (a0_1 : ByteArray) (a0_2 : Int) (a1_0 : Bool) (a1_1 : ByteArray) (a1_2 : Int) (a2 : Int) (r1 : Bool) (r2 : ByteArray) (r3 : Int) (w : World) (h : round_Step.f k a0_0 a0_1 a0_2 a1_0 a1_1 a1_2 a2 = some (r1, r2, r3)) :
    Calls Tryz.prog 29 #[.agg #[.bool a0_0, .string a0_1, .int .i64 a0_2], .agg #[.bool a1_0, .string a1_1, .int .i64 a1_2], .int .i64 a2] w fun e w' => e = .returned (.agg #[.bool r1, .string r2, .int .i64 r3]) ∧ Below w.heap.size w w' := by
  have hu31 := Tryz.underlying31
  have HB := Aside0.mk (Below.refl w.heap.size w)
  have H : ((dec_Dec_Norm.f k a0_0 a0_1 a0_2).bind fun bt202 => ((dec_Dec_Norm.f k a1_0 a1_1 a1_2).bind fun bt205 => ((round_whole.f k bt205.1 bt205.2.1 bt205.2.2).bind fun bt208 => (if bt208.2 = true then ((round_Mode_Valid.f a2).bind fun t210 => (round_Step.j0 k a2 bt208.1 (!t210) bt202.1 bt202.2.1 bt202.2.2 bt205.1 bt205.2.1 bt205.2.2)) else (round_Step.j0 k a2 bt208.1 true bt202.1 bt202.2.1 bt202.2.2 bt205.1 bt205.2.1 bt205.2.2))))) = some (r1, r2, r3) := h
  clear h
  replace H := Option.bind_eq_some_iff.mp H
  obtain ⟨⟨t202, t203, t204⟩, A40, H⟩ := H
  replace H : ((dec_Dec_Norm.f k a1_0 a1_1 a1_2).bind fun bt205 => ((round_whole.f k bt205.1 bt205.2.1 bt205.2.2).bind fun bt208 => (if bt208.2 = true then ((round_Mode_Valid.f a2).bind fun t210 => (round_Step.j0 k a2 bt208.1 (!t210) t202 t203 t204 bt205.1 bt205.2.1 bt205.2.2)) else (round_Step.j0 k a2 bt208.1 true t202 t203 t204 bt205.1 bt205.2.1 bt205.2.2)))) = some (r1, r2, r3) := H
  have A4 := Aside0.mk A40
  clear A40
  replace H := Option.bind_eq_some_iff.mp H
  obtain ⟨⟨t205, t206, t207⟩, A50, H⟩ := H
  replace H : ((round_whole.f k t205 t206 t207).bind fun bt208 => (if bt208.2 = true then ((round_Mode_Valid.f a2).bind fun t210 => (round_Step.j0 k a2 bt208.1 (!t210) t202 t203 t204 t205 t206 t207)) else (round_Step.j0 k a2 bt208.1 true t202 t203 t204 t205 t206 t207))) = some (r1, r2, r3) := H
  have A5 := Aside0.mk A50
  clear A50
  replace H := Option.bind_eq_some_iff.mp H
  obtain ⟨⟨t208, t209⟩, A60, H⟩ := H
  replace H : (if t209 = true then ((round_Mode_Valid.f a2).bind fun t210 => (round_Step.j0 k a2 t208 (!t210) t202 t203 t204 t205 t206 t207)) else (round_Step.j0 k a2 t208 true t202 t203 t204 t205 t206 t207)) = some (r1, r2, r3) := H
  have A6 := Aside0.mk A60
  clear A60
  have HC7 := Aside0.mk H
  clear H
  go_enter Tryz.func29, Tryz.ntmps29
  try go_wp2_with (first | ((with_reducible refine gate_dst (N := 3) rfl ?_); refine be_ 3 #[.bool a0_0, .string a0_1, .int .i64 a0_2] 31 ?_; intro gb199 hg w8 hbox hb; have BK199 := Aside0.mk (hbox); have GW199 := sz_ HB hg; have GE199 := sz_ HB hg; replace HB := Aside0.mk (below_step (bl_ HB).out hb); clear hb hbox hg) | ((with_reducible refine gate_dst (N := 4) rfl ?_); refine be_ 4 #[.bool a1_0, .string a1_1, .int .i64 a1_2] 31 ?_; intro gb200 hg w9 hbox hb; have BK200 := Aside0.mk (hbox); have GW200 := sz_ HB hg; have GE200 := sz_ HB hg; have NB199_200 := na_ BK199 hg; have NB200_199 := nb_ BK199 hg; replace BK199 := bb_ BK199 hb; replace HB := Aside0.mk (below_step (bl_ HB).out hb); clear hb hbox hg) | ((with_reducible refine gate_dst (N := 6) rfl ?_); refine be_ 6 #[.bool false, .string (⟨#[]⟩ : ByteArray), .int .i64 0] 31 ?_; intro gb201 hg w10 hbox hb; have BK201 := Aside0.mk (hbox); have GW201 := sz_ HB hg; have GE201 := sz_ HB hg; have NB199_201 := na_ BK199 hg; have NB201_199 := nb_ BK199 hg; have NB200_201 := na_ BK200 hg; have NB201_200 := nb_ BK200 hg; replace BK199 := bb_ BK199 hb; replace BK200 := bb_ BK200 hb; replace HB := Aside0.mk (below_step (bl_ HB).out hb); clear hb hbox hg))
  replace BK199 := Aside0.mk (blk_drew BK199.out)
  replace BK200 := Aside0.mk (blk_drew BK200.out)
  replace BK201 := Aside0.mk (blk_drew BK201.out)
  replace HB := Aside0.mk (below_drew1 HB.out)
  refine start_ (n := 6) (S := fun w' => w'.cell? ⟨gb199, 0, none⟩ = some (.bool a0_0) ∧ w'.cell? ⟨gb199, 1, none⟩ = some (.string a0_1) ∧ w'.cell? ⟨gb199, 2, none⟩ = some (.int .i64 a0_2) ∧ w'.cell? ⟨gb200, 0, none⟩ = some (.bool a1_0) ∧ w'.cell? ⟨gb200, 1, none⟩ = some (.string a1_1) ∧ w'.cell? ⟨gb200, 2, none⟩ = some (.int .i64 a1_2)) (ds := [4, 5]) #[false, false, false, false, false, false] (by kernel_rfl) rfl rfl ⟨bc_ BK199 0, bc_ BK199 1, bc_ BK199 2, bc_ BK200 0, bc_ BK200 1, bc_ BK200 2⟩ (fun hHeld => ?_)
  generalize w10.drew = w11 at BK199 BK200 BK201 HB hHeld ⊢
  refine tk0_ 0 14 #[true, false, false, false, false, false] hHeld rfl (by rintro w' ⟨s0, s1, s2, s3, s4, s5⟩; go_simp; with_reducible rfl) ?_
  refine tk0_ 2 16 #[true, false, true, false, false, false] hHeld rfl (by rintro w' ⟨s0, s1, s2, s3, s4, s5⟩; go_simp; with_reducible rfl) ?_
  refine one_ (i := 1) (N := some 15) #[true, true, true, false, false, false] rfl rfl (by kernel_rfl) (by decide) (fun K hK => ?_)
  refine gs_ Tryz.func8 #[.agg #[.bool a0_0, .string a0_1, .int .i64 a0_2]] ?_
  with_reducible refine (dec_Dec_Norm.calls k a0_0 a0_1 a0_2 t202 t203 t204 _ A4.out).mono ?_
  rintro e w12 ⟨rfl, hb⟩
  refine ⟨_, rfl, ?_⟩
  replace BK199 := bb_ BK199 hb
  replace BK200 := bb_ BK200 hb
  replace BK201 := bb_ BK201 hb
  replace HB := Aside0.mk (below_step (bl_ HB).out hb)
  (try clear hb)
  (try clear hb2)
  (try clear hk)
  (try clear hi)
  refine hK.out _ _ ⟨bc_ BK199 0, bc_ BK199 1, bc_ BK199 2, bc_ BK200 0, bc_ BK200 1, bc_ BK200 2⟩ (fun hHeld => ?_)
  clear hK K
  refine nm_ 15 ?_
  refine one_ (i := 3) (N := some 17) #[true, true, true, true, false, false] rfl rfl (by kernel_rfl) (by decide) (fun K hK => ?_)
  refine gs_ Tryz.func8 #[.agg #[.bool a1_0, .string a1_1, .int .i64 a1_2]] ?_
  with_reducible refine (dec_Dec_Norm.calls k a1_0 a1_1 a1_2 t205 t206 t207 _ A5.out).mono ?_
  rintro e w13 ⟨rfl, hb⟩
  refine ⟨_, rfl, ?_⟩
  replace BK199 := bb_ BK199 hb
  replace BK200 := bb_ BK200 hb
  replace BK201 := bb_ BK201 hb
  replace HB := Aside0.mk (below_step (bl_ HB).out hb)
  (try clear hb)
  (try clear hb2)
  (try clear hk)
  (try clear hi)
  refine hK.out _ _ ⟨bc_ BK199 0, bc_ BK199 1, bc_ BK199 2, bc_ BK200 0, bc_ BK200 1, bc_ BK200 2⟩ (fun hHeld => ?_)
  clear hK K
  refine nm_ 17 ?_
  refine last_ (i := 4) (N := none) #[true, true, true, true, true, false] rfl rfl (by kernel_rfl) (by decide) (fun K hK => ?_)
  have hs14 : w13.cell? ⟨gb199, 0, none⟩ = some (.bool a0_0) := bc_ BK199 0
  have hfs14 := blk_frozen BK199.out 0
  have hns14_1 := NB200_199.out
  have hns14_2 := NB201_199.out
  have hms14_1 := NB199_200.out
  have hms14_2 := NB199_201.out
  have hs15 : w13.cell? ⟨gb199, 1, none⟩ = some (.string a0_1) := bc_ BK199 1
  have hfs15 := blk_frozen BK199.out 1
  have hns15_1 := NB200_199.out
  have hns15_2 := NB201_199.out
  have hms15_1 := NB199_200.out
  have hms15_2 := NB199_201.out
  have hs16 : w13.cell? ⟨gb199, 2, none⟩ = some (.int .i64 a0_2) := bc_ BK199 2
  have hfs16 := blk_frozen BK199.out 2
  have hns16_1 := NB200_199.out
  have hns16_2 := NB201_199.out
  have hms16_1 := NB199_200.out
  have hms16_2 := NB199_201.out
  refine skip_ (w1 := ?_) (by rfl) rfl ?_ ?_
  rotate_left
  · go_simp
    rfl
  refine hK.out _ _ ?_
  clear hK K
  refine last_ (i := 5) (N := none) #[true, true, true, true, true, true] rfl rfl (by kernel_rfl) (by decide) (fun K hK => ?_)
  have hs17 : w13.cell? ⟨gb200, 0, none⟩ = some (.bool a1_0) := bc_ BK200 0
  have hfs17 := blk_frozen BK200.out 0
  have hns17_0 := NB199_200.out
  have hns17_2 := NB201_200.out
  have hms17_0 := NB200_199.out
  have hms17_2 := NB200_201.out
  have hs18 : w13.cell? ⟨gb200, 1, none⟩ = some (.string a1_1) := bc_ BK200 1
  have hfs18 := blk_frozen BK200.out 1
  have hns18_0 := NB199_200.out
  have hns18_2 := NB201_200.out
  have hms18_0 := NB200_199.out
  have hms18_2 := NB200_201.out
  have hs19 : w13.cell? ⟨gb200, 2, none⟩ = some (.int .i64 a1_2) := bc_ BK200 2
  have hfs19 := blk_frozen BK200.out 2
  have hns19_0 := NB199_200.out
  have hns19_2 := NB201_200.out
  have hms19_0 := NB200_199.out
  have hms19_2 := NB200_201.out
  refine skip_ (w1 := ?_) (by rfl) rfl ?_ ?_
  rotate_left
  · go_simp
    rfl
  refine hK.out _ _ ?_
  clear hK K
  refine done_ (by kernel_rfl) ?_
  have hnb20 := NB200_199.out
  have hnc20 := NB199_200.out
  have hnb21 := NB200_201.out
  have hnc21 := NB201_200.out
  obtain ⟨hcz22_0, hcz22_1, hcz22_2, hfz22_0, hfz22_1, hfz22_2⟩ := bo3_ BK200
  go_upto_region 3 with (first | ((with_reducible refine gate_callee (f := 49) rfl ?_); refine gl_ (some 20) Tryz.func49 #[.agg #[.bool t205, .string t206, .int .i64 t207]] ?_; (with_reducible refine (round_whole.calls k t205 t206 t207 t208 t209 _ A6.out).mono ?_); rintro e w23 ⟨rfl, hb⟩; refine ⟨_, rfl, ?_⟩; have n0_ := Aside0.mk (blk_below (g := gb199) (o := .cells #[.bool t202, .string t203, .int .i64 t204] 31 (0, 0)) (by (with_reducible repeat (first | refine blk_drewN ?_ _ | refine blk_drew ?_ | refine blk_alloc ?_ _)); refine blk_far ?_ NB199_200.out _; (with_reducible repeat (first | refine blk_drewN ?_ _ | refine blk_drew ?_ | refine blk_alloc ?_ _)); refine blk_far ?_ NB199_200.out _; (with_reducible repeat (first | refine blk_drewN ?_ _ | refine blk_drew ?_ | refine blk_alloc ?_ _)); refine blk_far ?_ NB199_200.out _; (with_reducible repeat (first | refine blk_drewN ?_ _ | refine blk_drew ?_ | refine blk_alloc ?_ _)); refine blk_put (cs := #[.bool t202, .string t203, .int .i64 a0_2]) ?_ 2 _ rfl; (with_reducible repeat (first | refine blk_drewN ?_ _ | refine blk_drew ?_ | refine blk_alloc ?_ _)); refine blk_put (cs := #[.bool t202, .string a0_1, .int .i64 a0_2]) ?_ 1 _ rfl; (with_reducible repeat (first | refine blk_drewN ?_ _ | refine blk_drew ?_ | refine blk_alloc ?_ _)); refine blk_put (cs := #[.bool a0_0, .string a0_1, .int .i64 a0_2]) ?_ 0 _ rfl; (with_reducible repeat (first | refine blk_drewN ?_ _ | refine blk_drew ?_ | refine blk_alloc ?_ _)); exact BK199.out) hb); have n1_ := Aside0.mk (blk_below (g := gb200) (o := .cells #[.bool t205, .string t206, .int .i64 t207] 31 (0, 0)) (by (with_reducible repeat (first | refine blk_drewN ?_ _ | refine blk_drew ?_ | refine blk_alloc ?_ _)); refine blk_put (cs := #[.bool t205, .string t206, .int .i64 a1_2]) ?_ 2 _ rfl; (with_reducible repeat (first | refine blk_drewN ?_ _ | refine blk_drew ?_ | refine blk_alloc ?_ _)); refine blk_put (cs := #[.bool t205, .string a1_1, .int .i64 a1_2]) ?_ 1 _ rfl; (with_reducible repeat (first | refine blk_drewN ?_ _ | refine blk_drew ?_ | refine blk_alloc ?_ _)); refine blk_put (cs := #[.bool a1_0, .string a1_1, .int .i64 a1_2]) ?_ 0 _ rfl; (with_reducible repeat (first | refine blk_drewN ?_ _ | refine blk_drew ?_ | refine blk_alloc ?_ _)); refine blk_far ?_ NB200_199.out _; (with_reducible repeat (first | refine blk_drewN ?_ _ | refine blk_drew ?_ | refine blk_alloc ?_ _)); refine blk_far ?_ NB200_199.out _; (with_reducible repeat (first | refine blk_drewN ?_ _ | refine blk_drew ?_ | refine blk_alloc ?_ _)); refine blk_far ?_ NB200_199.out _; (with_reducible repeat (first | refine blk_drewN ?_ _ | refine blk_drew ?_ | refine blk_alloc ?_ _)); exact BK200.out) hb); have n2_ := Aside0.mk (blk_below (g := gb201) (o := .cells #[.bool false, .string (⟨#[]⟩ : ByteArray), .int .i64 0] 31 (0, 0)) (by (with_reducible repeat (first | refine blk_drewN ?_ _ | refine blk_drew ?_ | refine blk_alloc ?_ _)); refine blk_far ?_ NB201_200.out _; (with_reducible repeat (first | refine blk_drewN ?_ _ | refine blk_drew ?_ | refine blk_alloc ?_ _)); refine blk_far ?_ NB201_200.out _; (with_reducible repeat (first | refine blk_drewN ?_ _ | refine blk_drew ?_ | refine blk_alloc ?_ _)); refine blk_far ?_ NB201_200.out _; (with_reducible repeat (first | refine blk_drewN ?_ _ | refine blk_drew ?_ | refine blk_alloc ?_ _)); refine blk_far ?_ NB201_199.out _; (with_reducible repeat (first | refine blk_drewN ?_ _ | refine blk_drew ?_ | refine blk_alloc ?_ _)); refine blk_far ?_ NB201_199.out _; (with_reducible repeat (first | refine blk_drewN ?_ _ | refine blk_drew ?_ | refine blk_alloc ?_ _)); refine blk_far ?_ NB201_199.out _; (with_reducible repeat (first | refine blk_drewN ?_ _ | refine blk_drew ?_ | refine blk_alloc ?_ _)); exact BK201.out) hb); have n3_ := Aside0.mk (below_step (bl_ HB).out hb); clear BK199; clear BK200; clear BK201; clear HB; have BK199 := n0_; have BK200 := n1_; have BK201 := n2_; have HB := n3_; clear n0_ n1_ n2_ n3_; (try clear hb); (try clear hb2); (try clear hk); (try clear hi)))
  (try simp only [Act.put, List.setIfInBounds_toArray, List.set_cons_zero, List.set_cons_succ])
  go_cut [29] (fun v29 wc => ∃ (kq : Nat) (x29_6 : Bool), v29 = .bool x29_6 ∧ Aside0 (round_Step.j0 kq a2 t208 x29_6 t202 t203 t204 t205 t206 t207 = some (r1, r2, r3)) ∧ Aside0 (kq ≤ k) ∧ Aside0 (wc.heap[gb199]? = some (.cells #[.bool t202, .string t203, .int .i64 t204] 31 (0, 0))) ∧ Aside0 (wc.heap[gb200]? = some (.cells #[.bool t205, .string t206, .int .i64 t207] 31 (0, 0))) ∧ Aside0 (wc.heap[gb201]? = some (.cells #[.bool false, .string (⟨#[]⟩ : ByteArray), .int .i64 0] 31 (0, 0))) ∧ Aside0 (Below w.heap.size w wc))
  case first =>
    have H := HC7.out
    clear HC7
    by_cases c24 : t209 = true
    · subst c24
      have H1 : ((round_Mode_Valid.f a2).bind fun t210 => (round_Step.j0 k a2 t208 (!t210) t202 t203 t204 t205 t206 t207)) = some (r1, r2, r3) := by rw [if_pos rfl] at H; exact H
      clear H
      have H := H1
      clear H1
      replace H := Option.bind_eq_some_iff.mp H
      obtain ⟨t210, A250, H⟩ := H
      replace H : (round_Step.j0 k a2 t208 (!t210) t202 t203 t204 t205 t206 t207) = some (r1, r2, r3) := H
      have A25 := Aside0.mk A250
      clear A250
      have H' := Aside0.mk H
      clear H
      go_wp2_with (first | (go_at_call 25; (with_reducible refine (round_Mode_Valid.calls a2 t210 _ A25.out).mono ?_); rintro e w' ⟨rfl, ⟨nd, rfl⟩⟩))
      go_meet
      case rel => exact ⟨_, (!t210), eq_, H', ⟨by first | omega | exact Nat.le_refl _⟩, (bk_ BK199), (bk_ BK200), (bk_ BK201), (bl_ HB)⟩
    · replace c24 := Bool.eq_false_iff.mpr c24
      subst c24
      have H1 : (round_Step.j0 k a2 t208 true t202 t203 t204 t205 t206 t207) = some (r1, r2, r3) := by rw [if_neg (show ¬ (false = true) by decide)] at H; exact H
      clear H
      have H := H1
      clear H1
      have H' := Aside0.mk H
      clear H
      go_wp2
      go_meet
      case rel => exact ⟨_, (true), eq_, H', ⟨by first | omega | exact Nat.le_refl _⟩, (bk_ BK199), (bk_ BK200), (bk_ BK201), (bl_ HB)⟩
  case rest =>
    clear HC7
    try clear c2
    try clear p2
    try clear c4
    try clear p6
    try clear c8
    try clear c20
    try clear c21
    try clear c24
    try clear hcz22_0
    try clear hcz22_1
    try clear hcz22_2
    try clear hfz22_0
    try clear hfz22_1
    try clear hfz22_2
    obtain ⟨kq, x29_6, rfl, HA, HJ6, BK199, BK200, BK201, HB⟩ := hcut
    cases kq with
    | zero => exact absurd HA.out (by simp [round_Step.j0])
    | succ kj6 =>
      have H := HA.out
      clear HA
      simp only [round_Step.j0] at H
      by_cases c26 : x29_6 = true
      · subst c26
        have H1 : (some (t202, t203, t204)) = some (r1, r2, r3) := by rw [if_pos rfl] at H; exact H
        clear H
        have H := H1
        clear H1
        simp only [Option.some.injEq, Prod.mk.injEq] at H
        obtain ⟨rfl, rfl, rfl⟩ := H
        have hnb27 := NB199_200.out
        have hnc27 := NB200_199.out
        have hnb28 := NB199_201.out
        have hnc28 := NB201_199.out
        obtain ⟨hcz29_0, hcz29_1, hcz29_2, hfz29_0, hfz29_1, hfz29_2⟩ := bo3_ BK199
        have hnb30 := NB201_200.out
        have hnc30 := NB200_201.out
        obtain ⟨hcz31_0, hcz31_1, hcz31_2, hfz31_0, hfz31_1, hfz31_2⟩ := bo3_ BK201
        go_wp2
        refine bodyPost_ret (results_cell_row rfl _ _ gb201 31 #[.bool t202, .string t203, .int .i64 t204] (0, 0) _ rfl (by (with_reducible repeat (first | refine blk_drewN ?_ _ | refine blk_drew ?_ | refine blk_alloc ?_ _)); refine blk_put (cs := #[.bool t202, .string t203, .int .i64 0]) ?_ 2 _ rfl; (with_reducible repeat (first | refine blk_drewN ?_ _ | refine blk_drew ?_ | refine blk_alloc ?_ _)); refine blk_put (cs := #[.bool t202, .string (⟨#[]⟩ : ByteArray), .int .i64 0]) ?_ 1 _ rfl; (with_reducible repeat (first | refine blk_drewN ?_ _ | refine blk_drew ?_ | refine blk_alloc ?_ _)); refine blk_put (cs := #[.bool false, .string (⟨#[]⟩ : ByteArray), .int .i64 0]) ?_ 0 _ rfl; (with_reducible repeat (first | refine blk_drewN ?_ _ | refine blk_drew ?_ | refine blk_alloc ?_ _)); exact BK201.out) Tryz.underlying31 rfl (by kernel_rfl)) rfl ?_
        exact ⟨ew_, (bl_ HB).out⟩
      · replace c26 := Bool.eq_false_iff.mpr c26
        subst c26
        have H1 : ((dec_Made.f kj6 false t203 (wrap64 (t204 - t207))).bind fun bt211 => ((dec_Dec_Parts.f kj6 bt211.1 bt211.2.1 bt211.2.2).bind fun bt215 => ((num_Div.f kj6 bt215.1 t208).bind fun bt217 => ((round_odd.f bt217.1).bind fun t219 => ((round_between.f kj6 bt217.2 bt215.2 t208).bind fun t220 => ((round_Mode_up.f a2 t202 t219 t220).bind fun t221 => ((round_step.f kj6 bt217.1 t221).bind fun t222 => ((num_Times.f kj6 t222 t208).bind fun t223 => ((dec_Made.f kj6 t202 t223 t207).bind fun bt224 => (some (bt224.1, bt224.2.1, bt224.2.2))))))))))) = some (r1, r2, r3) := by rw [if_neg (show ¬ (false = true) by decide)] at H; exact H
        clear H
        have H := H1
        clear H1
        replace H := Option.bind_eq_some_iff.mp H
        obtain ⟨⟨t211, t212, t213⟩, A320, H⟩ := H
        replace H : ((dec_Dec_Parts.f kj6 t211 t212 t213).bind fun bt215 => ((num_Div.f kj6 bt215.1 t208).bind fun bt217 => ((round_odd.f bt217.1).bind fun t219 => ((round_between.f kj6 bt217.2 bt215.2 t208).bind fun t220 => ((round_Mode_up.f a2 t202 t219 t220).bind fun t221 => ((round_step.f kj6 bt217.1 t221).bind fun t222 => ((num_Times.f kj6 t222 t208).bind fun t223 => ((dec_Made.f kj6 t202 t223 t207).bind fun bt224 => (some (bt224.1, bt224.2.1, bt224.2.2)))))))))) = some (r1, r2, r3) := H
        have A32 := Aside0.mk A320
        clear A320
        replace H := Option.bind_eq_some_iff.mp H
        obtain ⟨⟨t215, t216⟩, A330, H⟩ := H
        replace H : ((num_Div.f kj6 t215 t208).bind fun bt217 => ((round_odd.f bt217.1).bind fun t219 => ((round_between.f kj6 bt217.2 t216 t208).bind fun t220 => ((round_Mode_up.f a2 t202 t219 t220).bind fun t221 => ((round_step.f kj6 bt217.1 t221).bind fun t222 => ((num_Times.f kj6 t222 t208).bind fun t223 => ((dec_Made.f kj6 t202 t223 t207).bind fun bt224 => (some (bt224.1, bt224.2.1, bt224.2.2))))))))) = some (r1, r2, r3) := H
        have A33 := Aside0.mk A330
        clear A330
        replace H := Option.bind_eq_some_iff.mp H
        obtain ⟨⟨t217, t218⟩, A340, H⟩ := H
        replace H : ((round_odd.f t217).bind fun t219 => ((round_between.f kj6 t218 t216 t208).bind fun t220 => ((round_Mode_up.f a2 t202 t219 t220).bind fun t221 => ((round_step.f kj6 t217 t221).bind fun t222 => ((num_Times.f kj6 t222 t208).bind fun t223 => ((dec_Made.f kj6 t202 t223 t207).bind fun bt224 => (some (bt224.1, bt224.2.1, bt224.2.2)))))))) = some (r1, r2, r3) := H
        have A34 := Aside0.mk A340
        clear A340
        replace H := Option.bind_eq_some_iff.mp H
        obtain ⟨t219, A350, H⟩ := H
        replace H : ((round_between.f kj6 t218 t216 t208).bind fun t220 => ((round_Mode_up.f a2 t202 t219 t220).bind fun t221 => ((round_step.f kj6 t217 t221).bind fun t222 => ((num_Times.f kj6 t222 t208).bind fun t223 => ((dec_Made.f kj6 t202 t223 t207).bind fun bt224 => (some (bt224.1, bt224.2.1, bt224.2.2))))))) = some (r1, r2, r3) := H
        have A35 := Aside0.mk A350
        clear A350
        replace H := Option.bind_eq_some_iff.mp H
        obtain ⟨t220, A360, H⟩ := H
        replace H : ((round_Mode_up.f a2 t202 t219 t220).bind fun t221 => ((round_step.f kj6 t217 t221).bind fun t222 => ((num_Times.f kj6 t222 t208).bind fun t223 => ((dec_Made.f kj6 t202 t223 t207).bind fun bt224 => (some (bt224.1, bt224.2.1, bt224.2.2)))))) = some (r1, r2, r3) := H
        have A36 := Aside0.mk A360
        clear A360
        replace H := Option.bind_eq_some_iff.mp H
        obtain ⟨t221, A370, H⟩ := H
        replace H : ((round_step.f kj6 t217 t221).bind fun t222 => ((num_Times.f kj6 t222 t208).bind fun t223 => ((dec_Made.f kj6 t202 t223 t207).bind fun bt224 => (some (bt224.1, bt224.2.1, bt224.2.2))))) = some (r1, r2, r3) := H
        have A37 := Aside0.mk A370
        clear A370
        replace H := Option.bind_eq_some_iff.mp H
        obtain ⟨t222, A380, H⟩ := H
        replace H : ((num_Times.f kj6 t222 t208).bind fun t223 => ((dec_Made.f kj6 t202 t223 t207).bind fun bt224 => (some (bt224.1, bt224.2.1, bt224.2.2)))) = some (r1, r2, r3) := H
        have A38 := Aside0.mk A380
        clear A380
        replace H := Option.bind_eq_some_iff.mp H
        obtain ⟨t223, A390, H⟩ := H
        replace H : ((dec_Made.f kj6 t202 t223 t207).bind fun bt224 => (some (bt224.1, bt224.2.1, bt224.2.2))) = some (r1, r2, r3) := H
        have A39 := Aside0.mk A390
        clear A390
        replace H := Option.bind_eq_some_iff.mp H
        obtain ⟨⟨t224, t225, t226⟩, A400, H⟩ := H
        replace H : (some (t224, t225, t226)) = some (r1, r2, r3) := H
        have A40 := Aside0.mk A400
        clear A400
        simp only [Option.some.injEq, Prod.mk.injEq] at H
        obtain ⟨rfl, rfl, rfl⟩ := H
        have hnb41 := NB199_200.out
        have hnc41 := NB200_199.out
        have hnb42 := NB199_201.out
        have hnc42 := NB201_199.out
        obtain ⟨hcz43_0, hcz43_1, hcz43_2, hfz43_0, hfz43_1, hfz43_2⟩ := bo3_ BK199
        have hnb44 := NB200_201.out
        have hnc44 := NB201_200.out
        obtain ⟨hcz45_0, hcz45_1, hcz45_2, hfz45_0, hfz45_1, hfz45_2⟩ := bo3_ BK200
        try go_wp2_with (first | ((with_reducible refine gate_callee (f := 16) rfl ?_); refine gl_ (some 38) Tryz.func16 #[.bool false, .string t203, .int .i64 (wrap64 (t204 - t207))] ?_; (with_reducible refine (dec_Made.calls kj6 false t203 (wrap64 (t204 - t207)) t211 t212 t213 _ A32.out).mono ?_); rintro e w46 ⟨rfl, hb⟩; refine ⟨_, rfl, ?_⟩; replace BK199 := bb_ BK199 hb; replace BK200 := bb_ BK200 hb; replace BK201 := bb_ BK201 hb; replace HB := Aside0.mk (below_step (bl_ HB).out hb); (try clear hb); (try clear hb2); (try clear hk); (try clear hi)) | ((with_reducible refine gate_dst (N := 9) rfl ?_); refine be_ 9 #[.bool false, .string (⟨#[]⟩ : ByteArray), .int .i64 0] 31 ?_; intro gb214 hg w47 hbox hb; have BK214 := Aside0.mk (hbox); have GW214 := sz_ HB hg; have GE214 := sz_ HB hg; have NB199_214 := na_ BK199 hg; have NB214_199 := nb_ BK199 hg; have NB200_214 := na_ BK200 hg; have NB214_200 := nb_ BK200 hg; have NB201_214 := na_ BK201 hg; have NB214_201 := nb_ BK201 hg; replace BK199 := bb_ BK199 hb; replace BK200 := bb_ BK200 hb; replace BK201 := bb_ BK201 hb; replace HB := Aside0.mk (below_step (bl_ HB).out hb); clear hb hbox hg; have hnb48 := NB214_199.out; have hnc48 := NB199_214.out; have hnb49 := NB214_200.out; have hnc49 := NB200_214.out; have hnb50 := NB214_201.out; have hnc50 := NB201_214.out; obtain ⟨hcz51_0, hcz51_1, hcz51_2, hfz51_0, hfz51_1, hfz51_2⟩ := bo3_ BK214) | ((with_reducible refine gate_callee (f := 21) rfl ?_); refine gl_ (some 41) Tryz.func21 #[.agg #[.bool t211, .string t212, .int .i64 t213]] ?_; (with_reducible refine (dec_Dec_Parts.calls kj6 t211 t212 t213 t215 t216 _ A33.out).mono ?_); rintro e w52 ⟨rfl, hb⟩; refine ⟨_, rfl, ?_⟩; have n0_ := Aside0.mk (blk_below (g := gb199) (o := .cells #[.bool t202, .string t203, .int .i64 t204] 31 (0, 0)) (by (with_reducible repeat (first | refine blk_drewN ?_ _ | refine blk_drew ?_ | refine blk_alloc ?_ _)); refine blk_far ?_ NB199_214.out _; (with_reducible repeat (first | refine blk_drewN ?_ _ | refine blk_drew ?_ | refine blk_alloc ?_ _)); refine blk_far ?_ NB199_214.out _; (with_reducible repeat (first | refine blk_drewN ?_ _ | refine blk_drew ?_ | refine blk_alloc ?_ _)); refine blk_far ?_ NB199_214.out _; (with_reducible repeat (first | refine blk_drewN ?_ _ | refine blk_drew ?_ | refine blk_alloc ?_ _)); exact BK199.out) hb); have n1_ := Aside0.mk (blk_below (g := gb200) (o := .cells #[.bool t205, .string t206, .int .i64 t207] 31 (0, 0)) (by (with_reducible repeat (first | refine blk_drewN ?_ _ | refine blk_drew ?_ | refine blk_alloc ?_ _)); refine blk_far ?_ NB200_214.out _; (with_reducible repeat (first | refine blk_drewN ?_ _ | refine blk_drew ?_ | refine blk_alloc ?_ _)); refine blk_far ?_ NB200_214.out _; (with_reducible repeat (first | refine blk_drewN ?_ _ | refine blk_drew ?_ | refine blk_alloc ?_ _)); refine blk_far ?_ NB200_214.out _; (with_reducible repeat (first | refine blk_drewN ?_ _ | refine blk_drew ?_ | refine blk_alloc ?_ _)); exact BK200.out) hb); have n2_ := Aside0.mk (blk_below (g := gb201) (o := .cells #[.bool false, .string (⟨#[]⟩ : ByteArray), .int .i64 0] 31 (0, 0)) (by (with_reducible repeat (first | refine blk_drewN ?_ _ | refine blk_drew ?_ | refine blk_alloc ?_ _)); refine blk_far ?_ NB201_214.out _; (with_reducible repeat (first | refine blk_drewN ?_ _ | refine blk_drew ?_ | refine blk_alloc ?_ _)); refine blk_far ?_ NB201_214.out _; (with_reducible repeat (first | refine blk_drewN ?_ _ | refine blk_drew ?_ | refine blk_alloc ?_ _)); refine blk_far ?_ NB201_214.out _; (with_reducible repeat (first | refine blk_drewN ?_ _ | refine blk_drew ?_ | refine blk_alloc ?_ _)); exact BK201.out) hb); have n3_ := Aside0.mk (blk_below (g := gb214) (o := .cells #[.bool t211, .string t212, .int .i64 t213] 31 (0, 0)) (by (with_reducible repeat (first | refine blk_drewN ?_ _ | refine blk_drew ?_ | refine blk_alloc ?_ _)); refine blk_put (cs := #[.bool t211, .string t212, .int .i64 0]) ?_ 2 _ rfl; (with_reducible repeat (first | refine blk_drewN ?_ _ | refine blk_drew ?_ | refine blk_alloc ?_ _)); refine blk_put (cs := #[.bool t211, .string (⟨#[]⟩ : ByteArray), .int .i64 0]) ?_ 1 _ rfl; (with_reducible repeat (first | refine blk_drewN ?_ _ | refine blk_drew ?_ | refine blk_alloc ?_ _)); refine blk_put (cs := #[.bool false, .string (⟨#[]⟩ : ByteArray), .int .i64 0]) ?_ 0 _ rfl; (with_reducible repeat (first | refine blk_drewN ?_ _ | refine blk_drew ?_ | refine blk_alloc ?_ _)); exact BK214.out) hb); have n4_ := Aside0.mk (below_step (bl_ HB).out hb); clear BK199; clear BK200; clear BK201; clear BK214; clear HB; have BK199 := n0_; have BK200 := n1_; have BK201 := n2_; have BK214 := n3_; have HB := n4_; clear n0_ n1_ n2_ n3_ n4_; (try clear hb); (try clear hb2); (try clear hk); (try clear hi)) | ((with_reducible refine gate_callee (f := 50) rfl ?_); refine gl_ (some 47) Tryz.func50 #[.string t215, .int .i64 t208] ?_; (with_reducible refine (num_Div.calls kj6 t215 t208 t217 t218 _ A34.out).mono ?_); rintro e w53 ⟨rfl, hb⟩; refine ⟨_, rfl, ?_⟩; replace BK199 := bb_ BK199 hb; replace BK200 := bb_ BK200 hb; replace BK201 := bb_ BK201 hb; replace BK214 := bb_ BK214 hb; replace HB := Aside0.mk (below_step (bl_ HB).out hb); (try clear hb); (try clear hb2); (try clear hk); (try clear hi)))
        replace BK199 := Aside0.mk (blk_drew BK199.out)
        replace BK200 := Aside0.mk (blk_drew BK200.out)
        replace BK201 := Aside0.mk (blk_drew BK201.out)
        replace BK214 := Aside0.mk (blk_drew BK214.out)
        replace HB := Aside0.mk (below_drew1 HB.out)
        refine start_ (n := 13) (S := fun w' => w'.cell? ⟨gb199, 0, none⟩ = some (.bool t202) ∧ w'.cell? ⟨gb199, 1, none⟩ = some (.string t203) ∧ w'.cell? ⟨gb199, 2, none⟩ = some (.int .i64 t204)) (ds := []) #[false, false, false, false, false, false, false, false, false, false, false, false, false] (by kernel_rfl) rfl rfl ⟨bc_ BK199 0, bc_ BK199 1, bc_ BK199 2⟩ (fun hHeld => ?_); refine with_tabW round_Step.tab8 round_Step.bits8 (fun HT_ HW_ => ?_)
        generalize w53.drew = w54 at BK199 BK200 BK201 BK214 HB hHeld ⊢
        refine pu_ 0 50 (bm_ 13 1) HT_ ?_
        refine pu_ 1 51 (bm_ 13 3) HT_ ?_
        refine pu_ 2 52 (bm_ 13 7) HT_ ?_
        refine pu_ 4 54 (bm_ 13 23) HT_ ?_
        refine pu_ 6 56 (bm_ 13 87) HT_ ?_
        refine pu_ 7 57 (bm_ 13 215) HT_ ?_
        refine pu_ 8 58 (bm_ 13 471) HT_ ?_
        refine tk_ 3 53 (bm_ 13 479) HT_ HW_ hHeld rfl (by rintro w' ⟨s0, s1, s2⟩; go_simp; with_reducible rfl) ?_
        refine one_ (i := 5) (N := some 55) (bm_ 13 511) rfl rfl (one_of HT_.out (by kernel_rfl)) (by decide) (fun K hK => ?_)
        refine gs_ Tryz.func47 #[.string t217] ?_
        with_reducible refine (round_odd.calls t217 t219 _ A35.out).mono ?_
        rintro e w' ⟨rfl, ⟨nd, rfl⟩⟩
        refine ⟨_, rfl, ?_⟩
        refine hK.out _ _ ⟨bc_ BK199 0, bc_ BK199 1, bc_ BK199 2⟩ (fun hHeld => ?_)
        clear hK K
        refine nm_ 55 ?_
        refine one_ (i := 9) (N := some 59) (bm_ 13 1023) rfl rfl (one_of HT_.out (by kernel_rfl)) (by decide) (fun K hK => ?_)
        refine gs_ Tryz.func51 #[.int .i64 t218, .string t216, .int .i64 t208] ?_
        with_reducible refine (round_between.calls kj6 t218 t216 t208 t220 _ A36.out).mono ?_
        rintro e w' ⟨rfl, ⟨nd, rfl⟩⟩
        refine ⟨_, rfl, ?_⟩
        refine hK.out _ _ ⟨bc_ BK199 0, bc_ BK199 1, bc_ BK199 2⟩ (fun hHeld => ?_)
        clear hK K
        refine nm_ 59 ?_
        refine one_ (i := 10) (N := some 60) (bm_ 13 2047) rfl rfl (one_of HT_.out (by kernel_rfl)) (by decide) (fun K hK => ?_)
        refine gs_ Tryz.func46 #[.int .i64 a2, .bool t202, .bool t219, .int .i64 t220] ?_
        with_reducible refine (round_Mode_up.calls a2 t202 t219 t220 t221 _ A37.out).mono ?_
        rintro e w' ⟨rfl, ⟨nd, rfl⟩⟩
        refine ⟨_, rfl, ?_⟩
        refine hK.out _ _ ⟨bc_ BK199 0, bc_ BK199 1, bc_ BK199 2⟩ (fun hHeld => ?_)
        clear hK K
        refine nm_ 60 ?_
        refine one_ (i := 11) (N := some 61) (bm_ 13 4095) rfl rfl (one_of HT_.out (by kernel_rfl)) (by decide) (fun K hK => ?_)
        refine gs_ Tryz.func45 #[.string t217, .bool t221] ?_
        with_reducible refine (round_step.calls kj6 t217 t221 t222 _ A38.out).mono ?_
        rintro e w55 ⟨rfl, hb⟩
        refine ⟨_, rfl, ?_⟩
        replace BK199 := bb_ BK199 hb
        replace BK200 := bb_ BK200 hb
        replace BK201 := bb_ BK201 hb
        replace BK214 := bb_ BK214 hb
        replace HB := Aside0.mk (below_step (bl_ HB).out hb)
        (try clear hb)
        (try clear hb2)
        (try clear hk)
        (try clear hi)
        refine hK.out _ _ ⟨bc_ BK199 0, bc_ BK199 1, bc_ BK199 2⟩ (fun hHeld => ?_)
        clear hK K
        refine nm_ 61 ?_
        refine pu_ 12 12 (bm_ 13 8191) HT_ ?_
        refine done_ (done_of HT_.out (by kernel_rfl)) ?_
        try go_wp2
        replace BK199 := Aside0.mk (blk_drew BK199.out)
        replace BK200 := Aside0.mk (blk_drew BK200.out)
        replace BK201 := Aside0.mk (blk_drew BK201.out)
        replace BK214 := Aside0.mk (blk_drew BK214.out)
        replace HB := Aside0.mk (below_drew1 HB.out)
        refine start_ (n := 9) (S := fun w' => w'.cell? ⟨gb199, 0, none⟩ = some (.bool t202) ∧ w'.cell? ⟨gb199, 1, none⟩ = some (.string t203) ∧ w'.cell? ⟨gb199, 2, none⟩ = some (.int .i64 t204) ∧ w'.cell? ⟨gb200, 0, none⟩ = some (.bool t205) ∧ w'.cell? ⟨gb200, 1, none⟩ = some (.string t206) ∧ w'.cell? ⟨gb200, 2, none⟩ = some (.int .i64 t207)) (ds := []) #[false, false, false, false, false, false, false, false, false] (by kernel_rfl) rfl rfl ⟨bc_ BK199 0, bc_ BK199 1, bc_ BK199 2, bc_ BK200 0, bc_ BK200 1, bc_ BK200 2⟩ (fun hHeld => ?_); refine with_tabW round_Step.tab9 round_Step.bits9 (fun HT_ HW_ => ?_)
        generalize w55.drew = w56 at BK199 BK200 BK201 BK214 HB hHeld ⊢
        refine pu_ 0 62 #[true, false, false, false, false, false, false, false, false] HT_ ?_
        refine pu_ 2 64 #[true, false, true, false, false, false, false, false, false] HT_ ?_
        refine pu_ 3 65 #[true, false, true, true, false, false, false, false, false] HT_ ?_
        refine pu_ 5 67 #[true, false, true, true, false, true, false, false, false] HT_ ?_
        refine tk_ 1 63 #[true, true, true, true, false, true, false, false, false] HT_ HW_ hHeld rfl (by rintro w' ⟨s0, s1, s2, s3, s4, s5⟩; go_simp; with_reducible rfl) ?_
        refine tk_ 6 68 #[true, true, true, true, false, true, true, false, false] HT_ HW_ hHeld rfl (by rintro w' ⟨s0, s1, s2, s3, s4, s5⟩; go_simp; with_reducible rfl) ?_
        refine one_ (i := 4) (N := some 66) #[true, true, true, true, true, true, true, false, false] rfl rfl (one_of HT_.out (by kernel_rfl)) (by decide) (fun K hK => ?_)
        refine gs_ Tryz.func52 #[.string t222, .int .i64 t208] ?_
        with_reducible refine (num_Times.calls kj6 t222 t208 t223 _ A39.out).mono ?_
        rintro e w57 ⟨rfl, hb⟩
        refine ⟨_, rfl, ?_⟩
        replace BK199 := bb_ BK199 hb
        replace BK200 := bb_ BK200 hb
        replace BK201 := bb_ BK201 hb
        replace BK214 := bb_ BK214 hb
        replace HB := Aside0.mk (below_step (bl_ HB).out hb)
        (try clear hb)
        (try clear hb2)
        (try clear hk)
        (try clear hi)
        refine hK.out _ _ ⟨bc_ BK199 0, bc_ BK199 1, bc_ BK199 2, bc_ BK200 0, bc_ BK200 1, bc_ BK200 2⟩ (fun hHeld => ?_)
        clear hK K
        refine nm_ 66 ?_
        refine one_ (i := 7) (N := some 69) #[true, true, true, true, true, true, true, true, false] rfl rfl (one_of HT_.out (by kernel_rfl)) (by decide) (fun K hK => ?_)
        refine gs_ Tryz.func16 #[.bool t202, .string t223, .int .i64 t207] ?_
        with_reducible refine (dec_Made.calls kj6 t202 t223 t207 t224 t225 t226 _ A40.out).mono ?_
        rintro e w58 ⟨rfl, hb⟩
        refine ⟨_, rfl, ?_⟩
        replace BK199 := bb_ BK199 hb
        replace BK200 := bb_ BK200 hb
        replace BK201 := bb_ BK201 hb
        replace BK214 := bb_ BK214 hb
        replace HB := Aside0.mk (below_step (bl_ HB).out hb)
        (try clear hb)
        (try clear hb2)
        (try clear hk)
        (try clear hi)
        refine hK.out _ _ ⟨bc_ BK199 0, bc_ BK199 1, bc_ BK199 2, bc_ BK200 0, bc_ BK200 1, bc_ BK200 2⟩ (fun hHeld => ?_)
        clear hK K
        refine nm_ 69 ?_
        refine one_ (i := 8) (N := none) #[true, true, true, true, true, true, true, true, true] rfl rfl (one_of HT_.out (by kernel_rfl)) (by decide) (fun K hK => ?_)
        have hs59 : w58.cell? ⟨gb201, 0, none⟩ = some (.bool false) := bc_ BK201 0
        have hfs59 := blk_frozen BK201.out 0
        have hns59_0 := NB199_201.out
        have hns59_1 := NB200_201.out
        have hns59_3 := NB214_201.out
        have hms59_0 := NB201_199.out
        have hms59_1 := NB201_200.out
        have hms59_3 := NB201_214.out
        have hs60 : w58.cell? ⟨gb201, 1, none⟩ = some (.string (⟨#[]⟩ : ByteArray)) := bc_ BK201 1
        have hfs60 := blk_frozen BK201.out 1
        have hns60_0 := NB199_201.out
        have hns60_1 := NB200_201.out
        have hns60_3 := NB214_201.out
        have hms60_0 := NB201_199.out
        have hms60_1 := NB201_200.out
        have hms60_3 := NB201_214.out
        have hs61 : w58.cell? ⟨gb201, 2, none⟩ = some (.int .i64 0) := bc_ BK201 2
        have hfs61 := blk_frozen BK201.out 2
        have hns61_0 := NB199_201.out
        have hns61_1 := NB200_201.out
        have hns61_3 := NB214_201.out
        have hms61_0 := NB201_199.out
        have hms61_1 := NB201_200.out
        have hms61_3 := NB201_214.out
        refine skip_ (w1 := ?_) (by rfl) rfl ?_ ?_
        rotate_left
        · go_simp
          rfl
        refine hK.out _ _ ⟨((cell_far (p := ⟨gb201, _, none⟩) NB199_201.out _).trans (((cell_far (p := ⟨gb201, _, none⟩) NB199_201.out _).trans (((cell_far (p := ⟨gb201, _, none⟩) NB199_201.out _).trans (hHeld.1)))))), ((cell_far (p := ⟨gb201, _, none⟩) NB199_201.out _).trans (((cell_far (p := ⟨gb201, _, none⟩) NB199_201.out _).trans (((cell_far (p := ⟨gb201, _, none⟩) NB199_201.out _).trans (hHeld.2.1)))))), ((cell_far (p := ⟨gb201, _, none⟩) NB199_201.out _).trans (((cell_far (p := ⟨gb201, _, none⟩) NB199_201.out _).trans (((cell_far (p := ⟨gb201, _, none⟩) NB199_201.out _).trans (hHeld.2.2.1)))))), ((cell_far (p := ⟨gb201, _, none⟩) NB200_201.out _).trans (((cell_far (p := ⟨gb201, _, none⟩) NB200_201.out _).trans (((cell_far (p := ⟨gb201, _, none⟩) NB200_201.out _).trans (hHeld.2.2.2.1)))))), ((cell_far (p := ⟨gb201, _, none⟩) NB200_201.out _).trans (((cell_far (p := ⟨gb201, _, none⟩) NB200_201.out _).trans (((cell_far (p := ⟨gb201, _, none⟩) NB200_201.out _).trans (hHeld.2.2.2.2.1)))))), ((cell_far (p := ⟨gb201, _, none⟩) NB200_201.out _).trans (((cell_far (p := ⟨gb201, _, none⟩) NB200_201.out _).trans (((cell_far (p := ⟨gb201, _, none⟩) NB200_201.out _).trans (hHeld.2.2.2.2.2))))))⟩ (fun hHeld => ?_)
        clear hK K
        refine done_ (done_of HT_.out (by kernel_rfl)) ?_
        try go_wp2
        refine bodyPost_ret (results_cell_row rfl _ _ gb201 31 #[.bool t224, .string t225, .int .i64 t226] (0, 0) _ rfl (by (with_reducible repeat (first | refine blk_drewN ?_ _ | refine blk_drew ?_ | refine blk_alloc ?_ _)); refine blk_put (cs := #[.bool t224, .string t225, .int .i64 0]) ?_ 2 _ rfl; (with_reducible repeat (first | refine blk_drewN ?_ _ | refine blk_drew ?_ | refine blk_alloc ?_ _)); refine blk_put (cs := #[.bool t224, .string (⟨#[]⟩ : ByteArray), .int .i64 0]) ?_ 1 _ rfl; (with_reducible repeat (first | refine blk_drewN ?_ _ | refine blk_drew ?_ | refine blk_alloc ?_ _)); refine blk_put (cs := #[.bool false, .string (⟨#[]⟩ : ByteArray), .int .i64 0]) ?_ 0 _ rfl; (with_reducible repeat (first | refine blk_drewN ?_ _ | refine blk_drew ?_ | refine blk_alloc ?_ _)); exact BK201.out) Tryz.underlying31 rfl (by kernel_rfl)) rfl ?_
        exact ⟨ew_, (bl_ HB).out⟩

/-! ### show_Prec_Round: function 12 -/
def show_Prec_Round.f (k : Nat) (a0_0 : Int) (a0_1 : Int) (a0_2 : Int) (a0_3 : Bool) (a0_4 : ByteArray) (a0_5 : Int) (a0_6 : Int) (a0_7 : Int) (a1_0 : Bool) (a1_1 : ByteArray) (a1_2 : Int) : Option (Bool × ByteArray × Int) := (show_Prec_Valid.f k a0_0 a0_1 a0_2 a0_3 a0_4 a0_5 a0_6 a0_7).bind fun t230 => (if t230 = true then (if a0_0 = 0 then ((round_At.f k a1_0 a1_1 a1_2 (wrap64 (-a0_2)) a0_6).bind fun bt231 => (some (bt231.1, bt231.2.1, bt231.2.2))) else (if a0_0 = 1 then ((round_Sig.f k a1_0 a1_1 a1_2 a0_2 a0_6).bind fun bt234 => (some (bt234.1, bt234.2.1, bt234.2.2))) else ((round_Step.f k a1_0 a1_1 a1_2 a0_3 a0_4 a0_5 a0_6).bind fun bt237 => (some (bt237.1, bt237.2.1, bt237.2.2))))) else (some (false, (⟨#[]⟩ : ByteArray), 0)))
theorem show_Prec_Round.mono : ∀ a0 a1 a2 a3 a4 a5 a6 a7 a8 a9 a10 k, LeO (show_Prec_Round.f k a0 a1 a2 a3 a4 a5 a6 a7 a8 a9 a10) (show_Prec_Round.f (k + 1) a0 a1 a2 a3 a4 a5 a6 a7 a8 a9 a10) := by
  intro a0 a1 a2 a3 a4 a5 a6 a7 a8 a9 a10 k
  unfold show_Prec_Round.f
  repeat' first
      | (with_reducible exact round_At.mono _ _ _ _ _ _)
      | (with_reducible exact round_Sig.mono _ _ _ _ _ _)
      | (with_reducible exact round_Step.mono _ _ _ _ _ _ _ _)
      | (with_reducible exact show_Prec_Valid.mono _ _ _ _ _ _ _ _ _)
      | (with_reducible exact LeO.refl _)
      | (with_reducible exact LeO.none _)
      | (with_reducible refine LeO.ite ?_ ?_)
      | (with_reducible refine LeO.bind ?_ (fun _ => ?_))
      | exact round_At.mono _ _ _ _ _ _
      | exact round_Sig.mono _ _ _ _ _ _
      | exact round_Step.mono _ _ _ _ _ _ _ _
      | exact show_Prec_Valid.mono _ _ _ _ _ _ _ _ _
      | exact LeO.none _
      | refine LeO.ite ?_ ?_
      | refine LeO.bind ?_ (fun _ => ?_)
set_option maxHeartbeats 8000000 in
set_option maxRecDepth 100000 in
theorem show_Prec_Round.calls (k : Nat) (a0_0 : Int) (a0_1 : Int) (a0_2 : Int) (a0_3 : Bool) (a0_4 : ByteArray) (a0_5 : Int) (a0_6 : Int) (a0_7 : Int) (a1_0 : Bool) (a1_1 : ByteArray) (a1_2 : Int) (r1 : Bool) (r2 : ByteArray) (r3 : Int) (w : World) (h : show_Prec_Round.f k a0_0 a0_1 a0_2 a0_3 a0_4 a0_5 a0_6 a0_7 a1_0 a1_1 a1_2 = some (r1, r2, r3)) :
    Calls Tryz.prog 12 #[.agg #[.int .i64 a0_0, .int .i64 a0_1, .int .i64 a0_2, .bool a0_3, .string a0_4, .int .i64 a0_5, .int .i64 a0_6, .int .i64 a0_7], .agg #[.bool a1_0, .string a1_1, .int .i64 a1_2]] w fun e w' => e = .returned (.agg #[.bool r1, .string r2, .int .i64 r3]) ∧ Below w.heap.size w w' := by
  have hu34 := Tryz.underlying34
  have hu31 := Tryz.underlying31
  have HB := Aside0.mk (Below.refl w.heap.size w)
  have H : ((show_Prec_Valid.f k a0_0 a0_1 a0_2 a0_3 a0_4 a0_5 a0_6 a0_7).bind fun t230 => (if t230 = true then (if a0_0 = 0 then ((round_At.f k a1_0 a1_1 a1_2 (wrap64 (-a0_2)) a0_6).bind fun bt231 => (some (bt231.1, bt231.2.1, bt231.2.2))) else (if a0_0 = 1 then ((round_Sig.f k a1_0 a1_1 a1_2 a0_2 a0_6).bind fun bt234 => (some (bt234.1, bt234.2.1, bt234.2.2))) else ((round_Step.f k a1_0 a1_1 a1_2 a0_3 a0_4 a0_5 a0_6).bind fun bt237 => (some (bt237.1, bt237.2.1, bt237.2.2))))) else (some (false, (⟨#[]⟩ : ByteArray), 0)))) = some (r1, r2, r3) := h
  clear h
  replace H := Option.bind_eq_some_iff.mp H
  obtain ⟨t230, A30, H⟩ := H
  replace H : (if t230 = true then (if a0_0 = 0 then ((round_At.f k a1_0 a1_1 a1_2 (wrap64 (-a0_2)) a0_6).bind fun bt231 => (some (bt231.1, bt231.2.1, bt231.2.2))) else (if a0_0 = 1 then ((round_Sig.f k a1_0 a1_1 a1_2 a0_2 a0_6).bind fun bt234 => (some (bt234.1, bt234.2.1, bt234.2.2))) else ((round_Step.f k a1_0 a1_1 a1_2 a0_3 a0_4 a0_5 a0_6).bind fun bt237 => (some (bt237.1, bt237.2.1, bt237.2.2))))) else (some (false, (⟨#[]⟩ : ByteArray), 0))) = some (r1, r2, r3) := H
  have A3 := Aside0.mk A30
  clear A30
  by_cases c4 : t230 = true
  · subst c4
    have H1 : (if a0_0 = 0 then ((round_At.f k a1_0 a1_1 a1_2 (wrap64 (-a0_2)) a0_6).bind fun bt231 => (some (bt231.1, bt231.2.1, bt231.2.2))) else (if a0_0 = 1 then ((round_Sig.f k a1_0 a1_1 a1_2 a0_2 a0_6).bind fun bt234 => (some (bt234.1, bt234.2.1, bt234.2.2))) else ((round_Step.f k a1_0 a1_1 a1_2 a0_3 a0_4 a0_5 a0_6).bind fun bt237 => (some (bt237.1, bt237.2.1, bt237.2.2))))) = some (r1, r2, r3) := by rw [if_pos rfl] at H; exact H
    clear H
    have H := H1
    clear H1
    by_cases c5 : a0_0 = 0
    · rw [if_pos c5] at H
      have c5b0 : (a0_0 == 0) = true := beq_iff_eq.mpr c5
      have c5b1 : (a0_0 != 0) = false := bne_eq_false_iff_eq.mpr c5
      clear c5
      replace H := Option.bind_eq_some_iff.mp H
      obtain ⟨⟨t231, t232, t233⟩, A60, H⟩ := H
      replace H : (some (t231, t232, t233)) = some (r1, r2, r3) := H
      have A6 := Aside0.mk A60
      clear A60
      simp only [Option.some.injEq, Prod.mk.injEq] at H
      obtain ⟨rfl, rfl, rfl⟩ := H
      go_enter Tryz.func12, Tryz.ntmps12
      go_wp2_with (first | ((with_reducible refine gate_dst (N := 2) rfl ?_); refine be_ 2 #[.int .i64 a0_0, .int .i64 a0_1, .int .i64 a0_2, .bool a0_3, .string a0_4, .int .i64 a0_5, .int .i64 a0_6, .int .i64 a0_7] 34 ?_; intro gb227 hg w7 hbox hb; have BK227 := Aside0.mk (hbox); have GW227 := sz_ HB hg; have GE227 := sz_ HB hg; replace HB := Aside0.mk (below_step (bl_ HB).out hb); clear hb hbox hg) | ((with_reducible refine gate_dst (N := 3) rfl ?_); refine be_ 3 #[.bool a1_0, .string a1_1, .int .i64 a1_2] 31 ?_; intro gb228 hg w8 hbox hb; have BK228 := Aside0.mk (hbox); have GW228 := sz_ HB hg; have GE228 := sz_ HB hg; have NB227_228 := na_ BK227 hg; have NB228_227 := nb_ BK227 hg; replace BK227 := bb_ BK227 hb; replace HB := Aside0.mk (below_step (bl_ HB).out hb); clear hb hbox hg) | ((with_reducible refine gate_dst (N := 4) rfl ?_); refine be_ 4 #[.bool false, .string (⟨#[]⟩ : ByteArray), .int .i64 0] 31 ?_; intro gb229 hg w9 hbox hb; have BK229 := Aside0.mk (hbox); have GW229 := sz_ HB hg; have GE229 := sz_ HB hg; have NB227_229 := na_ BK227 hg; have NB229_227 := nb_ BK227 hg; have NB228_229 := na_ BK228 hg; have NB229_228 := nb_ BK228 hg; replace BK227 := bb_ BK227 hb; replace BK228 := bb_ BK228 hb; replace HB := Aside0.mk (below_step (bl_ HB).out hb); clear hb hbox hg; have hnb10 := NB227_228.out; have hnc10 := NB228_227.out; have hnb11 := NB227_229.out; have hnc11 := NB229_227.out; obtain ⟨hcz12_0, hcz12_1, hcz12_2, hcz12_3, hcz12_4, hcz12_5, hcz12_6, hcz12_7, hfz12_0, hfz12_1, hfz12_2, hfz12_3, hfz12_4, hfz12_5, hfz12_6, hfz12_7⟩ := bo8_ BK227) | ((with_reducible refine gate_callee (f := 10) rfl ?_); refine gl_ (some 6) Tryz.func10 #[.agg #[.int .i64 a0_0, .int .i64 a0_1, .int .i64 a0_2, .bool a0_3, .string a0_4, .int .i64 a0_5, .int .i64 a0_6, .int .i64 a0_7]] ?_; (with_reducible refine (show_Prec_Valid.calls k a0_0 a0_1 a0_2 a0_3 a0_4 a0_5 a0_6 a0_7 true _ A3.out).mono ?_); rintro e w13 ⟨rfl, hb⟩; refine ⟨_, rfl, ?_⟩; replace BK227 := bb_ BK227 hb; replace BK228 := bb_ BK228 hb; replace BK229 := bb_ BK229 hb; replace HB := Aside0.mk (below_step (bl_ HB).out hb); (try clear hb); (try clear hb2); (try clear hk); (try clear hi); obtain ⟨hcz14_0, hcz14_1, hcz14_2, hcz14_3, hcz14_4, hcz14_5, hcz14_6, hcz14_7, hfz14_0, hfz14_1, hfz14_2, hfz14_3, hfz14_4, hfz14_5, hfz14_6, hfz14_7⟩ := bo8_ BK227; have hnb15 := NB228_229.out; have hnc15 := NB229_228.out; obtain ⟨hcz16_0, hcz16_1, hcz16_2, hfz16_0, hfz16_1, hfz16_2⟩ := bo3_ BK228) | ((with_reducible refine gate_callee (f := 27) rfl ?_); refine gl_ (some 19) Tryz.func27 #[.agg #[.bool a1_0, .string a1_1, .int .i64 a1_2], .int .i64 (wrap64 (-a0_2)), .int .i64 a0_6] ?_; (with_reducible refine (round_At.calls k a1_0 a1_1 a1_2 (wrap64 (-a0_2)) a0_6 t231 t232 t233 _ A6.out).mono ?_); rintro e w17 ⟨rfl, hb⟩; refine ⟨_, rfl, ?_⟩; replace BK227 := bb_ BK227 hb; replace BK228 := bb_ BK228 hb; replace BK229 := bb_ BK229 hb; replace HB := Aside0.mk (below_step (bl_ HB).out hb); (try clear hb); (try clear hb2); (try clear hk); (try clear hi); obtain ⟨hcz18_0, hcz18_1, hcz18_2, hfz18_0, hfz18_1, hfz18_2⟩ := bo3_ BK229))
      refine bodyPost_ret (results_cell_row rfl _ _ gb229 31 #[.bool t231, .string t232, .int .i64 t233] (0, 0) _ rfl (by (with_reducible repeat (first | refine blk_drewN ?_ _ | refine blk_drew ?_ | refine blk_alloc ?_ _)); refine blk_put (cs := #[.bool t231, .string t232, .int .i64 0]) ?_ 2 _ rfl; (with_reducible repeat (first | refine blk_drewN ?_ _ | refine blk_drew ?_ | refine blk_alloc ?_ _)); refine blk_put (cs := #[.bool t231, .string (⟨#[]⟩ : ByteArray), .int .i64 0]) ?_ 1 _ rfl; (with_reducible repeat (first | refine blk_drewN ?_ _ | refine blk_drew ?_ | refine blk_alloc ?_ _)); refine blk_put (cs := #[.bool false, .string (⟨#[]⟩ : ByteArray), .int .i64 0]) ?_ 0 _ rfl; (with_reducible repeat (first | refine blk_drewN ?_ _ | refine blk_drew ?_ | refine blk_alloc ?_ _)); exact BK229.out) Tryz.underlying31 rfl (by kernel_rfl)) rfl ?_
      exact ⟨ew_, (bl_ HB).out⟩
    · rw [if_neg c5] at H
      have c5b0 : (a0_0 == 0) = false := beq_eq_false_iff_ne.mpr c5
      have c5b1 : (a0_0 != 0) = true := bne_iff_ne.mpr c5
      by_cases c19 : a0_0 = 1
      · rw [if_pos c19] at H
        have c19b0 : (a0_0 == 1) = true := beq_iff_eq.mpr c19
        have c19b1 : (a0_0 != 1) = false := bne_eq_false_iff_eq.mpr c19
        clear c19
        replace H := Option.bind_eq_some_iff.mp H
        obtain ⟨⟨t234, t235, t236⟩, A200, H⟩ := H
        replace H : (some (t234, t235, t236)) = some (r1, r2, r3) := H
        have A20 := Aside0.mk A200
        clear A200
        simp only [Option.some.injEq, Prod.mk.injEq] at H
        obtain ⟨rfl, rfl, rfl⟩ := H
        go_enter Tryz.func12, Tryz.ntmps12
        go_wp2_with (first | ((with_reducible refine gate_dst (N := 2) rfl ?_); refine be_ 2 #[.int .i64 a0_0, .int .i64 a0_1, .int .i64 a0_2, .bool a0_3, .string a0_4, .int .i64 a0_5, .int .i64 a0_6, .int .i64 a0_7] 34 ?_; intro gb227 hg w21 hbox hb; have BK227 := Aside0.mk (hbox); have GW227 := sz_ HB hg; have GE227 := sz_ HB hg; replace HB := Aside0.mk (below_step (bl_ HB).out hb); clear hb hbox hg) | ((with_reducible refine gate_dst (N := 3) rfl ?_); refine be_ 3 #[.bool a1_0, .string a1_1, .int .i64 a1_2] 31 ?_; intro gb228 hg w22 hbox hb; have BK228 := Aside0.mk (hbox); have GW228 := sz_ HB hg; have GE228 := sz_ HB hg; have NB227_228 := na_ BK227 hg; have NB228_227 := nb_ BK227 hg; replace BK227 := bb_ BK227 hb; replace HB := Aside0.mk (below_step (bl_ HB).out hb); clear hb hbox hg) | ((with_reducible refine gate_dst (N := 4) rfl ?_); refine be_ 4 #[.bool false, .string (⟨#[]⟩ : ByteArray), .int .i64 0] 31 ?_; intro gb229 hg w23 hbox hb; have BK229 := Aside0.mk (hbox); have GW229 := sz_ HB hg; have GE229 := sz_ HB hg; have NB227_229 := na_ BK227 hg; have NB229_227 := nb_ BK227 hg; have NB228_229 := na_ BK228 hg; have NB229_228 := nb_ BK228 hg; replace BK227 := bb_ BK227 hb; replace BK228 := bb_ BK228 hb; replace HB := Aside0.mk (below_step (bl_ HB).out hb); clear hb hbox hg; have hnb24 := NB227_228.out; have hnc24 := NB228_227.out; have hnb25 := NB227_229.out; have hnc25 := NB229_227.out; obtain ⟨hcz26_0, hcz26_1, hcz26_2, hcz26_3, hcz26_4, hcz26_5, hcz26_6, hcz26_7, hfz26_0, hfz26_1, hfz26_2, hfz26_3, hfz26_4, hfz26_5, hfz26_6, hfz26_7⟩ := bo8_ BK227) | ((with_reducible refine gate_callee (f := 10) rfl ?_); refine gl_ (some 6) Tryz.func10 #[.agg #[.int .i64 a0_0, .int .i64 a0_1, .int .i64 a0_2, .bool a0_3, .string a0_4, .int .i64 a0_5, .int .i64 a0_6, .int .i64 a0_7]] ?_; (with_reducible refine (show_Prec_Valid.calls k a0_0 a0_1 a0_2 a0_3 a0_4 a0_5 a0_6 a0_7 true _ A3.out).mono ?_); rintro e w27 ⟨rfl, hb⟩; refine ⟨_, rfl, ?_⟩; replace BK227 := bb_ BK227 hb; replace BK228 := bb_ BK228 hb; replace BK229 := bb_ BK229 hb; replace HB := Aside0.mk (below_step (bl_ HB).out hb); (try clear hb); (try clear hb2); (try clear hk); (try clear hi); obtain ⟨hcz28_0, hcz28_1, hcz28_2, hcz28_3, hcz28_4, hcz28_5, hcz28_6, hcz28_7, hfz28_0, hfz28_1, hfz28_2, hfz28_3, hfz28_4, hfz28_5, hfz28_6, hfz28_7⟩ := bo8_ BK227; have hnb29 := NB228_229.out; have hnc29 := NB229_228.out; obtain ⟨hcz30_0, hcz30_1, hcz30_2, hfz30_0, hfz30_1, hfz30_2⟩ := bo3_ BK228) | ((with_reducible refine gate_callee (f := 28) rfl ?_); refine gl_ (some 27) Tryz.func28 #[.agg #[.bool a1_0, .string a1_1, .int .i64 a1_2], .int .i64 a0_2, .int .i64 a0_6] ?_; (with_reducible refine (round_Sig.calls k a1_0 a1_1 a1_2 a0_2 a0_6 t234 t235 t236 _ A20.out).mono ?_); rintro e w31 ⟨rfl, hb⟩; refine ⟨_, rfl, ?_⟩; replace BK227 := bb_ BK227 hb; replace BK228 := bb_ BK228 hb; replace BK229 := bb_ BK229 hb; replace HB := Aside0.mk (below_step (bl_ HB).out hb); (try clear hb); (try clear hb2); (try clear hk); (try clear hi); obtain ⟨hcz32_0, hcz32_1, hcz32_2, hfz32_0, hfz32_1, hfz32_2⟩ := bo3_ BK229))
        refine bodyPost_ret (results_cell_row rfl _ _ gb229 31 #[.bool t234, .string t235, .int .i64 t236] (0, 0) _ rfl (by (with_reducible repeat (first | refine blk_drewN ?_ _ | refine blk_drew ?_ | refine blk_alloc ?_ _)); refine blk_put (cs := #[.bool t234, .string t235, .int .i64 0]) ?_ 2 _ rfl; (with_reducible repeat (first | refine blk_drewN ?_ _ | refine blk_drew ?_ | refine blk_alloc ?_ _)); refine blk_put (cs := #[.bool t234, .string (⟨#[]⟩ : ByteArray), .int .i64 0]) ?_ 1 _ rfl; (with_reducible repeat (first | refine blk_drewN ?_ _ | refine blk_drew ?_ | refine blk_alloc ?_ _)); refine blk_put (cs := #[.bool false, .string (⟨#[]⟩ : ByteArray), .int .i64 0]) ?_ 0 _ rfl; (with_reducible repeat (first | refine blk_drewN ?_ _ | refine blk_drew ?_ | refine blk_alloc ?_ _)); exact BK229.out) Tryz.underlying31 rfl (by kernel_rfl)) rfl ?_
        exact ⟨ew_, (bl_ HB).out⟩
      · rw [if_neg c19] at H
        have c19b0 : (a0_0 == 1) = false := beq_eq_false_iff_ne.mpr c19
        have c19b1 : (a0_0 != 1) = true := bne_iff_ne.mpr c19
        replace H := Option.bind_eq_some_iff.mp H
        obtain ⟨⟨t237, t238, t239⟩, A330, H⟩ := H
        replace H : (some (t237, t238, t239)) = some (r1, r2, r3) := H
        have A33 := Aside0.mk A330
        clear A330
        simp only [Option.some.injEq, Prod.mk.injEq] at H
        obtain ⟨rfl, rfl, rfl⟩ := H
        go_enter Tryz.func12, Tryz.ntmps12
        go_wp2_with (first | ((with_reducible refine gate_dst (N := 2) rfl ?_); refine be_ 2 #[.int .i64 a0_0, .int .i64 a0_1, .int .i64 a0_2, .bool a0_3, .string a0_4, .int .i64 a0_5, .int .i64 a0_6, .int .i64 a0_7] 34 ?_; intro gb227 hg w34 hbox hb; have BK227 := Aside0.mk (hbox); have GW227 := sz_ HB hg; have GE227 := sz_ HB hg; replace HB := Aside0.mk (below_step (bl_ HB).out hb); clear hb hbox hg) | ((with_reducible refine gate_dst (N := 3) rfl ?_); refine be_ 3 #[.bool a1_0, .string a1_1, .int .i64 a1_2] 31 ?_; intro gb228 hg w35 hbox hb; have BK228 := Aside0.mk (hbox); have GW228 := sz_ HB hg; have GE228 := sz_ HB hg; have NB227_228 := na_ BK227 hg; have NB228_227 := nb_ BK227 hg; replace BK227 := bb_ BK227 hb; replace HB := Aside0.mk (below_step (bl_ HB).out hb); clear hb hbox hg) | ((with_reducible refine gate_dst (N := 4) rfl ?_); refine be_ 4 #[.bool false, .string (⟨#[]⟩ : ByteArray), .int .i64 0] 31 ?_; intro gb229 hg w36 hbox hb; have BK229 := Aside0.mk (hbox); have GW229 := sz_ HB hg; have GE229 := sz_ HB hg; have NB227_229 := na_ BK227 hg; have NB229_227 := nb_ BK227 hg; have NB228_229 := na_ BK228 hg; have NB229_228 := nb_ BK228 hg; replace BK227 := bb_ BK227 hb; replace BK228 := bb_ BK228 hb; replace HB := Aside0.mk (below_step (bl_ HB).out hb); clear hb hbox hg; have hnb37 := NB227_228.out; have hnc37 := NB228_227.out; have hnb38 := NB227_229.out; have hnc38 := NB229_227.out; obtain ⟨hcz39_0, hcz39_1, hcz39_2, hcz39_3, hcz39_4, hcz39_5, hcz39_6, hcz39_7, hfz39_0, hfz39_1, hfz39_2, hfz39_3, hfz39_4, hfz39_5, hfz39_6, hfz39_7⟩ := bo8_ BK227) | ((with_reducible refine gate_callee (f := 10) rfl ?_); refine gl_ (some 6) Tryz.func10 #[.agg #[.int .i64 a0_0, .int .i64 a0_1, .int .i64 a0_2, .bool a0_3, .string a0_4, .int .i64 a0_5, .int .i64 a0_6, .int .i64 a0_7]] ?_; (with_reducible refine (show_Prec_Valid.calls k a0_0 a0_1 a0_2 a0_3 a0_4 a0_5 a0_6 a0_7 true _ A3.out).mono ?_); rintro e w40 ⟨rfl, hb⟩; refine ⟨_, rfl, ?_⟩; replace BK227 := bb_ BK227 hb; replace BK228 := bb_ BK228 hb; replace BK229 := bb_ BK229 hb; replace HB := Aside0.mk (below_step (bl_ HB).out hb); (try clear hb); (try clear hb2); (try clear hk); (try clear hi); obtain ⟨hcz41_0, hcz41_1, hcz41_2, hcz41_3, hcz41_4, hcz41_5, hcz41_6, hcz41_7, hfz41_0, hfz41_1, hfz41_2, hfz41_3, hfz41_4, hfz41_5, hfz41_6, hfz41_7⟩ := bo8_ BK227; have hnb42 := NB228_229.out; have hnc42 := NB229_228.out; obtain ⟨hcz43_0, hcz43_1, hcz43_2, hfz43_0, hfz43_1, hfz43_2⟩ := bo3_ BK228) | ((with_reducible refine gate_callee (f := 29) rfl ?_); refine gl_ (some 33) Tryz.func29 #[.agg #[.bool a1_0, .string a1_1, .int .i64 a1_2], .agg #[.bool a0_3, .string a0_4, .int .i64 a0_5], .int .i64 a0_6] ?_; (with_reducible refine (round_Step.calls k a1_0 a1_1 a1_2 a0_3 a0_4 a0_5 a0_6 t237 t238 t239 _ A33.out).mono ?_); rintro e w44 ⟨rfl, hb⟩; refine ⟨_, rfl, ?_⟩; replace BK227 := bb_ BK227 hb; replace BK228 := bb_ BK228 hb; replace BK229 := bb_ BK229 hb; replace HB := Aside0.mk (below_step (bl_ HB).out hb); (try clear hb); (try clear hb2); (try clear hk); (try clear hi); obtain ⟨hcz45_0, hcz45_1, hcz45_2, hfz45_0, hfz45_1, hfz45_2⟩ := bo3_ BK229))
        refine bodyPost_ret (results_cell_row rfl _ _ gb229 31 #[.bool t237, .string t238, .int .i64 t239] (0, 0) _ rfl (by (with_reducible repeat (first | refine blk_drewN ?_ _ | refine blk_drew ?_ | refine blk_alloc ?_ _)); refine blk_put (cs := #[.bool t237, .string t238, .int .i64 0]) ?_ 2 _ rfl; (with_reducible repeat (first | refine blk_drewN ?_ _ | refine blk_drew ?_ | refine blk_alloc ?_ _)); refine blk_put (cs := #[.bool t237, .string (⟨#[]⟩ : ByteArray), .int .i64 0]) ?_ 1 _ rfl; (with_reducible repeat (first | refine blk_drewN ?_ _ | refine blk_drew ?_ | refine blk_alloc ?_ _)); refine blk_put (cs := #[.bool false, .string (⟨#[]⟩ : ByteArray), .int .i64 0]) ?_ 0 _ rfl; (with_reducible repeat (first | refine blk_drewN ?_ _ | refine blk_drew ?_ | refine blk_alloc ?_ _)); exact BK229.out) Tryz.underlying31 rfl (by kernel_rfl)) rfl ?_
        exact ⟨ew_, (bl_ HB).out⟩
  · replace c4 := Bool.eq_false_iff.mpr c4
    subst c4
    have H1 : (some (false, (⟨#[]⟩ : ByteArray), 0)) = some (r1, r2, r3) := by rw [if_neg (show ¬ (false = true) by decide)] at H; exact H
    clear H
    have H := H1
    clear H1
    simp only [Option.some.injEq, Prod.mk.injEq] at H
    obtain ⟨rfl, rfl, rfl⟩ := H
    go_enter Tryz.func12, Tryz.ntmps12
    go_wp2_with (first | ((with_reducible refine gate_dst (N := 2) rfl ?_); refine be_ 2 #[.int .i64 a0_0, .int .i64 a0_1, .int .i64 a0_2, .bool a0_3, .string a0_4, .int .i64 a0_5, .int .i64 a0_6, .int .i64 a0_7] 34 ?_; intro gb227 hg w46 hbox hb; have BK227 := Aside0.mk (hbox); have GW227 := sz_ HB hg; have GE227 := sz_ HB hg; replace HB := Aside0.mk (below_step (bl_ HB).out hb); clear hb hbox hg) | ((with_reducible refine gate_dst (N := 3) rfl ?_); refine be_ 3 #[.bool a1_0, .string a1_1, .int .i64 a1_2] 31 ?_; intro gb228 hg w47 hbox hb; have BK228 := Aside0.mk (hbox); have GW228 := sz_ HB hg; have GE228 := sz_ HB hg; have NB227_228 := na_ BK227 hg; have NB228_227 := nb_ BK227 hg; replace BK227 := bb_ BK227 hb; replace HB := Aside0.mk (below_step (bl_ HB).out hb); clear hb hbox hg) | ((with_reducible refine gate_dst (N := 4) rfl ?_); refine be_ 4 #[.bool false, .string (⟨#[]⟩ : ByteArray), .int .i64 0] 31 ?_; intro gb229 hg w48 hbox hb; have BK229 := Aside0.mk (hbox); have GW229 := sz_ HB hg; have GE229 := sz_ HB hg; have NB227_229 := na_ BK227 hg; have NB229_227 := nb_ BK227 hg; have NB228_229 := na_ BK228 hg; have NB229_228 := nb_ BK228 hg; replace BK227 := bb_ BK227 hb; replace BK228 := bb_ BK228 hb; replace HB := Aside0.mk (below_step (bl_ HB).out hb); clear hb hbox hg; have hnb49 := NB227_228.out; have hnc49 := NB228_227.out; have hnb50 := NB227_229.out; have hnc50 := NB229_227.out; obtain ⟨hcz51_0, hcz51_1, hcz51_2, hcz51_3, hcz51_4, hcz51_5, hcz51_6, hcz51_7, hfz51_0, hfz51_1, hfz51_2, hfz51_3, hfz51_4, hfz51_5, hfz51_6, hfz51_7⟩ := bo8_ BK227) | ((with_reducible refine gate_callee (f := 10) rfl ?_); refine gl_ (some 6) Tryz.func10 #[.agg #[.int .i64 a0_0, .int .i64 a0_1, .int .i64 a0_2, .bool a0_3, .string a0_4, .int .i64 a0_5, .int .i64 a0_6, .int .i64 a0_7]] ?_; (with_reducible refine (show_Prec_Valid.calls k a0_0 a0_1 a0_2 a0_3 a0_4 a0_5 a0_6 a0_7 false _ A3.out).mono ?_); rintro e w52 ⟨rfl, hb⟩; refine ⟨_, rfl, ?_⟩; replace BK227 := bb_ BK227 hb; replace BK228 := bb_ BK228 hb; replace BK229 := bb_ BK229 hb; replace HB := Aside0.mk (below_step (bl_ HB).out hb); (try clear hb); (try clear hb2); (try clear hk); (try clear hi); have hnb53 := NB229_228.out; have hnc53 := NB228_229.out; obtain ⟨hcz54_0, hcz54_1, hcz54_2, hfz54_0, hfz54_1, hfz54_2⟩ := bo3_ BK229))
    refine bodyPost_ret (results_cell_row rfl _ _ gb229 31 #[.bool false, .string (⟨#[]⟩ : ByteArray), .int .i64 0] (0, 0) _ rfl (by (with_reducible repeat (first | refine blk_drewN ?_ _ | refine blk_drew ?_ | refine blk_alloc ?_ _)); refine blk_put (cs := #[.bool false, .string (⟨#[]⟩ : ByteArray), .int .i64 0]) ?_ 2 _ rfl; (with_reducible repeat (first | refine blk_drewN ?_ _ | refine blk_drew ?_ | refine blk_alloc ?_ _)); refine blk_put (cs := #[.bool false, .string (⟨#[]⟩ : ByteArray), .int .i64 0]) ?_ 1 _ rfl; (with_reducible repeat (first | refine blk_drewN ?_ _ | refine blk_drew ?_ | refine blk_alloc ?_ _)); refine blk_put (cs := #[.bool false, .string (⟨#[]⟩ : ByteArray), .int .i64 0]) ?_ 0 _ rfl; (with_reducible repeat (first | refine blk_drewN ?_ _ | refine blk_drew ?_ | refine blk_alloc ?_ _)); exact BK229.out) Tryz.underlying31 rfl (by kernel_rfl)) rfl ?_
    exact ⟨ew_, (bl_ HB).out⟩

/-! ### show_pad: function 22 -/
def show_pad.f (a0 : ByteArray) (a1 : Int) : Option (ByteArray) := (num_Zeros.f (wrap64 (a1 - (a0.size : Int)))).bind fun t240 => (if a0.size + t240.size ≤ 9223372036854775807 then (some (a0 ++ t240)) else (none))
set_option maxHeartbeats 8000000 in
set_option maxRecDepth 100000 in
theorem show_pad.calls (a0 : ByteArray) (a1 : Int) (r : ByteArray) (w : World) (h : show_pad.f a0 a1 = some r) :
    Calls Tryz.prog 22 #[.string a0, .int .i64 a1] w fun e w' => e = .returned (.string r) ∧ Below w.heap.size w w' := by
  have HB := Aside0.mk (Below.refl w.heap.size w)
  have H : ((num_Zeros.f (wrap64 (a1 - (a0.size : Int)))).bind fun t240 => (if a0.size + t240.size ≤ 9223372036854775807 then (some (a0 ++ t240)) else (none))) = some r := h
  clear h
  replace H := Option.bind_eq_some_iff.mp H
  obtain ⟨t240, A30, H⟩ := H
  replace H : (if a0.size + t240.size ≤ 9223372036854775807 then (some (a0 ++ t240)) else (none)) = some r := H
  have A3 := Aside0.mk A30
  clear A30
  by_cases c4 : a0.size + t240.size ≤ 9223372036854775807
  · rw [if_pos c4] at H
    have c4b0 := eq_true c4
    have c4b1 : decide (a0.size + t240.size ≤ 9223372036854775807) = true := decide_eq_true c4
    try have c4b2 : (9223372036854775807 < a0.size + t240.size) = False := eq_false (Nat.not_lt.2 c4)
    obtain rfl := Option.some.inj H
    go_enter Tryz.func22, Tryz.ntmps22
    go_wp2_with (first | ((with_reducible refine gate_callee (f := 24) rfl ?_); refine gl_ (some 10) Tryz.func24 #[.int .i64 (wrap64 (a1 - (a0.size : Int)))] ?_; (with_reducible refine (num_Zeros.calls (wrap64 (a1 - (a0.size : Int))) t240 _ A3.out).mono ?_); rintro e w5 ⟨rfl, hb⟩; refine ⟨_, rfl, ?_⟩; replace HB := Aside0.mk (below_step (bl_ HB).out hb); (try clear hb); (try clear hb2); (try clear hk); (try clear hi)))
    go_ret
    exact ⟨ew_, (bl_ HB).out⟩
  · rw [if_neg c4] at H
    exact absurd H (by simp)

/-! ### show_Prec_least: function 23 -/
def show_Prec_least.f (k : Nat) (a0_0 : Int) (a0_1 : Int) (a0_2 : Int) (a0_3 : Bool) (a0_4 : ByteArray) (a0_5 : Int) (a0_6 : Int) (a0_7 : Int) (a1_0 : Bool) (a1_1 : ByteArray) (a1_2 : Int) : Option (Int) := if a0_0 = 1 then ((dec_Dec_Mag.f k a1_0 a1_1 a1_2).bind fun bt243 => (some (mx (wrap64 ((wrap64 (a0_1 - 1)) - bt243.1)) 0))) else (some a0_1)
theorem show_Prec_least.mono : ∀ a0 a1 a2 a3 a4 a5 a6 a7 a8 a9 a10 k, LeO (show_Prec_least.f k a0 a1 a2 a3 a4 a5 a6 a7 a8 a9 a10) (show_Prec_least.f (k + 1) a0 a1 a2 a3 a4 a5 a6 a7 a8 a9 a10) := by
  intro a0 a1 a2 a3 a4 a5 a6 a7 a8 a9 a10 k
  unfold show_Prec_least.f
  repeat' first
      | (with_reducible exact dec_Dec_Mag.mono _ _ _ _)
      | (with_reducible exact LeO.refl _)
      | (with_reducible exact LeO.none _)
      | (with_reducible refine LeO.ite ?_ ?_)
      | (with_reducible refine LeO.bind ?_ (fun _ => ?_))
      | exact dec_Dec_Mag.mono _ _ _ _
      | exact LeO.none _
      | refine LeO.ite ?_ ?_
      | refine LeO.bind ?_ (fun _ => ?_)
set_option maxHeartbeats 8000000 in
set_option maxRecDepth 100000 in
theorem show_Prec_least.calls (k : Nat) (a0_0 : Int) (a0_1 : Int) (a0_2 : Int) (a0_3 : Bool) (a0_4 : ByteArray) (a0_5 : Int) (a0_6 : Int) (a0_7 : Int) (a1_0 : Bool) (a1_1 : ByteArray) (a1_2 : Int) (r : Int) (w : World) (h : show_Prec_least.f k a0_0 a0_1 a0_2 a0_3 a0_4 a0_5 a0_6 a0_7 a1_0 a1_1 a1_2 = some r) :
    Calls Tryz.prog 23 #[.agg #[.int .i64 a0_0, .int .i64 a0_1, .int .i64 a0_2, .bool a0_3, .string a0_4, .int .i64 a0_5, .int .i64 a0_6, .int .i64 a0_7], .agg #[.bool a1_0, .string a1_1, .int .i64 a1_2]] w fun e w' => e = .returned (.int .i64 r) ∧ Below w.heap.size w w' := by
  have hu34 := Tryz.underlying34
  have hu31 := Tryz.underlying31
  have HB := Aside0.mk (Below.refl w.heap.size w)
  have H : (if a0_0 = 1 then ((dec_Dec_Mag.f k a1_0 a1_1 a1_2).bind fun bt243 => (some (mx (wrap64 ((wrap64 (a0_1 - 1)) - bt243.1)) 0))) else (some a0_1)) = some r := h
  clear h
  by_cases c3 : a0_0 = 1
  · rw [if_pos c3] at H
    have c3b0 : (a0_0 == 1) = true := beq_iff_eq.mpr c3
    have c3b1 : (a0_0 != 1) = false := bne_eq_false_iff_eq.mpr c3
    clear c3
    replace H := Option.bind_eq_some_iff.mp H
    obtain ⟨⟨t243, t244⟩, A40, H⟩ := H
    replace H : (some (mx (wrap64 ((wrap64 (a0_1 - 1)) - t243)) 0)) = some r := H
    have A4 := Aside0.mk A40
    clear A40
    obtain ⟨ji5, hji5⟩ : ∃ j_ : Int, (mx (wrap64 ((wrap64 (a0_1 - 1)) - t243)) 0) = j_ := ⟨_, rfl⟩
    replace H : (some ji5) = some r := by first | (rw [hji5] at H; exact H) | (simp only [hji5] at H ⊢; exact H)
    (try rw [hji5] at A4)
    (try (have hji5l : 0 ≤ ji5 := by (rw [← hji5]; unfold mx; (repeat' split) <;> omega)))
    (try (have hji5m : 0 ≤ ji5 := by omega))
    have hji5_ : (if (wrap64 ((wrap64 (a0_1 - 1)) - t243)) < 0 then 0 else (wrap64 ((wrap64 (a0_1 - 1)) - t243))) = ji5 := hji5
    obtain rfl := Option.some.inj H
    go_enter Tryz.func23, Tryz.ntmps23
    go_wp2_with (first | ((with_reducible refine gate_dst (N := 2) rfl ?_); refine be_ 2 #[.int .i64 a0_0, .int .i64 a0_1, .int .i64 a0_2, .bool a0_3, .string a0_4, .int .i64 a0_5, .int .i64 a0_6, .int .i64 a0_7] 34 ?_; intro gb241 hg w6 hbox hb; have BK241 := Aside0.mk (hbox); have GW241 := sz_ HB hg; have GE241 := sz_ HB hg; replace HB := Aside0.mk (below_step (bl_ HB).out hb); clear hb hbox hg) | ((with_reducible refine gate_dst (N := 3) rfl ?_); refine be_ 3 #[.bool a1_0, .string a1_1, .int .i64 a1_2] 31 ?_; intro gb242 hg w7 hbox hb; have BK242 := Aside0.mk (hbox); have GW242 := sz_ HB hg; have GE242 := sz_ HB hg; have NB241_242 := na_ BK241 hg; have NB242_241 := nb_ BK241 hg; replace BK241 := bb_ BK241 hb; replace HB := Aside0.mk (below_step (bl_ HB).out hb); clear hb hbox hg; have hnb8 := NB241_242.out; have hnc8 := NB242_241.out; obtain ⟨hcz9_0, hcz9_1, hcz9_2, hcz9_3, hcz9_4, hcz9_5, hcz9_6, hcz9_7, hfz9_0, hfz9_1, hfz9_2, hfz9_3, hfz9_4, hfz9_5, hfz9_6, hfz9_7⟩ := bo8_ BK241; obtain ⟨hcz10_0, hcz10_1, hcz10_2, hfz10_0, hfz10_1, hfz10_2⟩ := bo3_ BK242) | ((with_reducible refine gate_callee (f := 37) rfl ?_); refine gl_ (some 14) Tryz.func37 #[.agg #[.bool a1_0, .string a1_1, .int .i64 a1_2]] ?_; (with_reducible refine (dec_Dec_Mag.calls k a1_0 a1_1 a1_2 t243 t244 _ A4.out).mono ?_); rintro e w11 ⟨rfl, hb⟩; refine ⟨_, rfl, ?_⟩; replace BK241 := bb_ BK241 hb; replace BK242 := bb_ BK242 hb; replace HB := Aside0.mk (below_step (bl_ HB).out hb); (try clear hb); (try clear hb2); (try clear hk); (try clear hi); obtain ⟨hcz12_0, hcz12_1, hcz12_2, hcz12_3, hcz12_4, hcz12_5, hcz12_6, hcz12_7, hfz12_0, hfz12_1, hfz12_2, hfz12_3, hfz12_4, hfz12_5, hfz12_6, hfz12_7⟩ := bo8_ BK241))
    go_ret
    exact ⟨by first | rfl | (simp [errW_none, errW_some] <;> rfl) | (simp only [← hji5]; first | rfl | (simp [errW_none, errW_some] <;> rfl)) | (simp [*, errW_none, errW_some] <;> first | rfl | exact given_isEmpty _ | exact (given_isEmpty _).symm), by repeat (first | (with_reducible first | exact HB.out | apply below_alloc | apply pw_below_drewN | apply below_drew1 | refine below_set ?_ GE241.out | refine below_set ?_ GE242.out) | exact HB.out)⟩
  · rw [if_neg c3] at H
    have c3b0 : (a0_0 == 1) = false := beq_eq_false_iff_ne.mpr c3
    have c3b1 : (a0_0 != 1) = true := bne_iff_ne.mpr c3
    obtain rfl := Option.some.inj H
    go_enter Tryz.func23, Tryz.ntmps23
    go_wp2_with (first | ((with_reducible refine gate_dst (N := 2) rfl ?_); refine be_ 2 #[.int .i64 a0_0, .int .i64 a0_1, .int .i64 a0_2, .bool a0_3, .string a0_4, .int .i64 a0_5, .int .i64 a0_6, .int .i64 a0_7] 34 ?_; intro gb241 hg w13 hbox hb; have BK241 := Aside0.mk (hbox); have GW241 := sz_ HB hg; have GE241 := sz_ HB hg; replace HB := Aside0.mk (below_step (bl_ HB).out hb); clear hb hbox hg) | ((with_reducible refine gate_dst (N := 3) rfl ?_); refine be_ 3 #[.bool a1_0, .string a1_1, .int .i64 a1_2] 31 ?_; intro gb242 hg w14 hbox hb; have BK242 := Aside0.mk (hbox); have GW242 := sz_ HB hg; have GE242 := sz_ HB hg; have NB241_242 := na_ BK241 hg; have NB242_241 := nb_ BK241 hg; replace BK241 := bb_ BK241 hb; replace HB := Aside0.mk (below_step (bl_ HB).out hb); clear hb hbox hg; have hnb15 := NB241_242.out; have hnc15 := NB242_241.out; obtain ⟨hcz16_0, hcz16_1, hcz16_2, hcz16_3, hcz16_4, hcz16_5, hcz16_6, hcz16_7, hfz16_0, hfz16_1, hfz16_2, hfz16_3, hfz16_4, hfz16_5, hfz16_6, hfz16_7⟩ := bo8_ BK241))
    go_ret
    exact ⟨ew_, (bl_ HB).out⟩

/-! ### show_Prec_Apply: function 9 -/
def show_Prec_Apply.f (k : Nat) (a0_0 : Int) (a0_1 : Int) (a0_2 : Int) (a0_3 : Bool) (a0_4 : ByteArray) (a0_5 : Int) (a0_6 : Int) (a0_7 : Int) (a1_0 : Bool) (a1_1 : ByteArray) (a1_2 : Int) : Option (Bool × ByteArray × ByteArray × Int) := (show_Prec_Valid.f k a0_0 a0_1 a0_2 a0_3 a0_4 a0_5 a0_6 a0_7).bind fun t248 => (if t248 = true then ((show_Prec_Round.f k a0_0 a0_1 a0_2 a0_3 a0_4 a0_5 a0_6 a0_7 a1_0 a1_1 a1_2).bind fun bt249 => ((dec_Dec_Parts.f k bt249.1 bt249.2.1 bt249.2.2).bind fun bt253 => ((show_Prec_least.f k a0_0 a0_1 a0_2 a0_3 a0_4 a0_5 a0_6 a0_7 bt249.1 bt249.2.1 bt249.2.2).bind fun t255 => ((show_pad.f bt253.2 t255).bind fun t256 => ((num_Zeros.f (wrap64 (a0_7 - (bt253.1.size : Int)))).bind fun t257 => (if t257.size + bt253.1.size ≤ 9223372036854775807 then (if (t257 ++ bt253.1).toList = ([] : List UInt8) then (if t256.toList = ([] : List UInt8) then (some (bt249.1, (⟨#[48]⟩ : ByteArray), t256, 0)) else (some (bt249.1, t257 ++ bt253.1, t256, 0))) else (some (bt249.1, t257 ++ bt253.1, t256, 0))) else (none))))))) else (some (false, (⟨#[]⟩ : ByteArray), (⟨#[]⟩ : ByteArray), 3)))
theorem show_Prec_Apply.mono : ∀ a0 a1 a2 a3 a4 a5 a6 a7 a8 a9 a10 k, LeO (show_Prec_Apply.f k a0 a1 a2 a3 a4 a5 a6 a7 a8 a9 a10) (show_Prec_Apply.f (k + 1) a0 a1 a2 a3 a4 a5 a6 a7 a8 a9 a10) := by
  intro a0 a1 a2 a3 a4 a5 a6 a7 a8 a9 a10 k
  unfold show_Prec_Apply.f
  repeat' first
      | (with_reducible exact dec_Dec_Parts.mono _ _ _ _)
      | (with_reducible exact show_Prec_Round.mono _ _ _ _ _ _ _ _ _ _ _ _)
      | (with_reducible exact show_Prec_Valid.mono _ _ _ _ _ _ _ _ _)
      | (with_reducible exact show_Prec_least.mono _ _ _ _ _ _ _ _ _ _ _ _)
      | (with_reducible exact LeO.refl _)
      | (with_reducible exact LeO.none _)
      | (with_reducible refine LeO.ite ?_ ?_)
      | (with_reducible refine LeO.bind ?_ (fun _ => ?_))
      | exact dec_Dec_Parts.mono _ _ _ _
      | exact show_Prec_Round.mono _ _ _ _ _ _ _ _ _ _ _ _
      | exact show_Prec_Valid.mono _ _ _ _ _ _ _ _ _
      | exact show_Prec_least.mono _ _ _ _ _ _ _ _ _ _ _ _
      | exact LeO.none _
      | refine LeO.ite ?_ ?_
      | refine LeO.bind ?_ (fun _ => ?_)
set_option maxHeartbeats 8000000 in
set_option maxRecDepth 100000 in
theorem show_Prec_Apply.calls (k : Nat) (a0_0 : Int) (a0_1 : Int) (a0_2 : Int) (a0_3 : Bool) (a0_4 : ByteArray) (a0_5 : Int) (a0_6 : Int) (a0_7 : Int) (a1_0 : Bool) (a1_1 : ByteArray) (a1_2 : Int) (r1 : Bool) (r2 : ByteArray) (r3 : ByteArray) (r4 : Int) (w : World) (h : show_Prec_Apply.f k a0_0 a0_1 a0_2 a0_3 a0_4 a0_5 a0_6 a0_7 a1_0 a1_1 a1_2 = some (r1, r2, r3, r4)) :
    Calls Tryz.prog 9 #[.agg #[.int .i64 a0_0, .int .i64 a0_1, .int .i64 a0_2, .bool a0_3, .string a0_4, .int .i64 a0_5, .int .i64 a0_6, .int .i64 a0_7], .agg #[.bool a1_0, .string a1_1, .int .i64 a1_2]] w fun e w' => e = .returned (.tuple #[.agg #[.bool r1, .string r2, .string r3], .int .i64 r4]) ∧ Below w.heap.size w w' := by
  have hu34 := Tryz.underlying34
  have hu31 := Tryz.underlying31
  have hu38 := Tryz.underlying38
  have HB := Aside0.mk (Below.refl w.heap.size w)
  have H : ((show_Prec_Valid.f k a0_0 a0_1 a0_2 a0_3 a0_4 a0_5 a0_6 a0_7).bind fun t248 => (if t248 = true then ((show_Prec_Round.f k a0_0 a0_1 a0_2 a0_3 a0_4 a0_5 a0_6 a0_7 a1_0 a1_1 a1_2).bind fun bt249 => ((dec_Dec_Parts.f k bt249.1 bt249.2.1 bt249.2.2).bind fun bt253 => ((show_Prec_least.f k a0_0 a0_1 a0_2 a0_3 a0_4 a0_5 a0_6 a0_7 bt249.1 bt249.2.1 bt249.2.2).bind fun t255 => ((show_pad.f bt253.2 t255).bind fun t256 => ((num_Zeros.f (wrap64 (a0_7 - (bt253.1.size : Int)))).bind fun t257 => (if t257.size + bt253.1.size ≤ 9223372036854775807 then (if (t257 ++ bt253.1).toList = ([] : List UInt8) then (if t256.toList = ([] : List UInt8) then (some (bt249.1, (⟨#[48]⟩ : ByteArray), t256, 0)) else (some (bt249.1, t257 ++ bt253.1, t256, 0))) else (some (bt249.1, t257 ++ bt253.1, t256, 0))) else (none))))))) else (some (false, (⟨#[]⟩ : ByteArray), (⟨#[]⟩ : ByteArray), 3)))) = some (r1, r2, r3, r4) := h
  clear h
  replace H := Option.bind_eq_some_iff.mp H
  obtain ⟨t248, A30, H⟩ := H
  replace H : (if t248 = true then ((show_Prec_Round.f k a0_0 a0_1 a0_2 a0_3 a0_4 a0_5 a0_6 a0_7 a1_0 a1_1 a1_2).bind fun bt249 => ((dec_Dec_Parts.f k bt249.1 bt249.2.1 bt249.2.2).bind fun bt253 => ((show_Prec_least.f k a0_0 a0_1 a0_2 a0_3 a0_4 a0_5 a0_6 a0_7 bt249.1 bt249.2.1 bt249.2.2).bind fun t255 => ((show_pad.f bt253.2 t255).bind fun t256 => ((num_Zeros.f (wrap64 (a0_7 - (bt253.1.size : Int)))).bind fun t257 => (if t257.size + bt253.1.size ≤ 9223372036854775807 then (if (t257 ++ bt253.1).toList = ([] : List UInt8) then (if t256.toList = ([] : List UInt8) then (some (bt249.1, (⟨#[48]⟩ : ByteArray), t256, 0)) else (some (bt249.1, t257 ++ bt253.1, t256, 0))) else (some (bt249.1, t257 ++ bt253.1, t256, 0))) else (none))))))) else (some (false, (⟨#[]⟩ : ByteArray), (⟨#[]⟩ : ByteArray), 3))) = some (r1, r2, r3, r4) := H
  have A3 := Aside0.mk A30
  clear A30
  by_cases c4 : t248 = true
  · subst c4
    have H1 : ((show_Prec_Round.f k a0_0 a0_1 a0_2 a0_3 a0_4 a0_5 a0_6 a0_7 a1_0 a1_1 a1_2).bind fun bt249 => ((dec_Dec_Parts.f k bt249.1 bt249.2.1 bt249.2.2).bind fun bt253 => ((show_Prec_least.f k a0_0 a0_1 a0_2 a0_3 a0_4 a0_5 a0_6 a0_7 bt249.1 bt249.2.1 bt249.2.2).bind fun t255 => ((show_pad.f bt253.2 t255).bind fun t256 => ((num_Zeros.f (wrap64 (a0_7 - (bt253.1.size : Int)))).bind fun t257 => (if t257.size + bt253.1.size ≤ 9223372036854775807 then (if (t257 ++ bt253.1).toList = ([] : List UInt8) then (if t256.toList = ([] : List UInt8) then (some (bt249.1, (⟨#[48]⟩ : ByteArray), t256, 0)) else (some (bt249.1, t257 ++ bt253.1, t256, 0))) else (some (bt249.1, t257 ++ bt253.1, t256, 0))) else (none))))))) = some (r1, r2, r3, r4) := by rw [if_pos rfl] at H; exact H
    clear H
    have H := H1
    clear H1
    replace H := Option.bind_eq_some_iff.mp H
    obtain ⟨⟨t249, t250, t251⟩, A50, H⟩ := H
    replace H : ((dec_Dec_Parts.f k t249 t250 t251).bind fun bt253 => ((show_Prec_least.f k a0_0 a0_1 a0_2 a0_3 a0_4 a0_5 a0_6 a0_7 t249 t250 t251).bind fun t255 => ((show_pad.f bt253.2 t255).bind fun t256 => ((num_Zeros.f (wrap64 (a0_7 - (bt253.1.size : Int)))).bind fun t257 => (if t257.size + bt253.1.size ≤ 9223372036854775807 then (if (t257 ++ bt253.1).toList = ([] : List UInt8) then (if t256.toList = ([] : List UInt8) then (some (t249, (⟨#[48]⟩ : ByteArray), t256, 0)) else (some (t249, t257 ++ bt253.1, t256, 0))) else (some (t249, t257 ++ bt253.1, t256, 0))) else (none)))))) = some (r1, r2, r3, r4) := H
    have A5 := Aside0.mk A50
    clear A50
    replace H := Option.bind_eq_some_iff.mp H
    obtain ⟨⟨t253, t254⟩, A60, H⟩ := H
    replace H : ((show_Prec_least.f k a0_0 a0_1 a0_2 a0_3 a0_4 a0_5 a0_6 a0_7 t249 t250 t251).bind fun t255 => ((show_pad.f t254 t255).bind fun t256 => ((num_Zeros.f (wrap64 (a0_7 - (t253.size : Int)))).bind fun t257 => (if t257.size + t253.size ≤ 9223372036854775807 then (if (t257 ++ t253).toList = ([] : List UInt8) then (if t256.toList = ([] : List UInt8) then (some (t249, (⟨#[48]⟩ : ByteArray), t256, 0)) else (some (t249, t257 ++ t253, t256, 0))) else (some (t249, t257 ++ t253, t256, 0))) else (none))))) = some (r1, r2, r3, r4) := H
    have A6 := Aside0.mk A60
    clear A60
    replace H := Option.bind_eq_some_iff.mp H
    obtain ⟨t255, A70, H⟩ := H
    replace H : ((show_pad.f t254 t255).bind fun t256 => ((num_Zeros.f (wrap64 (a0_7 - (t253.size : Int)))).bind fun t257 => (if t257.size + t253.size ≤ 9223372036854775807 then (if (t257 ++ t253).toList = ([] : List UInt8) then (if t256.toList = ([] : List UInt8) then (some (t249, (⟨#[48]⟩ : ByteArray), t256, 0)) else (some (t249, t257 ++ t253, t256, 0))) else (some (t249, t257 ++ t253, t256, 0))) else (none)))) = some (r1, r2, r3, r4) := H
    have A7 := Aside0.mk A70
    clear A70
    replace H := Option.bind_eq_some_iff.mp H
    obtain ⟨t256, A80, H⟩ := H
    replace H : ((num_Zeros.f (wrap64 (a0_7 - (t253.size : Int)))).bind fun t257 => (if t257.size + t253.size ≤ 9223372036854775807 then (if (t257 ++ t253).toList = ([] : List UInt8) then (if t256.toList = ([] : List UInt8) then (some (t249, (⟨#[48]⟩ : ByteArray), t256, 0)) else (some (t249, t257 ++ t253, t256, 0))) else (some (t249, t257 ++ t253, t256, 0))) else (none))) = some (r1, r2, r3, r4) := H
    have A8 := Aside0.mk A80
    clear A80
    replace H := Option.bind_eq_some_iff.mp H
    obtain ⟨t257, A90, H⟩ := H
    replace H : (if t257.size + t253.size ≤ 9223372036854775807 then (if (t257 ++ t253).toList = ([] : List UInt8) then (if t256.toList = ([] : List UInt8) then (some (t249, (⟨#[48]⟩ : ByteArray), t256, 0)) else (some (t249, t257 ++ t253, t256, 0))) else (some (t249, t257 ++ t253, t256, 0))) else (none)) = some (r1, r2, r3, r4) := H
    have A9 := Aside0.mk A90
    clear A90
    by_cases c10 : t257.size + t253.size ≤ 9223372036854775807
    · rw [if_pos c10] at H
      have c10b0 := eq_true c10
      have c10b1 : decide (t257.size + t253.size ≤ 9223372036854775807) = true := decide_eq_true c10
      try have c10b2 : (9223372036854775807 < t257.size + t253.size) = False := eq_false (Nat.not_lt.2 c10)
      by_cases c11 : (t257 ++ t253).toList = ([] : List UInt8)
      · rw [if_pos c11] at H
        have c11b0 : ((t257 ++ t253).toList == ([] : List UInt8)) = true := beq_iff_eq.mpr c11
        have c11b1 : ((t257 ++ t253).toList != ([] : List UInt8)) = false := bne_eq_false_iff_eq.mpr c11
        have c11b2 : ((t257 ++ t253).toList.isEmpty) = true := by rw [c11]; rfl
        clear c11
        by_cases c12 : t256.toList = ([] : List UInt8)
        · rw [if_pos c12] at H
          have c12b0 : (t256.toList == ([] : List UInt8)) = true := beq_iff_eq.mpr c12
          have c12b1 : (t256.toList != ([] : List UInt8)) = false := bne_eq_false_iff_eq.mpr c12
          have c12b2 : (t256.toList.isEmpty) = true := by rw [c12]; rfl
          clear c12
          simp only [Option.some.injEq, Prod.mk.injEq] at H
          obtain ⟨rfl, rfl, rfl, rfl⟩ := H
          go_enter Tryz.func9, Tryz.ntmps9
          go_wp2_with (first | ((with_reducible refine gate_dst (N := 2) rfl ?_); refine be_ 2 #[.int .i64 a0_0, .int .i64 a0_1, .int .i64 a0_2, .bool a0_3, .string a0_4, .int .i64 a0_5, .int .i64 a0_6, .int .i64 a0_7] 34 ?_; intro gb245 hg w13 hbox hb; have BK245 := Aside0.mk (hbox); have GW245 := sz_ HB hg; have GE245 := sz_ HB hg; replace HB := Aside0.mk (below_step (bl_ HB).out hb); clear hb hbox hg) | ((with_reducible refine gate_dst (N := 3) rfl ?_); refine be_ 3 #[.bool a1_0, .string a1_1, .int .i64 a1_2] 31 ?_; intro gb246 hg w14 hbox hb; have BK246 := Aside0.mk (hbox); have GW246 := sz_ HB hg; have GE246 := sz_ HB hg; have NB245_246 := na_ BK245 hg; have NB246_245 := nb_ BK245 hg; replace BK245 := bb_ BK245 hb; replace HB := Aside0.mk (below_step (bl_ HB).out hb); clear hb hbox hg) | ((with_reducible refine gate_dst (N := 4) rfl ?_); refine be_ 4 #[.bool false, .string (⟨#[]⟩ : ByteArray), .string (⟨#[]⟩ : ByteArray)] 38 ?_; intro gb247 hg w15 hbox hb; have BK247 := Aside0.mk (hbox); have GW247 := sz_ HB hg; have GE247 := sz_ HB hg; have NB245_247 := na_ BK245 hg; have NB247_245 := nb_ BK245 hg; have NB246_247 := na_ BK246 hg; have NB247_246 := nb_ BK246 hg; replace BK245 := bb_ BK245 hb; replace BK246 := bb_ BK246 hb; replace HB := Aside0.mk (below_step (bl_ HB).out hb); clear hb hbox hg; have hnb16 := NB245_246.out; have hnc16 := NB246_245.out; have hnb17 := NB245_247.out; have hnc17 := NB247_245.out; obtain ⟨hcz18_0, hcz18_1, hcz18_2, hcz18_3, hcz18_4, hcz18_5, hcz18_6, hcz18_7, hfz18_0, hfz18_1, hfz18_2, hfz18_3, hfz18_4, hfz18_5, hfz18_6, hfz18_7⟩ := bo8_ BK245) | ((with_reducible refine gate_callee (f := 10) rfl ?_); refine gl_ (some 10) Tryz.func10 #[.agg #[.int .i64 a0_0, .int .i64 a0_1, .int .i64 a0_2, .bool a0_3, .string a0_4, .int .i64 a0_5, .int .i64 a0_6, .int .i64 a0_7]] ?_; (with_reducible refine (show_Prec_Valid.calls k a0_0 a0_1 a0_2 a0_3 a0_4 a0_5 a0_6 a0_7 true _ A3.out).mono ?_); rintro e w19 ⟨rfl, hb⟩; refine ⟨_, rfl, ?_⟩; replace BK245 := bb_ BK245 hb; replace BK246 := bb_ BK246 hb; replace BK247 := bb_ BK247 hb; replace HB := Aside0.mk (below_step (bl_ HB).out hb); (try clear hb); (try clear hb2); (try clear hk); (try clear hi); obtain ⟨hcz20_0, hcz20_1, hcz20_2, hcz20_3, hcz20_4, hcz20_5, hcz20_6, hcz20_7, hfz20_0, hfz20_1, hfz20_2, hfz20_3, hfz20_4, hfz20_5, hfz20_6, hfz20_7⟩ := bo8_ BK245; have hnb21 := NB246_247.out; have hnc21 := NB247_246.out; obtain ⟨hcz22_0, hcz22_1, hcz22_2, hfz22_0, hfz22_1, hfz22_2⟩ := bo3_ BK246) | ((with_reducible refine gate_callee (f := 12) rfl ?_); refine gl_ (some 15) Tryz.func12 #[.agg #[.int .i64 a0_0, .int .i64 a0_1, .int .i64 a0_2, .bool a0_3, .string a0_4, .int .i64 a0_5, .int .i64 a0_6, .int .i64 a0_7], .agg #[.bool a1_0, .string a1_1, .int .i64 a1_2]] ?_; (with_reducible refine (show_Prec_Round.calls k a0_0 a0_1 a0_2 a0_3 a0_4 a0_5 a0_6 a0_7 a1_0 a1_1 a1_2 t249 t250 t251 _ A5.out).mono ?_); rintro e w23 ⟨rfl, hb⟩; refine ⟨_, rfl, ?_⟩; replace BK245 := bb_ BK245 hb; replace BK246 := bb_ BK246 hb; replace BK247 := bb_ BK247 hb; replace HB := Aside0.mk (below_step (bl_ HB).out hb); (try clear hb); (try clear hb2); (try clear hk); (try clear hi)) | ((with_reducible refine gate_dst (N := 6) rfl ?_); refine be_ 6 #[.bool false, .string (⟨#[]⟩ : ByteArray), .int .i64 0] 31 ?_; intro gb252 hg w24 hbox hb; have BK252 := Aside0.mk (hbox); have GW252 := sz_ HB hg; have GE252 := sz_ HB hg; have NB245_252 := na_ BK245 hg; have NB252_245 := nb_ BK245 hg; have NB246_252 := na_ BK246 hg; have NB252_246 := nb_ BK246 hg; have NB247_252 := na_ BK247 hg; have NB252_247 := nb_ BK247 hg; replace BK245 := bb_ BK245 hb; replace BK246 := bb_ BK246 hb; replace BK247 := bb_ BK247 hb; replace HB := Aside0.mk (below_step (bl_ HB).out hb); clear hb hbox hg; have hnb25 := NB252_245.out; have hnc25 := NB245_252.out; have hnb26 := NB252_246.out; have hnc26 := NB246_252.out; have hnb27 := NB252_247.out; have hnc27 := NB247_252.out; obtain ⟨hcz28_0, hcz28_1, hcz28_2, hfz28_0, hfz28_1, hfz28_2⟩ := bo3_ BK252) | ((with_reducible refine gate_callee (f := 21) rfl ?_); refine gl_ (some 18) Tryz.func21 #[.agg #[.bool t249, .string t250, .int .i64 t251]] ?_; (with_reducible refine (dec_Dec_Parts.calls k t249 t250 t251 t253 t254 _ A6.out).mono ?_); rintro e w29 ⟨rfl, hb⟩; refine ⟨_, rfl, ?_⟩; have n0_ := Aside0.mk (blk_below (g := gb245) (o := .cells #[.int .i64 a0_0, .int .i64 a0_1, .int .i64 a0_2, .bool a0_3, .string a0_4, .int .i64 a0_5, .int .i64 a0_6, .int .i64 a0_7] 34 (0, 0)) (by (with_reducible repeat (first | refine blk_drewN ?_ _ | refine blk_drew ?_ | refine blk_alloc ?_ _)); refine blk_far ?_ NB245_252.out _; (with_reducible repeat (first | refine blk_drewN ?_ _ | refine blk_drew ?_ | refine blk_alloc ?_ _)); refine blk_far ?_ NB245_252.out _; (with_reducible repeat (first | refine blk_drewN ?_ _ | refine blk_drew ?_ | refine blk_alloc ?_ _)); refine blk_far ?_ NB245_252.out _; (with_reducible repeat (first | refine blk_drewN ?_ _ | refine blk_drew ?_ | refine blk_alloc ?_ _)); exact BK245.out) hb); have n1_ := Aside0.mk (blk_below (g := gb246) (o := .cells #[.bool a1_0, .string a1_1, .int .i64 a1_2] 31 (0, 0)) (by (with_reducible repeat (first | refine blk_drewN ?_ _ | refine blk_drew ?_ | refine blk_alloc ?_ _)); refine blk_far ?_ NB246_252.out _; (with_reducible repeat (first | refine blk_drewN ?_ _ | refine blk_drew ?_ | refine blk_alloc ?_ _)); refine blk_far ?_ NB246_252.out _; (with_reducible repeat (first | refine blk_drewN ?_ _ | refine blk_drew ?_ | refine blk_alloc ?_ _)); refine blk_far ?_ NB246_252.out _; (with_reducible repeat (first | refine blk_drewN ?_ _ | refine blk_drew ?_ | refine blk_alloc ?_ _)); exact BK246.out) hb); have n2_ := Aside0.mk (blk_below (g := gb247) (o := .cells #[.bool false, .string (⟨#[]⟩ : ByteArray), .string (⟨#[]⟩ : ByteArray)] 38 (0, 0)) (by (with_reducible repeat (first | refine blk_drewN ?_ _ | refine blk_drew ?_ | refine blk_alloc ?_ _)); refine blk_far ?_ NB247_252.out _; (with_reducible repeat (first | refine blk_drewN ?_ _ | refine blk_drew ?_ | refine blk_alloc ?_ _)); refine blk_far ?_ NB247_252.out _; (with_reducible repeat (first | refine blk_drewN ?_ _ | refine blk_drew ?_ | refine blk_alloc ?_ _)); refine blk_far ?_ NB247_252.out _; (with_reducible repeat (first | refine blk_drewN ?_ _ | refine blk_drew ?_ | refine blk_alloc ?_ _)); exact BK247.out) hb); have n3_ := Aside0.mk (blk_below (g := gb252) (o := .cells #[.bool t249, .string t250, .int .i64 t251] 31 (0, 0)) (by (with_reducible repeat (first | refine blk_drewN ?_ _ | refine blk_drew ?_ | refine blk_alloc ?_ _)); refine blk_put (cs := #[.bool t249, .string t250, .int .i64 0]) ?_ 2 _ rfl; (with_reducible repeat (first | refine blk_drewN ?_ _ | refine blk_drew ?_ | refine blk_alloc ?_ _)); refine blk_put (cs := #[.bool t249, .string (⟨#[]⟩ : ByteArray), .int .i64 0]) ?_ 1 _ rfl; (with_reducible repeat (first | refine blk_drewN ?_ _ | refine blk_drew ?_ | refine blk_alloc ?_ _)); refine blk_put (cs := #[.bool false, .string (⟨#[]⟩ : ByteArray), .int .i64 0]) ?_ 0 _ rfl; (with_reducible repeat (first | refine blk_drewN ?_ _ | refine blk_drew ?_ | refine blk_alloc ?_ _)); exact BK252.out) hb); have n4_ := Aside0.mk (below_step (bl_ HB).out hb); clear BK245; clear BK246; clear BK247; clear BK252; clear HB; have BK245 := n0_; have BK246 := n1_; have BK247 := n2_; have BK252 := n3_; have HB := n4_; clear n0_ n1_ n2_ n3_ n4_; (try clear hb); (try clear hb2); (try clear hk); (try clear hi); obtain ⟨hcz30_0, hcz30_1, hcz30_2, hcz30_3, hcz30_4, hcz30_5, hcz30_6, hcz30_7, hfz30_0, hfz30_1, hfz30_2, hfz30_3, hfz30_4, hfz30_5, hfz30_6, hfz30_7⟩ := bo8_ BK245; obtain ⟨hcz31_0, hcz31_1, hcz31_2, hfz31_0, hfz31_1, hfz31_2⟩ := bo3_ BK252) | ((with_reducible refine gate_callee (f := 23) rfl ?_); refine gl_ (some 24) Tryz.func23 #[.agg #[.int .i64 a0_0, .int .i64 a0_1, .int .i64 a0_2, .bool a0_3, .string a0_4, .int .i64 a0_5, .int .i64 a0_6, .int .i64 a0_7], .agg #[.bool t249, .string t250, .int .i64 t251]] ?_; (with_reducible refine (show_Prec_least.calls k a0_0 a0_1 a0_2 a0_3 a0_4 a0_5 a0_6 a0_7 t249 t250 t251 t255 _ A7.out).mono ?_); rintro e w32 ⟨rfl, hb⟩; refine ⟨_, rfl, ?_⟩; replace BK245 := bb_ BK245 hb; replace BK246 := bb_ BK246 hb; replace BK247 := bb_ BK247 hb; replace BK252 := bb_ BK252 hb; replace HB := Aside0.mk (below_step (bl_ HB).out hb); (try clear hb); (try clear hb2); (try clear hk); (try clear hi)) | ((with_reducible refine gate_callee (f := 22) rfl ?_); refine gl_ (some 25) Tryz.func22 #[.string t254, .int .i64 t255] ?_; (with_reducible refine (show_pad.calls t254 t255 t256 _ A8.out).mono ?_); rintro e w33 ⟨rfl, hb⟩; refine ⟨_, rfl, ?_⟩; replace BK245 := bb_ BK245 hb; replace BK246 := bb_ BK246 hb; replace BK247 := bb_ BK247 hb; replace BK252 := bb_ BK252 hb; replace HB := Aside0.mk (below_step (bl_ HB).out hb); (try clear hb); (try clear hb2); (try clear hk); (try clear hi); obtain ⟨hcz34_0, hcz34_1, hcz34_2, hcz34_3, hcz34_4, hcz34_5, hcz34_6, hcz34_7, hfz34_0, hfz34_1, hfz34_2, hfz34_3, hfz34_4, hfz34_5, hfz34_6, hfz34_7⟩ := bo8_ BK245) | ((with_reducible refine gate_callee (f := 24) rfl ?_); refine gl_ (some 31) Tryz.func24 #[.int .i64 (wrap64 (a0_7 - (t253.size : Int)))] ?_; (with_reducible refine (num_Zeros.calls (wrap64 (a0_7 - (t253.size : Int))) t257 _ A9.out).mono ?_); rintro e w35 ⟨rfl, hb⟩; refine ⟨_, rfl, ?_⟩; replace BK245 := bb_ BK245 hb; replace BK246 := bb_ BK246 hb; replace BK247 := bb_ BK247 hb; replace BK252 := bb_ BK252 hb; replace HB := Aside0.mk (below_step (bl_ HB).out hb); (try clear hb); (try clear hb2); (try clear hk); (try clear hi); obtain ⟨hcz36_0, hcz36_1, hcz36_2, hfz36_0, hfz36_1, hfz36_2⟩ := bo3_ BK252; obtain ⟨hcz37_0, hcz37_1, hcz37_2, hfz37_0, hfz37_1, hfz37_2⟩ := bo3_ BK247))
          refine bodyPost_ret (results_ct rfl _ _ gb247 38 #[.bool t249, .string (⟨#[48]⟩ : ByteArray), .string t256] (0, 0) _ rfl (by (with_reducible repeat (first | refine blk_drewN ?_ _ | refine blk_drew ?_ | refine blk_alloc ?_ _)); refine blk_put (cs := #[.bool t249, .string (⟨#[48]⟩ : ByteArray), .string (⟨#[]⟩ : ByteArray)]) ?_ 2 _ rfl; (with_reducible repeat (first | refine blk_drewN ?_ _ | refine blk_drew ?_ | refine blk_alloc ?_ _)); refine blk_put (cs := #[.bool t249, .string (⟨#[]⟩ : ByteArray), .string (⟨#[]⟩ : ByteArray)]) ?_ 1 _ rfl; (with_reducible repeat (first | refine blk_drewN ?_ _ | refine blk_drew ?_ | refine blk_alloc ?_ _)); refine blk_put (cs := #[.bool false, .string (⟨#[]⟩ : ByteArray), .string (⟨#[]⟩ : ByteArray)]) ?_ 0 _ rfl; (with_reducible repeat (first | refine blk_drewN ?_ _ | refine blk_drew ?_ | refine blk_alloc ?_ _)); exact BK247.out) Tryz.underlying38 rfl (by kernel_rfl)) rfl ?_
          exact ⟨ew_, (bl_ HB).out⟩
        · rw [if_neg c12] at H
          have c12b0 : (t256.toList == ([] : List UInt8)) = false := beq_eq_false_iff_ne.mpr c12
          have c12b1 : (t256.toList != ([] : List UInt8)) = true := bne_iff_ne.mpr c12
          have c12b2 : (t256.toList.isEmpty) = false := by rw [given_isEmpty, bne_iff_ne.mpr c12]; rfl
          simp only [Option.some.injEq, Prod.mk.injEq] at H
          obtain ⟨rfl, rfl, rfl, rfl⟩ := H
          go_enter Tryz.func9, Tryz.ntmps9
          go_wp2_with (first | ((with_reducible refine gate_dst (N := 2) rfl ?_); refine be_ 2 #[.int .i64 a0_0, .int .i64 a0_1, .int .i64 a0_2, .bool a0_3, .string a0_4, .int .i64 a0_5, .int .i64 a0_6, .int .i64 a0_7] 34 ?_; intro gb245 hg w38 hbox hb; have BK245 := Aside0.mk (hbox); have GW245 := sz_ HB hg; have GE245 := sz_ HB hg; replace HB := Aside0.mk (below_step (bl_ HB).out hb); clear hb hbox hg) | ((with_reducible refine gate_dst (N := 3) rfl ?_); refine be_ 3 #[.bool a1_0, .string a1_1, .int .i64 a1_2] 31 ?_; intro gb246 hg w39 hbox hb; have BK246 := Aside0.mk (hbox); have GW246 := sz_ HB hg; have GE246 := sz_ HB hg; have NB245_246 := na_ BK245 hg; have NB246_245 := nb_ BK245 hg; replace BK245 := bb_ BK245 hb; replace HB := Aside0.mk (below_step (bl_ HB).out hb); clear hb hbox hg) | ((with_reducible refine gate_dst (N := 4) rfl ?_); refine be_ 4 #[.bool false, .string (⟨#[]⟩ : ByteArray), .string (⟨#[]⟩ : ByteArray)] 38 ?_; intro gb247 hg w40 hbox hb; have BK247 := Aside0.mk (hbox); have GW247 := sz_ HB hg; have GE247 := sz_ HB hg; have NB245_247 := na_ BK245 hg; have NB247_245 := nb_ BK245 hg; have NB246_247 := na_ BK246 hg; have NB247_246 := nb_ BK246 hg; replace BK245 := bb_ BK245 hb; replace BK246 := bb_ BK246 hb; replace HB := Aside0.mk (below_step (bl_ HB).out hb); clear hb hbox hg; have hnb41 := NB245_246.out; have hnc41 := NB246_245.out; have hnb42 := NB245_247.out; have hnc42 := NB247_245.out; obtain ⟨hcz43_0, hcz43_1, hcz43_2, hcz43_3, hcz43_4, hcz43_5, hcz43_6, hcz43_7, hfz43_0, hfz43_1, hfz43_2, hfz43_3, hfz43_4, hfz43_5, hfz43_6, hfz43_7⟩ := bo8_ BK245) | ((with_reducible refine gate_callee (f := 10) rfl ?_); refine gl_ (some 10) Tryz.func10 #[.agg #[.int .i64 a0_0, .int .i64 a0_1, .int .i64 a0_2, .bool a0_3, .string a0_4, .int .i64 a0_5, .int .i64 a0_6, .int .i64 a0_7]] ?_; (with_reducible refine (show_Prec_Valid.calls k a0_0 a0_1 a0_2 a0_3 a0_4 a0_5 a0_6 a0_7 true _ A3.out).mono ?_); rintro e w44 ⟨rfl, hb⟩; refine ⟨_, rfl, ?_⟩; replace BK245 := bb_ BK245 hb; replace BK246 := bb_ BK246 hb; replace BK247 := bb_ BK247 hb; replace HB := Aside0.mk (below_step (bl_ HB).out hb); (try clear hb); (try clear hb2); (try clear hk); (try clear hi); obtain ⟨hcz45_0, hcz45_1, hcz45_2, hcz45_3, hcz45_4, hcz45_5, hcz45_6, hcz45_7, hfz45_0, hfz45_1, hfz45_2, hfz45_3, hfz45_4, hfz45_5, hfz45_6, hfz45_7⟩ := bo8_ BK245; have hnb46 := NB246_247.out; have hnc46 := NB247_246.out; obtain ⟨hcz47_0, hcz47_1, hcz47_2, hfz47_0, hfz47_1, hfz47_2⟩ := bo3_ BK246) | ((with_reducible refine gate_callee (f := 12) rfl ?_); refine gl_ (some 15) Tryz.func12 #[.agg #[.int .i64 a0_0, .int .i64 a0_1, .int .i64 a0_2, .bool a0_3, .string a0_4, .int .i64 a0_5, .int .i64 a0_6, .int .i64 a0_7], .agg #[.bool a1_0, .string a1_1, .int .i64 a1_2]] ?_; (with_reducible refine (show_Prec_Round.calls k a0_0 a0_1 a0_2 a0_3 a0_4 a0_5 a0_6 a0_7 a1_0 a1_1 a1_2 t249 t250 t251 _ A5.out).mono ?_); rintro e w48 ⟨rfl, hb⟩; refine ⟨_, rfl, ?_⟩; replace BK245 := bb_ BK245 hb; replace BK246 := bb_ BK246 hb; replace BK247 := bb_ BK247 hb; replace HB := Aside0.mk (below_step (bl_ HB).out hb); (try clear hb); (try clear hb2); (try clear hk); (try clear hi)) | ((with_reducible refine gate_dst (N := 6) rfl ?_); refine be_ 6 #[.bool false, .string (⟨#[]⟩ : ByteArray), .int .i64 0] 31 ?_; intro gb252 hg w49 hbox hb; have BK252 := Aside0.mk (hbox); have GW252 := sz_ HB hg; have GE252 := sz_ HB hg; have NB245_252 := na_ BK245 hg; have NB252_245 := nb_ BK245 hg; have NB246_252 := na_ BK246 hg; have NB252_246 := nb_ BK246 hg; have NB247_252 := na_ BK247 hg; have NB252_247 := nb_ BK247 hg; replace BK245 := bb_ BK245 hb; replace BK246 := bb_ BK246 hb; replace BK247 := bb_ BK247 hb; replace HB := Aside0.mk (below_step (bl_ HB).out hb); clear hb hbox hg; have hnb50 := NB252_245.out; have hnc50 := NB245_252.out; have hnb51 := NB252_246.out; have hnc51 := NB246_252.out; have hnb52 := NB252_247.out; have hnc52 := NB247_252.out; obtain ⟨hcz53_0, hcz53_1, hcz53_2, hfz53_0, hfz53_1, hfz53_2⟩ := bo3_ BK252) | ((with_reducible refine gate_callee (f := 21) rfl ?_); refine gl_ (some 18) Tryz.func21 #[.agg #[.bool t249, .string t250, .int .i64 t251]] ?_; (with_reducible refine (dec_Dec_Parts.calls k t249 t250 t251 t253 t254 _ A6.out).mono ?_); rintro e w54 ⟨rfl, hb⟩; refine ⟨_, rfl, ?_⟩; have n0_ := Aside0.mk (blk_below (g := gb245) (o := .cells #[.int .i64 a0_0, .int .i64 a0_1, .int .i64 a0_2, .bool a0_3, .string a0_4, .int .i64 a0_5, .int .i64 a0_6, .int .i64 a0_7] 34 (0, 0)) (by (with_reducible repeat (first | refine blk_drewN ?_ _ | refine blk_drew ?_ | refine blk_alloc ?_ _)); refine blk_far ?_ NB245_252.out _; (with_reducible repeat (first | refine blk_drewN ?_ _ | refine blk_drew ?_ | refine blk_alloc ?_ _)); refine blk_far ?_ NB245_252.out _; (with_reducible repeat (first | refine blk_drewN ?_ _ | refine blk_drew ?_ | refine blk_alloc ?_ _)); refine blk_far ?_ NB245_252.out _; (with_reducible repeat (first | refine blk_drewN ?_ _ | refine blk_drew ?_ | refine blk_alloc ?_ _)); exact BK245.out) hb); have n1_ := Aside0.mk (blk_below (g := gb246) (o := .cells #[.bool a1_0, .string a1_1, .int .i64 a1_2] 31 (0, 0)) (by (with_reducible repeat (first | refine blk_drewN ?_ _ | refine blk_drew ?_ | refine blk_alloc ?_ _)); refine blk_far ?_ NB246_252.out _; (with_reducible repeat (first | refine blk_drewN ?_ _ | refine blk_drew ?_ | refine blk_alloc ?_ _)); refine blk_far ?_ NB246_252.out _; (with_reducible repeat (first | refine blk_drewN ?_ _ | refine blk_drew ?_ | refine blk_alloc ?_ _)); refine blk_far ?_ NB246_252.out _; (with_reducible repeat (first | refine blk_drewN ?_ _ | refine blk_drew ?_ | refine blk_alloc ?_ _)); exact BK246.out) hb); have n2_ := Aside0.mk (blk_below (g := gb247) (o := .cells #[.bool false, .string (⟨#[]⟩ : ByteArray), .string (⟨#[]⟩ : ByteArray)] 38 (0, 0)) (by (with_reducible repeat (first | refine blk_drewN ?_ _ | refine blk_drew ?_ | refine blk_alloc ?_ _)); refine blk_far ?_ NB247_252.out _; (with_reducible repeat (first | refine blk_drewN ?_ _ | refine blk_drew ?_ | refine blk_alloc ?_ _)); refine blk_far ?_ NB247_252.out _; (with_reducible repeat (first | refine blk_drewN ?_ _ | refine blk_drew ?_ | refine blk_alloc ?_ _)); refine blk_far ?_ NB247_252.out _; (with_reducible repeat (first | refine blk_drewN ?_ _ | refine blk_drew ?_ | refine blk_alloc ?_ _)); exact BK247.out) hb); have n3_ := Aside0.mk (blk_below (g := gb252) (o := .cells #[.bool t249, .string t250, .int .i64 t251] 31 (0, 0)) (by (with_reducible repeat (first | refine blk_drewN ?_ _ | refine blk_drew ?_ | refine blk_alloc ?_ _)); refine blk_put (cs := #[.bool t249, .string t250, .int .i64 0]) ?_ 2 _ rfl; (with_reducible repeat (first | refine blk_drewN ?_ _ | refine blk_drew ?_ | refine blk_alloc ?_ _)); refine blk_put (cs := #[.bool t249, .string (⟨#[]⟩ : ByteArray), .int .i64 0]) ?_ 1 _ rfl; (with_reducible repeat (first | refine blk_drewN ?_ _ | refine blk_drew ?_ | refine blk_alloc ?_ _)); refine blk_put (cs := #[.bool false, .string (⟨#[]⟩ : ByteArray), .int .i64 0]) ?_ 0 _ rfl; (with_reducible repeat (first | refine blk_drewN ?_ _ | refine blk_drew ?_ | refine blk_alloc ?_ _)); exact BK252.out) hb); have n4_ := Aside0.mk (below_step (bl_ HB).out hb); clear BK245; clear BK246; clear BK247; clear BK252; clear HB; have BK245 := n0_; have BK246 := n1_; have BK247 := n2_; have BK252 := n3_; have HB := n4_; clear n0_ n1_ n2_ n3_ n4_; (try clear hb); (try clear hb2); (try clear hk); (try clear hi); obtain ⟨hcz55_0, hcz55_1, hcz55_2, hcz55_3, hcz55_4, hcz55_5, hcz55_6, hcz55_7, hfz55_0, hfz55_1, hfz55_2, hfz55_3, hfz55_4, hfz55_5, hfz55_6, hfz55_7⟩ := bo8_ BK245; obtain ⟨hcz56_0, hcz56_1, hcz56_2, hfz56_0, hfz56_1, hfz56_2⟩ := bo3_ BK252) | ((with_reducible refine gate_callee (f := 23) rfl ?_); refine gl_ (some 24) Tryz.func23 #[.agg #[.int .i64 a0_0, .int .i64 a0_1, .int .i64 a0_2, .bool a0_3, .string a0_4, .int .i64 a0_5, .int .i64 a0_6, .int .i64 a0_7], .agg #[.bool t249, .string t250, .int .i64 t251]] ?_; (with_reducible refine (show_Prec_least.calls k a0_0 a0_1 a0_2 a0_3 a0_4 a0_5 a0_6 a0_7 t249 t250 t251 t255 _ A7.out).mono ?_); rintro e w57 ⟨rfl, hb⟩; refine ⟨_, rfl, ?_⟩; replace BK245 := bb_ BK245 hb; replace BK246 := bb_ BK246 hb; replace BK247 := bb_ BK247 hb; replace BK252 := bb_ BK252 hb; replace HB := Aside0.mk (below_step (bl_ HB).out hb); (try clear hb); (try clear hb2); (try clear hk); (try clear hi)) | ((with_reducible refine gate_callee (f := 22) rfl ?_); refine gl_ (some 25) Tryz.func22 #[.string t254, .int .i64 t255] ?_; (with_reducible refine (show_pad.calls t254 t255 t256 _ A8.out).mono ?_); rintro e w58 ⟨rfl, hb⟩; refine ⟨_, rfl, ?_⟩; replace BK245 := bb_ BK245 hb; replace BK246 := bb_ BK246 hb; replace BK247 := bb_ BK247 hb; replace BK252 := bb_ BK252 hb; replace HB := Aside0.mk (below_step (bl_ HB).out hb); (try clear hb); (try clear hb2); (try clear hk); (try clear hi); obtain ⟨hcz59_0, hcz59_1, hcz59_2, hcz59_3, hcz59_4, hcz59_5, hcz59_6, hcz59_7, hfz59_0, hfz59_1, hfz59_2, hfz59_3, hfz59_4, hfz59_5, hfz59_6, hfz59_7⟩ := bo8_ BK245) | ((with_reducible refine gate_callee (f := 24) rfl ?_); refine gl_ (some 31) Tryz.func24 #[.int .i64 (wrap64 (a0_7 - (t253.size : Int)))] ?_; (with_reducible refine (num_Zeros.calls (wrap64 (a0_7 - (t253.size : Int))) t257 _ A9.out).mono ?_); rintro e w60 ⟨rfl, hb⟩; refine ⟨_, rfl, ?_⟩; replace BK245 := bb_ BK245 hb; replace BK246 := bb_ BK246 hb; replace BK247 := bb_ BK247 hb; replace BK252 := bb_ BK252 hb; replace HB := Aside0.mk (below_step (bl_ HB).out hb); (try clear hb); (try clear hb2); (try clear hk); (try clear hi); obtain ⟨hcz61_0, hcz61_1, hcz61_2, hfz61_0, hfz61_1, hfz61_2⟩ := bo3_ BK252; obtain ⟨hcz62_0, hcz62_1, hcz62_2, hfz62_0, hfz62_1, hfz62_2⟩ := bo3_ BK247))
          refine bodyPost_ret (results_ct rfl _ _ gb247 38 #[.bool t249, .string (t257 ++ t253), .string t256] (0, 0) _ rfl (by (with_reducible repeat (first | refine blk_drewN ?_ _ | refine blk_drew ?_ | refine blk_alloc ?_ _)); refine blk_put (cs := #[.bool t249, .string (t257 ++ t253), .string (⟨#[]⟩ : ByteArray)]) ?_ 2 _ rfl; (with_reducible repeat (first | refine blk_drewN ?_ _ | refine blk_drew ?_ | refine blk_alloc ?_ _)); refine blk_put (cs := #[.bool t249, .string (⟨#[]⟩ : ByteArray), .string (⟨#[]⟩ : ByteArray)]) ?_ 1 _ rfl; (with_reducible repeat (first | refine blk_drewN ?_ _ | refine blk_drew ?_ | refine blk_alloc ?_ _)); refine blk_put (cs := #[.bool false, .string (⟨#[]⟩ : ByteArray), .string (⟨#[]⟩ : ByteArray)]) ?_ 0 _ rfl; (with_reducible repeat (first | refine blk_drewN ?_ _ | refine blk_drew ?_ | refine blk_alloc ?_ _)); exact BK247.out) Tryz.underlying38 rfl (by kernel_rfl)) rfl ?_
          exact ⟨ew_, (bl_ HB).out⟩
      · rw [if_neg c11] at H
        have c11b0 : ((t257 ++ t253).toList == ([] : List UInt8)) = false := beq_eq_false_iff_ne.mpr c11
        have c11b1 : ((t257 ++ t253).toList != ([] : List UInt8)) = true := bne_iff_ne.mpr c11
        have c11b2 : ((t257 ++ t253).toList.isEmpty) = false := by rw [given_isEmpty, bne_iff_ne.mpr c11]; rfl
        simp only [Option.some.injEq, Prod.mk.injEq] at H
        obtain ⟨rfl, rfl, rfl, rfl⟩ := H
        go_enter Tryz.func9, Tryz.ntmps9
        go_wp2_with (first | ((with_reducible refine gate_dst (N := 2) rfl ?_); refine be_ 2 #[.int .i64 a0_0, .int .i64 a0_1, .int .i64 a0_2, .bool a0_3, .string a0_4, .int .i64 a0_5, .int .i64 a0_6, .int .i64 a0_7] 34 ?_; intro gb245 hg w63 hbox hb; have BK245 := Aside0.mk (hbox); have GW245 := sz_ HB hg; have GE245 := sz_ HB hg; replace HB := Aside0.mk (below_step (bl_ HB).out hb); clear hb hbox hg) | ((with_reducible refine gate_dst (N := 3) rfl ?_); refine be_ 3 #[.bool a1_0, .string a1_1, .int .i64 a1_2] 31 ?_; intro gb246 hg w64 hbox hb; have BK246 := Aside0.mk (hbox); have GW246 := sz_ HB hg; have GE246 := sz_ HB hg; have NB245_246 := na_ BK245 hg; have NB246_245 := nb_ BK245 hg; replace BK245 := bb_ BK245 hb; replace HB := Aside0.mk (below_step (bl_ HB).out hb); clear hb hbox hg) | ((with_reducible refine gate_dst (N := 4) rfl ?_); refine be_ 4 #[.bool false, .string (⟨#[]⟩ : ByteArray), .string (⟨#[]⟩ : ByteArray)] 38 ?_; intro gb247 hg w65 hbox hb; have BK247 := Aside0.mk (hbox); have GW247 := sz_ HB hg; have GE247 := sz_ HB hg; have NB245_247 := na_ BK245 hg; have NB247_245 := nb_ BK245 hg; have NB246_247 := na_ BK246 hg; have NB247_246 := nb_ BK246 hg; replace BK245 := bb_ BK245 hb; replace BK246 := bb_ BK246 hb; replace HB := Aside0.mk (below_step (bl_ HB).out hb); clear hb hbox hg; have hnb66 := NB245_246.out; have hnc66 := NB246_245.out; have hnb67 := NB245_247.out; have hnc67 := NB247_245.out; obtain ⟨hcz68_0, hcz68_1, hcz68_2, hcz68_3, hcz68_4, hcz68_5, hcz68_6, hcz68_7, hfz68_0, hfz68_1, hfz68_2, hfz68_3, hfz68_4, hfz68_5, hfz68_6, hfz68_7⟩ := bo8_ BK245) | ((with_reducible refine gate_callee (f := 10) rfl ?_); refine gl_ (some 10) Tryz.func10 #[.agg #[.int .i64 a0_0, .int .i64 a0_1, .int .i64 a0_2, .bool a0_3, .string a0_4, .int .i64 a0_5, .int .i64 a0_6, .int .i64 a0_7]] ?_; (with_reducible refine (show_Prec_Valid.calls k a0_0 a0_1 a0_2 a0_3 a0_4 a0_5 a0_6 a0_7 true _ A3.out).mono ?_); rintro e w69 ⟨rfl, hb⟩; refine ⟨_, rfl, ?_⟩; replace BK245 := bb_ BK245 hb; replace BK246 := bb_ BK246 hb; replace BK247 := bb_ BK247 hb; replace HB := Aside0.mk (below_step (bl_ HB).out hb); (try clear hb); (try clear hb2); (try clear hk); (try clear hi); obtain ⟨hcz70_0, hcz70_1, hcz70_2, hcz70_3, hcz70_4, hcz70_5, hcz70_6, hcz70_7, hfz70_0, hfz70_1, hfz70_2, hfz70_3, hfz70_4, hfz70_5, hfz70_6, hfz70_7⟩ := bo8_ BK245; have hnb71 := NB246_247.out; have hnc71 := NB247_246.out; obtain ⟨hcz72_0, hcz72_1, hcz72_2, hfz72_0, hfz72_1, hfz72_2⟩ := bo3_ BK246) | ((with_reducible refine gate_callee (f := 12) rfl ?_); refine gl_ (some 15) Tryz.func12 #[.agg #[.int .i64 a0_0, .int .i64 a0_1, .int .i64 a0_2, .bool a0_3, .string a0_4, .int .i64 a0_5, .int .i64 a0_6, .int .i64 a0_7], .agg #[.bool a1_0, .string a1_1, .int .i64 a1_2]] ?_; (with_reducible refine (show_Prec_Round.calls k a0_0 a0_1 a0_2 a0_3 a0_4 a0_5 a0_6 a0_7 a1_0 a1_1 a1_2 t249 t250 t251 _ A5.out).mono ?_); rintro e w73 ⟨rfl, hb⟩; refine ⟨_, rfl, ?_⟩; replace BK245 := bb_ BK245 hb; replace BK246 := bb_ BK246 hb; replace BK247 := bb_ BK247 hb; replace HB := Aside0.mk (below_step (bl_ HB).out hb); (try clear hb); (try clear hb2); (try clear hk); (try clear hi)) | ((with_reducible refine gate_dst (N := 6) rfl ?_); refine be_ 6 #[.bool false, .string (⟨#[]⟩ : ByteArray), .int .i64 0] 31 ?_; intro gb252 hg w74 hbox hb; have BK252 := Aside0.mk (hbox); have GW252 := sz_ HB hg; have GE252 := sz_ HB hg; have NB245_252 := na_ BK245 hg; have NB252_245 := nb_ BK245 hg; have NB246_252 := na_ BK246 hg; have NB252_246 := nb_ BK246 hg; have NB247_252 := na_ BK247 hg; have NB252_247 := nb_ BK247 hg; replace BK245 := bb_ BK245 hb; replace BK246 := bb_ BK246 hb; replace BK247 := bb_ BK247 hb; replace HB := Aside0.mk (below_step (bl_ HB).out hb); clear hb hbox hg; have hnb75 := NB252_245.out; have hnc75 := NB245_252.out; have hnb76 := NB252_246.out; have hnc76 := NB246_252.out; have hnb77 := NB252_247.out; have hnc77 := NB247_252.out; obtain ⟨hcz78_0, hcz78_1, hcz78_2, hfz78_0, hfz78_1, hfz78_2⟩ := bo3_ BK252) | ((with_reducible refine gate_callee (f := 21) rfl ?_); refine gl_ (some 18) Tryz.func21 #[.agg #[.bool t249, .string t250, .int .i64 t251]] ?_; (with_reducible refine (dec_Dec_Parts.calls k t249 t250 t251 t253 t254 _ A6.out).mono ?_); rintro e w79 ⟨rfl, hb⟩; refine ⟨_, rfl, ?_⟩; have n0_ := Aside0.mk (blk_below (g := gb245) (o := .cells #[.int .i64 a0_0, .int .i64 a0_1, .int .i64 a0_2, .bool a0_3, .string a0_4, .int .i64 a0_5, .int .i64 a0_6, .int .i64 a0_7] 34 (0, 0)) (by (with_reducible repeat (first | refine blk_drewN ?_ _ | refine blk_drew ?_ | refine blk_alloc ?_ _)); refine blk_far ?_ NB245_252.out _; (with_reducible repeat (first | refine blk_drewN ?_ _ | refine blk_drew ?_ | refine blk_alloc ?_ _)); refine blk_far ?_ NB245_252.out _; (with_reducible repeat (first | refine blk_drewN ?_ _ | refine blk_drew ?_ | refine blk_alloc ?_ _)); refine blk_far ?_ NB245_252.out _; (with_reducible repeat (first | refine blk_drewN ?_ _ | refine blk_drew ?_ | refine blk_alloc ?_ _)); exact BK245.out) hb); have n1_ := Aside0.mk (blk_below (g := gb246) (o := .cells #[.bool a1_0, .string a1_1, .int .i64 a1_2] 31 (0, 0)) (by (with_reducible repeat (first | refine blk_drewN ?_ _ | refine blk_drew ?_ | refine blk_alloc ?_ _)); refine blk_far ?_ NB246_252.out _; (with_reducible repeat (first | refine blk_drewN ?_ _ | refine blk_drew ?_ | refine blk_alloc ?_ _)); refine blk_far ?_ NB246_252.out _; (with_reducible repeat (first | refine blk_drewN ?_ _ | refine blk_drew ?_ | refine blk_alloc ?_ _)); refine blk_far ?_ NB246_252.out _; (with_reducible repeat (first | refine blk_drewN ?_ _ | refine blk_drew ?_ | refine blk_alloc ?_ _)); exact BK246.out) hb); have n2_ := Aside0.mk (blk_below (g := gb247) (o := .cells #[.bool false, .string (⟨#[]⟩ : ByteArray), .string (⟨#[]⟩ : ByteArray)] 38 (0, 0)) (by (with_reducible repeat (first | refine blk_drewN ?_ _ | refine blk_drew ?_ | refine blk_alloc ?_ _)); refine blk_far ?_ NB247_252.out _; (with_reducible repeat (first | refine blk_drewN ?_ _ | refine blk_drew ?_ | refine blk_alloc ?_ _)); refine blk_far ?_ NB247_252.out _; (with_reducible repeat (first | refine blk_drewN ?_ _ | refine blk_drew ?_ | refine blk_alloc ?_ _)); refine blk_far ?_ NB247_252.out _; (with_reducible repeat (first | refine blk_drewN ?_ _ | refine blk_drew ?_ | refine blk_alloc ?_ _)); exact BK247.out) hb); have n3_ := Aside0.mk (blk_below (g := gb252) (o := .cells #[.bool t249, .string t250, .int .i64 t251] 31 (0, 0)) (by (with_reducible repeat (first | refine blk_drewN ?_ _ | refine blk_drew ?_ | refine blk_alloc ?_ _)); refine blk_put (cs := #[.bool t249, .string t250, .int .i64 0]) ?_ 2 _ rfl; (with_reducible repeat (first | refine blk_drewN ?_ _ | refine blk_drew ?_ | refine blk_alloc ?_ _)); refine blk_put (cs := #[.bool t249, .string (⟨#[]⟩ : ByteArray), .int .i64 0]) ?_ 1 _ rfl; (with_reducible repeat (first | refine blk_drewN ?_ _ | refine blk_drew ?_ | refine blk_alloc ?_ _)); refine blk_put (cs := #[.bool false, .string (⟨#[]⟩ : ByteArray), .int .i64 0]) ?_ 0 _ rfl; (with_reducible repeat (first | refine blk_drewN ?_ _ | refine blk_drew ?_ | refine blk_alloc ?_ _)); exact BK252.out) hb); have n4_ := Aside0.mk (below_step (bl_ HB).out hb); clear BK245; clear BK246; clear BK247; clear BK252; clear HB; have BK245 := n0_; have BK246 := n1_; have BK247 := n2_; have BK252 := n3_; have HB := n4_; clear n0_ n1_ n2_ n3_ n4_; (try clear hb); (try clear hb2); (try clear hk); (try clear hi); obtain ⟨hcz80_0, hcz80_1, hcz80_2, hcz80_3, hcz80_4, hcz80_5, hcz80_6, hcz80_7, hfz80_0, hfz80_1, hfz80_2, hfz80_3, hfz80_4, hfz80_5, hfz80_6, hfz80_7⟩ := bo8_ BK245; obtain ⟨hcz81_0, hcz81_1, hcz81_2, hfz81_0, hfz81_1, hfz81_2⟩ := bo3_ BK252) | ((with_reducible refine gate_callee (f := 23) rfl ?_); refine gl_ (some 24) Tryz.func23 #[.agg #[.int .i64 a0_0, .int .i64 a0_1, .int .i64 a0_2, .bool a0_3, .string a0_4, .int .i64 a0_5, .int .i64 a0_6, .int .i64 a0_7], .agg #[.bool t249, .string t250, .int .i64 t251]] ?_; (with_reducible refine (show_Prec_least.calls k a0_0 a0_1 a0_2 a0_3 a0_4 a0_5 a0_6 a0_7 t249 t250 t251 t255 _ A7.out).mono ?_); rintro e w82 ⟨rfl, hb⟩; refine ⟨_, rfl, ?_⟩; replace BK245 := bb_ BK245 hb; replace BK246 := bb_ BK246 hb; replace BK247 := bb_ BK247 hb; replace BK252 := bb_ BK252 hb; replace HB := Aside0.mk (below_step (bl_ HB).out hb); (try clear hb); (try clear hb2); (try clear hk); (try clear hi)) | ((with_reducible refine gate_callee (f := 22) rfl ?_); refine gl_ (some 25) Tryz.func22 #[.string t254, .int .i64 t255] ?_; (with_reducible refine (show_pad.calls t254 t255 t256 _ A8.out).mono ?_); rintro e w83 ⟨rfl, hb⟩; refine ⟨_, rfl, ?_⟩; replace BK245 := bb_ BK245 hb; replace BK246 := bb_ BK246 hb; replace BK247 := bb_ BK247 hb; replace BK252 := bb_ BK252 hb; replace HB := Aside0.mk (below_step (bl_ HB).out hb); (try clear hb); (try clear hb2); (try clear hk); (try clear hi); obtain ⟨hcz84_0, hcz84_1, hcz84_2, hcz84_3, hcz84_4, hcz84_5, hcz84_6, hcz84_7, hfz84_0, hfz84_1, hfz84_2, hfz84_3, hfz84_4, hfz84_5, hfz84_6, hfz84_7⟩ := bo8_ BK245) | ((with_reducible refine gate_callee (f := 24) rfl ?_); refine gl_ (some 31) Tryz.func24 #[.int .i64 (wrap64 (a0_7 - (t253.size : Int)))] ?_; (with_reducible refine (num_Zeros.calls (wrap64 (a0_7 - (t253.size : Int))) t257 _ A9.out).mono ?_); rintro e w85 ⟨rfl, hb⟩; refine ⟨_, rfl, ?_⟩; replace BK245 := bb_ BK245 hb; replace BK246 := bb_ BK246 hb; replace BK247 := bb_ BK247 hb; replace BK252 := bb_ BK252 hb; replace HB := Aside0.mk (below_step (bl_ HB).out hb); (try clear hb); (try clear hb2); (try clear hk); (try clear hi); obtain ⟨hcz86_0, hcz86_1, hcz86_2, hfz86_0, hfz86_1, hfz86_2⟩ := bo3_ BK252; obtain ⟨hcz87_0, hcz87_1, hcz87_2, hfz87_0, hfz87_1, hfz87_2⟩ := bo3_ BK247))
        refine bodyPost_ret (results_ct rfl _ _ gb247 38 #[.bool t249, .string (t257 ++ t253), .string t256] (0, 0) _ rfl (by (with_reducible repeat (first | refine blk_drewN ?_ _ | refine blk_drew ?_ | refine blk_alloc ?_ _)); refine blk_put (cs := #[.bool t249, .string (t257 ++ t253), .string (⟨#[]⟩ : ByteArray)]) ?_ 2 _ rfl; (with_reducible repeat (first | refine blk_drewN ?_ _ | refine blk_drew ?_ | refine blk_alloc ?_ _)); refine blk_put (cs := #[.bool t249, .string (⟨#[]⟩ : ByteArray), .string (⟨#[]⟩ : ByteArray)]) ?_ 1 _ rfl; (with_reducible repeat (first | refine blk_drewN ?_ _ | refine blk_drew ?_ | refine blk_alloc ?_ _)); refine blk_put (cs := #[.bool false, .string (⟨#[]⟩ : ByteArray), .string (⟨#[]⟩ : ByteArray)]) ?_ 0 _ rfl; (with_reducible repeat (first | refine blk_drewN ?_ _ | refine blk_drew ?_ | refine blk_alloc ?_ _)); exact BK247.out) Tryz.underlying38 rfl (by kernel_rfl)) rfl ?_
        exact ⟨ew_, (bl_ HB).out⟩
    · rw [if_neg c10] at H
      exact absurd H (by simp)
  · replace c4 := Bool.eq_false_iff.mpr c4
    subst c4
    have H1 : (some (false, (⟨#[]⟩ : ByteArray), (⟨#[]⟩ : ByteArray), 3)) = some (r1, r2, r3, r4) := by rw [if_neg (show ¬ (false = true) by decide)] at H; exact H
    clear H
    have H := H1
    clear H1
    simp only [Option.some.injEq, Prod.mk.injEq] at H
    obtain ⟨rfl, rfl, rfl, rfl⟩ := H
    go_enter Tryz.func9, Tryz.ntmps9
    go_wp2_with (first | ((with_reducible refine gate_dst (N := 2) rfl ?_); refine be_ 2 #[.int .i64 a0_0, .int .i64 a0_1, .int .i64 a0_2, .bool a0_3, .string a0_4, .int .i64 a0_5, .int .i64 a0_6, .int .i64 a0_7] 34 ?_; intro gb245 hg w88 hbox hb; have BK245 := Aside0.mk (hbox); have GW245 := sz_ HB hg; have GE245 := sz_ HB hg; replace HB := Aside0.mk (below_step (bl_ HB).out hb); clear hb hbox hg) | ((with_reducible refine gate_dst (N := 3) rfl ?_); refine be_ 3 #[.bool a1_0, .string a1_1, .int .i64 a1_2] 31 ?_; intro gb246 hg w89 hbox hb; have BK246 := Aside0.mk (hbox); have GW246 := sz_ HB hg; have GE246 := sz_ HB hg; have NB245_246 := na_ BK245 hg; have NB246_245 := nb_ BK245 hg; replace BK245 := bb_ BK245 hb; replace HB := Aside0.mk (below_step (bl_ HB).out hb); clear hb hbox hg) | ((with_reducible refine gate_dst (N := 4) rfl ?_); refine be_ 4 #[.bool false, .string (⟨#[]⟩ : ByteArray), .string (⟨#[]⟩ : ByteArray)] 38 ?_; intro gb247 hg w90 hbox hb; have BK247 := Aside0.mk (hbox); have GW247 := sz_ HB hg; have GE247 := sz_ HB hg; have NB245_247 := na_ BK245 hg; have NB247_245 := nb_ BK245 hg; have NB246_247 := na_ BK246 hg; have NB247_246 := nb_ BK246 hg; replace BK245 := bb_ BK245 hb; replace BK246 := bb_ BK246 hb; replace HB := Aside0.mk (below_step (bl_ HB).out hb); clear hb hbox hg; have hnb91 := NB245_246.out; have hnc91 := NB246_245.out; have hnb92 := NB245_247.out; have hnc92 := NB247_245.out; obtain ⟨hcz93_0, hcz93_1, hcz93_2, hcz93_3, hcz93_4, hcz93_5, hcz93_6, hcz93_7, hfz93_0, hfz93_1, hfz93_2, hfz93_3, hfz93_4, hfz93_5, hfz93_6, hfz93_7⟩ := bo8_ BK245) | ((with_reducible refine gate_callee (f := 10) rfl ?_); refine gl_ (some 10) Tryz.func10 #[.agg #[.int .i64 a0_0, .int .i64 a0_1, .int .i64 a0_2, .bool a0_3, .string a0_4, .int .i64 a0_5, .int .i64 a0_6, .int .i64 a0_7]] ?_; (with_reducible refine (show_Prec_Valid.calls k a0_0 a0_1 a0_2 a0_3 a0_4 a0_5 a0_6 a0_7 false _ A3.out).mono ?_); rintro e w94 ⟨rfl, hb⟩; refine ⟨_, rfl, ?_⟩; replace BK245 := bb_ BK245 hb; replace BK246 := bb_ BK246 hb; replace BK247 := bb_ BK247 hb; replace HB := Aside0.mk (below_step (bl_ HB).out hb); (try clear hb); (try clear hb2); (try clear hk); (try clear hi); have hnb95 := NB247_246.out; have hnc95 := NB246_247.out; obtain ⟨hcz96_0, hcz96_1, hcz96_2, hfz96_0, hfz96_1, hfz96_2⟩ := bo3_ BK247))
    refine bodyPost_ret (results_ct rfl _ _ gb247 38 #[.bool false, .string (⟨#[]⟩ : ByteArray), .string (⟨#[]⟩ : ByteArray)] (0, 0) _ rfl (by (with_reducible repeat (first | refine blk_drewN ?_ _ | refine blk_drew ?_ | refine blk_alloc ?_ _)); refine blk_put (cs := #[.bool false, .string (⟨#[]⟩ : ByteArray), .string (⟨#[]⟩ : ByteArray)]) ?_ 2 _ rfl; (with_reducible repeat (first | refine blk_drewN ?_ _ | refine blk_drew ?_ | refine blk_alloc ?_ _)); refine blk_put (cs := #[.bool false, .string (⟨#[]⟩ : ByteArray), .string (⟨#[]⟩ : ByteArray)]) ?_ 1 _ rfl; (with_reducible repeat (first | refine blk_drewN ?_ _ | refine blk_drew ?_ | refine blk_alloc ?_ _)); refine blk_put (cs := #[.bool false, .string (⟨#[]⟩ : ByteArray), .string (⟨#[]⟩ : ByteArray)]) ?_ 0 _ rfl; (with_reducible repeat (first | refine blk_drewN ?_ _ | refine blk_drew ?_ | refine blk_alloc ?_ _)); exact BK247.out) Tryz.underlying38 rfl (by kernel_rfl)) rfl ?_
    exact ⟨ew_, (bl_ HB).out⟩

end Go.Proofs.YthkpmiajcmihjaaGreatDoor.P
