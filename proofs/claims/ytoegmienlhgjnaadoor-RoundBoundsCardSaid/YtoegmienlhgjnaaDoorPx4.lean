-- written by a program of this session (wip/p2)
import Derived.Test.YtoegmienlhgjnaaDoorPx0
import Derived.Test.YtoegmienlhgjnaaDoorPx2
import Derived.Test.YtoegmienlhgjnaaDoorPx3
namespace Go.Proofs.YtoegmienlhgjnaaDoor.P
open Go.RowKit Go.Proofs.YtoegmienlhgjnaaDoorW.PrintWords Go.Proofs.YtoegmienlhgjnaaDoorW.PrintLast Go.Proofs.YtoegmienlhgjnaaDoorW.PrintMore
attribute [local go_sem] max2_int min2_int max_two min_two max_three min_three max_four min_four   -- for this text's walks alone
set_option linter.unusedVariables false
set_option linter.unusedSimpArgs false

/-! ### round_At: function 13 -/
def round_At.j0 : Nat → Int → Int → Bool → Bool → ByteArray → Int → Option (Bool × ByteArray × Int)
  | 0, _, _, _, _, _, _ => none
  | k + 1, x1, x2, x24, x136000, x136001, x136002 => if x24 = true then (some (x136000, x136001, x136002)) else ((num_Zeros.f (wrap64 ((wrap64 (x1 - x136002)) - (x136001.size : Int)))).bind fun t141 => (if t141.size + x136001.size ≤ 9223372036854775807 then (if 0 ≤ (wrap64 (((t141 ++ x136001).size : Int) - (wrap64 (x1 - x136002)))) then (if (wrap64 (((t141 ++ x136001).size : Int) - (wrap64 (x1 - x136002)))) ≤ ((t141 ++ x136001).size : Int) then ((round_odd.f ((t141 ++ x136001).extract 0 ((wrap64 (((t141 ++ x136001).size : Int) - (wrap64 (x1 - x136002)))) : Int).toNat)).bind fun t142 => ((round_tail.f ((t141 ++ x136001).extract ((wrap64 (((t141 ++ x136001).size : Int) - (wrap64 (x1 - x136002)))) : Int).toNat (t141 ++ x136001).size)).bind fun t143 => ((round_Mode_up.f x2 x136000 t142 t143).bind fun t144 => ((round_step.f k ((t141 ++ x136001).extract 0 ((wrap64 (((t141 ++ x136001).size : Int) - (wrap64 (x1 - x136002)))) : Int).toNat) t144).bind fun t145 => ((dec_Made.f k x136000 t145 x1).bind fun bt146 => (some (bt146.1, bt146.2.1, bt146.2.2))))))) else (none)) else (none)) else (none)))
def round_At.f (k : Nat) (a0_0 : Bool) (a0_1 : ByteArray) (a0_2 : Int) (a1 : Int) (a2 : Int) : Option (Bool × ByteArray × Int) := (dec_Dec_Norm.f k a0_0 a0_1 a0_2).bind fun bt137 => (if bt137.2.2 ≥ (mn (mx a1 (-30000)) 30000) then (round_At.j0 k (mn (mx a1 (-30000)) 30000) a2 true bt137.1 bt137.2.1 bt137.2.2) else ((round_Mode_Valid.f a2).bind fun t140 => (round_At.j0 k (mn (mx a1 (-30000)) 30000) a2 (!t140) bt137.1 bt137.2.1 bt137.2.2)))
theorem round_At.mono_l : ∀ k, (∀ y0 y1 y2 y3 y4 y5, LeO (round_At.j0 k y0 y1 y2 y3 y4 y5) (round_At.j0 (k + 1) y0 y1 y2 y3 y4 y5))
  | 0 => fun _ _ _ _ _ _ r h => by simp [round_At.j0] at h
  | k + 1 => by
    have ih0 := round_At.mono_l k
    · intro y0 y1 y2 y3 y4 y5
      unfold round_At.j0
      repeat' first
      | (with_reducible exact ih0 _ _ _ _ _ _)
      | (with_reducible exact dec_Dec_Norm.mono _ _ _ _)
      | (with_reducible exact dec_Made.mono _ _ _ _)
      | (with_reducible exact round_step.mono _ _ _)
      | (with_reducible exact LeO.refl _)
      | (with_reducible exact LeO.none _)
      | (with_reducible refine LeO.ite ?_ ?_)
      | (with_reducible refine LeO.bind ?_ (fun _ => ?_))
      | exact ih0 _ _ _ _ _ _
      | exact dec_Dec_Norm.mono _ _ _ _
      | exact dec_Made.mono _ _ _ _
      | exact round_step.mono _ _ _
      | exact LeO.none _
      | refine LeO.ite ?_ ?_
      | refine LeO.bind ?_ (fun _ => ?_)
theorem round_At.mono : ∀ a0 a1 a2 a3 a4 k, LeO (round_At.f k a0 a1 a2 a3 a4) (round_At.f (k + 1) a0 a1 a2 a3 a4) := by
  intro a0 a1 a2 a3 a4 k
  have ih0 := round_At.mono_l k
  unfold round_At.f
  repeat' first
      | (with_reducible exact ih0 _ _ _ _ _ _)
      | (with_reducible exact dec_Dec_Norm.mono _ _ _ _)
      | (with_reducible exact dec_Made.mono _ _ _ _)
      | (with_reducible exact round_step.mono _ _ _)
      | (with_reducible exact LeO.refl _)
      | (with_reducible exact LeO.none _)
      | (with_reducible refine LeO.ite ?_ ?_)
      | (with_reducible refine LeO.bind ?_ (fun _ => ?_))
      | exact ih0 _ _ _ _ _ _
      | exact dec_Dec_Norm.mono _ _ _ _
      | exact dec_Made.mono _ _ _ _
      | exact round_step.mono _ _ _
      | exact LeO.none _
      | refine LeO.ite ?_ ?_
      | refine LeO.bind ?_ (fun _ => ?_)
def round_At.T6 : Bool × List (List Nat × List Nat) := (true, [([], []), ([], []), ([1], [1]), ([2], [2]), ([0, 3], [0, 3]), ([4], [4]), ([], []), ([6], [6]), ([5, 7], [5, 7]), ([8, 5, 0, 1, 2, 3, 4, 5, 6, 7, 8], [8])])
def round_At.B6 : List Nat := [0, 0, 2, 6, 15, 31, 0, 64, 255, 511]
theorem round_At.tab6 : rtab .any (opsOf Tryd.f13 6) = round_At.T6 := by kernel_rfl
theorem round_At.bits6 : waitsOk round_At.T6.2 round_At.B6 = true := by kernel_rfl
def round_At.T7 : Bool × List (List Nat × List Nat) := (true, [([], []), ([], []), ([1], [1]), ([], []), ([2, 3], [2, 3]), ([0, 4], [0, 4]), ([], []), ([], []), ([7], [7]), ([], []), ([8, 9], [8, 9]), ([6, 10], [6, 10]), ([5, 0, 1, 2, 3, 4, 5], [5]), ([11, 12, 0, 1, 2, 3, 4, 5, 6, 7, 8, 9, 10, 11, 12], [11])])
def round_At.B7 : List Nat := [0, 0, 2, 0, 14, 31, 0, 0, 128, 0, 896, 1984, 63, 8191]
theorem round_At.tab7 : rtab .any (opsOf Tryd.f13 7) = round_At.T7 := by kernel_rfl
theorem round_At.bits7 : waitsOk round_At.T7.2 round_At.B7 = true := by kernel_rfl
def round_At.T8 : Bool × List (List Nat × List Nat) := (true, [([], []), ([0], [0]), ([], []), ([], []), ([], []), ([4], [4]), ([], []), ([6], [6]), ([], []), ([8, 7], [8]), ([3, 5, 7, 9, 9], [3, 5, 7, 9]), ([2, 10, 10], [2, 10]), ([], []), ([1, 11, 12, 11], [1, 11, 12]), ([13, 13, 0, 1, 2, 3, 4, 5, 6, 7, 8, 9, 10, 11, 12, 13], [13])])
def round_At.B8 : List Nat := [0, 1, 0, 0, 0, 16, 0, 64, 0, 448, 1016, 2044, 0, 8191, 16383]
theorem round_At.tab8 : rtab .any (opsOf Tryd.f13 8) = round_At.T8 := by kernel_rfl
theorem round_At.bits8 : waitsOk round_At.T8.2 round_At.B8 = true := by kernel_rfl
set_option maxHeartbeats 8000000 in
set_option maxRecDepth 100000 in
theorem round_At.calls (k : Nat) (a0_0 : Bool) (a0_1 : ByteArray) (a0_2 : Int) (a1 : Int) (a2 : Int) (r1 : Bool) (r2 : ByteArray) (r3 : Int) (w : World) (h : round_At.f k a0_0 a0_1 a0_2 a1 a2 = some (r1, r2, r3)) :
    Calls Tryd.prog 13 #[.agg #[.bool a0_0, .string a0_1, .int .i64 a0_2], .int .i64 a1, .int .i64 a2] w fun e w' => e = .returned (.agg #[.bool r1, .string r2, .int .i64 r3]) ∧ Below w.heap.size w w' := by
  have hu30 := Tryd.underlying30
  have HB := Aside0.mk (Below.refl w.heap.size w)
  have H : ((dec_Dec_Norm.f k a0_0 a0_1 a0_2).bind fun bt137 => (if bt137.2.2 ≥ (mn (mx a1 (-30000)) 30000) then (round_At.j0 k (mn (mx a1 (-30000)) 30000) a2 true bt137.1 bt137.2.1 bt137.2.2) else ((round_Mode_Valid.f a2).bind fun t140 => (round_At.j0 k (mn (mx a1 (-30000)) 30000) a2 (!t140) bt137.1 bt137.2.1 bt137.2.2)))) = some (r1, r2, r3) := h
  clear h
  replace H := Option.bind_eq_some_iff.mp H
  obtain ⟨⟨t137, t138, t139⟩, A40, H⟩ := H
  replace H : (if t139 ≥ (mn (mx a1 (-30000)) 30000) then (round_At.j0 k (mn (mx a1 (-30000)) 30000) a2 true t137 t138 t139) else ((round_Mode_Valid.f a2).bind fun t140 => (round_At.j0 k (mn (mx a1 (-30000)) 30000) a2 (!t140) t137 t138 t139))) = some (r1, r2, r3) := H
  have A4 := Aside0.mk A40
  clear A40
  obtain ⟨ji5, hji5⟩ : ∃ j_ : Int, (mx a1 (-30000)) = j_ := ⟨_, rfl⟩
  replace H : (if t139 ≥ (mn (ji5) 30000) then (round_At.j0 k (mn (ji5) 30000) a2 true t137 t138 t139) else ((round_Mode_Valid.f a2).bind fun t140 => (round_At.j0 k (mn (ji5) 30000) a2 (!t140) t137 t138 t139))) = some (r1, r2, r3) := by first | (rw [hji5] at H; exact H) | (simp only [hji5] at H ⊢; exact H)
  (try rw [hji5] at A4)
  have hji5_ : (if a1 < (-30000) then (-30000) else a1) = ji5 := hji5
  obtain ⟨ji6, hji6⟩ : ∃ j_ : Int, (mn (ji5) 30000) = j_ := ⟨_, rfl⟩
  replace H : (if t139 ≥ (ji6) then (round_At.j0 k ji6 a2 true t137 t138 t139) else ((round_Mode_Valid.f a2).bind fun t140 => (round_At.j0 k ji6 a2 (!t140) t137 t138 t139))) = some (r1, r2, r3) := by first | (rw [hji6] at H; exact H) | (simp only [hji6] at H ⊢; exact H)
  (try rw [hji6] at A4)
  have hji6_ : (if 30000 < (ji5) then 30000 else (ji5)) = ji6 := hji6
  have HC7 := Aside0.mk H
  clear H
  go_enter Tryd.func13, Tryd.ntmps13
  go_upto_region 3 with (first | ((with_reducible refine gate_dst (N := 3) rfl ?_); refine box_event ?hg (N := 3) ?hd (cs := #[.bool a0_0, .string a0_1, .int .i64 a0_2]) (t := 30) ?hr ?_; (case hd => rfl); (case hg => rfl); (case hr => first | (go_simp; done) | (go_simp; rfl)); intro gb135 hg w8 hbox hb; have n0_ := Aside0.mk (below_step (bl_ HB).out hb); have n1_ := Aside0.mk (hbox); have n2_ := Aside0.mk ((by rw [hg]; exact (below_size (bl_ HB).out) : w.heap.size ≤ gb135)); have n3_ := Aside0.mk ((by rw [hg]; exact (below_size (bl_ HB).out) : w.heap.size ≤ gb135)); clear HB; have HB := n0_; have BK135 := n1_; have GW135 := n2_; have GE135 := n3_; clear n0_ n1_ n2_ n3_; clear hb hbox hg) | ((with_reducible refine gate_dst (N := 6) rfl ?_); refine box_event ?hg (N := 6) ?hd (cs := #[.bool false, .string (⟨#[]⟩ : ByteArray), .int .i64 0]) (t := 30) ?hr ?_; (case hd => rfl); (case hg => rfl); (case hr => first | (go_simp; done) | (go_simp; rfl)); intro gb136 hg w9 hbox hb; have n0_ := bb_ BK135 hb; have n1_ := Aside0.mk (below_step (bl_ HB).out hb); have n2_ := Aside0.mk (hbox); have n3_ := Aside0.mk ((by rw [hg]; exact (below_size (bl_ HB).out) : w.heap.size ≤ gb136)); have n4_ := Aside0.mk ((by rw [hg]; exact (below_size (bl_ HB).out) : w.heap.size ≤ gb136)); have n5_ := Aside0.mk ((by rw [hg]; exact Nat.ne_of_lt (blk_lt (g := gb135) (o := .cells #[.bool a0_0, .string a0_1, .int .i64 a0_2] 30 (0, 0)) (by (with_reducible repeat (first | refine blk_drewN ?_ _ | refine blk_drew ?_ | refine blk_alloc ?_ _)); exact BK135.out)) : gb135 ≠ gb136)); have n6_ := Aside0.mk ((by rw [hg]; exact Nat.ne_of_gt (blk_lt (g := gb135) (o := .cells #[.bool a0_0, .string a0_1, .int .i64 a0_2] 30 (0, 0)) (by (with_reducible repeat (first | refine blk_drewN ?_ _ | refine blk_drew ?_ | refine blk_alloc ?_ _)); exact BK135.out)) : gb136 ≠ gb135)); clear BK135; clear HB; have BK135 := n0_; have HB := n1_; have BK136 := n2_; have GW136 := n3_; have GE136 := n4_; have NB135_136 := n5_; have NB136_135 := n6_; clear n0_ n1_ n2_ n3_ n4_ n5_ n6_; clear hb hbox hg; have hnb10 := NB135_136.out; have hnc10 := NB136_135.out; have hcz11_0 : w9.cell? ⟨gb135, 0, none⟩ = some (.bool a0_0) := bc_ BK135 0; have hcz11_1 : w9.cell? ⟨gb135, 1, none⟩ = some (.string a0_1) := bc_ BK135 1; have hcz11_2 : w9.cell? ⟨gb135, 2, none⟩ = some (.int .i64 a0_2) := bc_ BK135 2; have hfz11_0 := blk_frozen BK135.out 0; have hfz11_1 := blk_frozen BK135.out 1; have hfz11_2 := blk_frozen BK135.out 2) | ((with_reducible refine gate_callee (f := 22) rfl ?_); refine goesL_ (some 12) rfl rfl Tryd.func22 (by kernel_rfl) rfl #[.agg #[.bool a0_0, .string a0_1, .int .i64 a0_2]] rfl (by (try simp only [List.map_toArray, List.map_cons, List.map_nil]); first | done | rfl | (simp only [List.length_drop, List.length_take]; rfl) | (have z_ : ∀ s_ : ByteArray, s_.size ≤ 9223372036854775807 → -(s_.size : Int) = wrap64 (-(s_.size : Int)) := (fun s_ h_ => by unfold wrap64; omega); rw [← z_ _ (by omega)]; rfl) | (simp only [ByteArray.size_append]; rfl)) ?_; (with_reducible refine (dec_Dec_Norm.calls k a0_0 a0_1 a0_2 t137 t138 t139 _ A4.out).mono ?_); rintro e w12 ⟨rfl, hb⟩; refine ⟨_, rfl, ?_⟩; have n0_ := bb_ BK135 hb; have n1_ := bb_ BK136 hb; have n2_ := Aside0.mk (below_step (bl_ HB).out hb); clear BK135; clear BK136; clear HB; have BK135 := n0_; have BK136 := n1_; have HB := n2_; clear n0_ n1_ n2_; (try clear hb); (try clear hb2); (try clear hk); (try clear hi); have hcz13_0 : w12.cell? ⟨gb135, 0, none⟩ = some (.bool a0_0) := bc_ BK135 0; have hcz13_1 : w12.cell? ⟨gb135, 1, none⟩ = some (.string a0_1) := bc_ BK135 1; have hcz13_2 : w12.cell? ⟨gb135, 2, none⟩ = some (.int .i64 a0_2) := bc_ BK135 2; have hfz13_0 := blk_frozen BK135.out 0; have hfz13_1 := blk_frozen BK135.out 1; have hfz13_2 := blk_frozen BK135.out 2))
  (try simp only [Act.put, List.setIfInBounds_toArray, List.set_cons_zero, List.set_cons_succ])
  go_cut [24] (fun v24 wc => ∃ (kq : Nat) (x24_6 : Bool), v24 = .bool x24_6 ∧ Aside0 (round_At.j0 kq ji6 a2 x24_6 t137 t138 t139 = some (r1, r2, r3)) ∧ Aside0 (kq ≤ k) ∧ Aside0 (wc.heap[gb135]? = some (.cells #[.bool t137, .string t138, .int .i64 t139] 30 (0, 0))) ∧ Aside0 (wc.heap[gb136]? = some (.cells #[.bool false, .string (⟨#[]⟩ : ByteArray), .int .i64 0] 30 (0, 0))) ∧ Aside0 (Below w.heap.size w wc))
  case first =>
    have H := HC7.out
    clear HC7
    by_cases c14 : t139 ≥ (ji6)
    · rw [if_pos c14] at H
      have c14b0 : decide ((ji6) ≤ t139) = true := decide_eq_true c14
      clear c14
      (first | rw [c14b0] | (simp only [i64_w, i32_w]; rw [c14b0]) | skip)
      have H' := Aside0.mk H
      clear H
      have hnb15 := NB135_136.out
      have hnc15 := NB136_135.out
      have hcz16_0 : w12.cell? ⟨gb135, 0, none⟩ = some (.bool a0_0) := bc_ BK135 0
      have hcz16_1 : w12.cell? ⟨gb135, 1, none⟩ = some (.string a0_1) := bc_ BK135 1
      have hcz16_2 : w12.cell? ⟨gb135, 2, none⟩ = some (.int .i64 a0_2) := bc_ BK135 2
      have hfz16_0 := blk_frozen BK135.out 0
      have hfz16_1 := blk_frozen BK135.out 1
      have hfz16_2 := blk_frozen BK135.out 2
      go_wp2
      go_meet
      case rel => first | (exact ⟨_, (true), eq_, H', ⟨by first | omega | exact Nat.le_refl _⟩, ⟨by (with_reducible repeat (first | refine blk_drewN ?_ _ | refine blk_drew ?_ | refine blk_alloc ?_ _)); refine blk_put (cs := #[.bool t137, .string t138, .int .i64 a0_2]) ?_ 2 _ rfl; (with_reducible repeat (first | refine blk_drewN ?_ _ | refine blk_drew ?_ | refine blk_alloc ?_ _)); refine blk_put (cs := #[.bool t137, .string a0_1, .int .i64 a0_2]) ?_ 1 _ rfl; (with_reducible repeat (first | refine blk_drewN ?_ _ | refine blk_drew ?_ | refine blk_alloc ?_ _)); refine blk_put (cs := #[.bool a0_0, .string a0_1, .int .i64 a0_2]) ?_ 0 _ rfl; (with_reducible repeat (first | refine blk_drewN ?_ _ | refine blk_drew ?_ | refine blk_alloc ?_ _)); exact BK135.out⟩, ⟨by (with_reducible repeat (first | refine blk_drewN ?_ _ | refine blk_drew ?_ | refine blk_alloc ?_ _)); refine blk_far ?_ NB136_135.out _; (with_reducible repeat (first | refine blk_drewN ?_ _ | refine blk_drew ?_ | refine blk_alloc ?_ _)); refine blk_far ?_ NB136_135.out _; (with_reducible repeat (first | refine blk_drewN ?_ _ | refine blk_drew ?_ | refine blk_alloc ?_ _)); refine blk_far ?_ NB136_135.out _; (with_reducible repeat (first | refine blk_drewN ?_ _ | refine blk_drew ?_ | refine blk_alloc ?_ _)); exact BK136.out⟩, (bl_ HB)⟩) | (rw [← hji5] at H'; exact ⟨_, (true), eq_, H', ⟨by first | omega | exact Nat.le_refl _⟩, ⟨by (with_reducible repeat (first | refine blk_drewN ?_ _ | refine blk_drew ?_ | refine blk_alloc ?_ _)); refine blk_put (cs := #[.bool t137, .string t138, .int .i64 a0_2]) ?_ 2 _ rfl; (with_reducible repeat (first | refine blk_drewN ?_ _ | refine blk_drew ?_ | refine blk_alloc ?_ _)); refine blk_put (cs := #[.bool t137, .string a0_1, .int .i64 a0_2]) ?_ 1 _ rfl; (with_reducible repeat (first | refine blk_drewN ?_ _ | refine blk_drew ?_ | refine blk_alloc ?_ _)); refine blk_put (cs := #[.bool a0_0, .string a0_1, .int .i64 a0_2]) ?_ 0 _ rfl; (with_reducible repeat (first | refine blk_drewN ?_ _ | refine blk_drew ?_ | refine blk_alloc ?_ _)); exact BK135.out⟩, ⟨by (with_reducible repeat (first | refine blk_drewN ?_ _ | refine blk_drew ?_ | refine blk_alloc ?_ _)); refine blk_far ?_ NB136_135.out _; (with_reducible repeat (first | refine blk_drewN ?_ _ | refine blk_drew ?_ | refine blk_alloc ?_ _)); refine blk_far ?_ NB136_135.out _; (with_reducible repeat (first | refine blk_drewN ?_ _ | refine blk_drew ?_ | refine blk_alloc ?_ _)); refine blk_far ?_ NB136_135.out _; (with_reducible repeat (first | refine blk_drewN ?_ _ | refine blk_drew ?_ | refine blk_alloc ?_ _)); exact BK136.out⟩, (bl_ HB)⟩) | (rw [← hji6] at H'; exact ⟨_, (true), eq_, H', ⟨by first | omega | exact Nat.le_refl _⟩, ⟨by (with_reducible repeat (first | refine blk_drewN ?_ _ | refine blk_drew ?_ | refine blk_alloc ?_ _)); refine blk_put (cs := #[.bool t137, .string t138, .int .i64 a0_2]) ?_ 2 _ rfl; (with_reducible repeat (first | refine blk_drewN ?_ _ | refine blk_drew ?_ | refine blk_alloc ?_ _)); refine blk_put (cs := #[.bool t137, .string a0_1, .int .i64 a0_2]) ?_ 1 _ rfl; (with_reducible repeat (first | refine blk_drewN ?_ _ | refine blk_drew ?_ | refine blk_alloc ?_ _)); refine blk_put (cs := #[.bool a0_0, .string a0_1, .int .i64 a0_2]) ?_ 0 _ rfl; (with_reducible repeat (first | refine blk_drewN ?_ _ | refine blk_drew ?_ | refine blk_alloc ?_ _)); exact BK135.out⟩, ⟨by (with_reducible repeat (first | refine blk_drewN ?_ _ | refine blk_drew ?_ | refine blk_alloc ?_ _)); refine blk_far ?_ NB136_135.out _; (with_reducible repeat (first | refine blk_drewN ?_ _ | refine blk_drew ?_ | refine blk_alloc ?_ _)); refine blk_far ?_ NB136_135.out _; (with_reducible repeat (first | refine blk_drewN ?_ _ | refine blk_drew ?_ | refine blk_alloc ?_ _)); refine blk_far ?_ NB136_135.out _; (with_reducible repeat (first | refine blk_drewN ?_ _ | refine blk_drew ?_ | refine blk_alloc ?_ _)); exact BK136.out⟩, (bl_ HB)⟩) | (rw [← hji5, ← hji6] at H'; exact ⟨_, (true), eq_, H', ⟨by first | omega | exact Nat.le_refl _⟩, ⟨by (with_reducible repeat (first | refine blk_drewN ?_ _ | refine blk_drew ?_ | refine blk_alloc ?_ _)); refine blk_put (cs := #[.bool t137, .string t138, .int .i64 a0_2]) ?_ 2 _ rfl; (with_reducible repeat (first | refine blk_drewN ?_ _ | refine blk_drew ?_ | refine blk_alloc ?_ _)); refine blk_put (cs := #[.bool t137, .string a0_1, .int .i64 a0_2]) ?_ 1 _ rfl; (with_reducible repeat (first | refine blk_drewN ?_ _ | refine blk_drew ?_ | refine blk_alloc ?_ _)); refine blk_put (cs := #[.bool a0_0, .string a0_1, .int .i64 a0_2]) ?_ 0 _ rfl; (with_reducible repeat (first | refine blk_drewN ?_ _ | refine blk_drew ?_ | refine blk_alloc ?_ _)); exact BK135.out⟩, ⟨by (with_reducible repeat (first | refine blk_drewN ?_ _ | refine blk_drew ?_ | refine blk_alloc ?_ _)); refine blk_far ?_ NB136_135.out _; (with_reducible repeat (first | refine blk_drewN ?_ _ | refine blk_drew ?_ | refine blk_alloc ?_ _)); refine blk_far ?_ NB136_135.out _; (with_reducible repeat (first | refine blk_drewN ?_ _ | refine blk_drew ?_ | refine blk_alloc ?_ _)); refine blk_far ?_ NB136_135.out _; (with_reducible repeat (first | refine blk_drewN ?_ _ | refine blk_drew ?_ | refine blk_alloc ?_ _)); exact BK136.out⟩, (bl_ HB)⟩)
    · rw [if_neg c14] at H
      have c14b0 : decide ((ji6) ≤ t139) = false := decide_eq_false c14
      clear c14
      (first | rw [c14b0] | (simp only [i64_w, i32_w]; rw [c14b0]) | skip)
      replace H := Option.bind_eq_some_iff.mp H
      obtain ⟨t140, A170, H⟩ := H
      replace H : (round_At.j0 k ji6 a2 (!t140) t137 t138 t139) = some (r1, r2, r3) := H
      have A17 := Aside0.mk A170
      clear A170
      have H' := Aside0.mk H
      clear H
      have hnb18 := NB135_136.out
      have hnc18 := NB136_135.out
      have hcz19_0 : w12.cell? ⟨gb135, 0, none⟩ = some (.bool a0_0) := bc_ BK135 0
      have hcz19_1 : w12.cell? ⟨gb135, 1, none⟩ = some (.string a0_1) := bc_ BK135 1
      have hcz19_2 : w12.cell? ⟨gb135, 2, none⟩ = some (.int .i64 a0_2) := bc_ BK135 2
      have hfz19_0 := blk_frozen BK135.out 0
      have hfz19_1 := blk_frozen BK135.out 1
      have hfz19_2 := blk_frozen BK135.out 2
      go_wp2_with (first | (go_at_call 24; (with_reducible refine (round_Mode_Valid.calls a2 t140 _ A17.out).mono ?_); rintro e w' ⟨rfl, ⟨nd, rfl⟩⟩))
      go_meet
      case rel => first | (exact ⟨_, (!t140), eq_, H', ⟨by first | omega | exact Nat.le_refl _⟩, ⟨by (with_reducible repeat (first | refine blk_drewN ?_ _ | refine blk_drew ?_ | refine blk_alloc ?_ _)); refine blk_put (cs := #[.bool t137, .string t138, .int .i64 a0_2]) ?_ 2 _ rfl; (with_reducible repeat (first | refine blk_drewN ?_ _ | refine blk_drew ?_ | refine blk_alloc ?_ _)); refine blk_put (cs := #[.bool t137, .string a0_1, .int .i64 a0_2]) ?_ 1 _ rfl; (with_reducible repeat (first | refine blk_drewN ?_ _ | refine blk_drew ?_ | refine blk_alloc ?_ _)); refine blk_put (cs := #[.bool a0_0, .string a0_1, .int .i64 a0_2]) ?_ 0 _ rfl; (with_reducible repeat (first | refine blk_drewN ?_ _ | refine blk_drew ?_ | refine blk_alloc ?_ _)); exact BK135.out⟩, ⟨by (with_reducible repeat (first | refine blk_drewN ?_ _ | refine blk_drew ?_ | refine blk_alloc ?_ _)); refine blk_far ?_ NB136_135.out _; (with_reducible repeat (first | refine blk_drewN ?_ _ | refine blk_drew ?_ | refine blk_alloc ?_ _)); refine blk_far ?_ NB136_135.out _; (with_reducible repeat (first | refine blk_drewN ?_ _ | refine blk_drew ?_ | refine blk_alloc ?_ _)); refine blk_far ?_ NB136_135.out _; (with_reducible repeat (first | refine blk_drewN ?_ _ | refine blk_drew ?_ | refine blk_alloc ?_ _)); exact BK136.out⟩, (bl_ HB)⟩) | (rw [← hji5] at H'; exact ⟨_, (!t140), eq_, H', ⟨by first | omega | exact Nat.le_refl _⟩, ⟨by (with_reducible repeat (first | refine blk_drewN ?_ _ | refine blk_drew ?_ | refine blk_alloc ?_ _)); refine blk_put (cs := #[.bool t137, .string t138, .int .i64 a0_2]) ?_ 2 _ rfl; (with_reducible repeat (first | refine blk_drewN ?_ _ | refine blk_drew ?_ | refine blk_alloc ?_ _)); refine blk_put (cs := #[.bool t137, .string a0_1, .int .i64 a0_2]) ?_ 1 _ rfl; (with_reducible repeat (first | refine blk_drewN ?_ _ | refine blk_drew ?_ | refine blk_alloc ?_ _)); refine blk_put (cs := #[.bool a0_0, .string a0_1, .int .i64 a0_2]) ?_ 0 _ rfl; (with_reducible repeat (first | refine blk_drewN ?_ _ | refine blk_drew ?_ | refine blk_alloc ?_ _)); exact BK135.out⟩, ⟨by (with_reducible repeat (first | refine blk_drewN ?_ _ | refine blk_drew ?_ | refine blk_alloc ?_ _)); refine blk_far ?_ NB136_135.out _; (with_reducible repeat (first | refine blk_drewN ?_ _ | refine blk_drew ?_ | refine blk_alloc ?_ _)); refine blk_far ?_ NB136_135.out _; (with_reducible repeat (first | refine blk_drewN ?_ _ | refine blk_drew ?_ | refine blk_alloc ?_ _)); refine blk_far ?_ NB136_135.out _; (with_reducible repeat (first | refine blk_drewN ?_ _ | refine blk_drew ?_ | refine blk_alloc ?_ _)); exact BK136.out⟩, (bl_ HB)⟩) | (rw [← hji6] at H'; exact ⟨_, (!t140), eq_, H', ⟨by first | omega | exact Nat.le_refl _⟩, ⟨by (with_reducible repeat (first | refine blk_drewN ?_ _ | refine blk_drew ?_ | refine blk_alloc ?_ _)); refine blk_put (cs := #[.bool t137, .string t138, .int .i64 a0_2]) ?_ 2 _ rfl; (with_reducible repeat (first | refine blk_drewN ?_ _ | refine blk_drew ?_ | refine blk_alloc ?_ _)); refine blk_put (cs := #[.bool t137, .string a0_1, .int .i64 a0_2]) ?_ 1 _ rfl; (with_reducible repeat (first | refine blk_drewN ?_ _ | refine blk_drew ?_ | refine blk_alloc ?_ _)); refine blk_put (cs := #[.bool a0_0, .string a0_1, .int .i64 a0_2]) ?_ 0 _ rfl; (with_reducible repeat (first | refine blk_drewN ?_ _ | refine blk_drew ?_ | refine blk_alloc ?_ _)); exact BK135.out⟩, ⟨by (with_reducible repeat (first | refine blk_drewN ?_ _ | refine blk_drew ?_ | refine blk_alloc ?_ _)); refine blk_far ?_ NB136_135.out _; (with_reducible repeat (first | refine blk_drewN ?_ _ | refine blk_drew ?_ | refine blk_alloc ?_ _)); refine blk_far ?_ NB136_135.out _; (with_reducible repeat (first | refine blk_drewN ?_ _ | refine blk_drew ?_ | refine blk_alloc ?_ _)); refine blk_far ?_ NB136_135.out _; (with_reducible repeat (first | refine blk_drewN ?_ _ | refine blk_drew ?_ | refine blk_alloc ?_ _)); exact BK136.out⟩, (bl_ HB)⟩) | (rw [← hji5, ← hji6] at H'; exact ⟨_, (!t140), eq_, H', ⟨by first | omega | exact Nat.le_refl _⟩, ⟨by (with_reducible repeat (first | refine blk_drewN ?_ _ | refine blk_drew ?_ | refine blk_alloc ?_ _)); refine blk_put (cs := #[.bool t137, .string t138, .int .i64 a0_2]) ?_ 2 _ rfl; (with_reducible repeat (first | refine blk_drewN ?_ _ | refine blk_drew ?_ | refine blk_alloc ?_ _)); refine blk_put (cs := #[.bool t137, .string a0_1, .int .i64 a0_2]) ?_ 1 _ rfl; (with_reducible repeat (first | refine blk_drewN ?_ _ | refine blk_drew ?_ | refine blk_alloc ?_ _)); refine blk_put (cs := #[.bool a0_0, .string a0_1, .int .i64 a0_2]) ?_ 0 _ rfl; (with_reducible repeat (first | refine blk_drewN ?_ _ | refine blk_drew ?_ | refine blk_alloc ?_ _)); exact BK135.out⟩, ⟨by (with_reducible repeat (first | refine blk_drewN ?_ _ | refine blk_drew ?_ | refine blk_alloc ?_ _)); refine blk_far ?_ NB136_135.out _; (with_reducible repeat (first | refine blk_drewN ?_ _ | refine blk_drew ?_ | refine blk_alloc ?_ _)); refine blk_far ?_ NB136_135.out _; (with_reducible repeat (first | refine blk_drewN ?_ _ | refine blk_drew ?_ | refine blk_alloc ?_ _)); refine blk_far ?_ NB136_135.out _; (with_reducible repeat (first | refine blk_drewN ?_ _ | refine blk_drew ?_ | refine blk_alloc ?_ _)); exact BK136.out⟩, (bl_ HB)⟩)
  case rest =>
    clear HC7
    try clear c1
    try clear c2
    try clear p2
    try clear p6
    try clear c10
    try clear c13
    try clear c14
    try clear c14b0
    try clear c15
    try clear c18
    try clear hcz11_0
    try clear hcz11_1
    try clear hcz11_2
    try clear hcz13_0
    try clear hcz13_1
    try clear hcz13_2
    try clear hcz16_0
    try clear hcz16_1
    try clear hcz16_2
    try clear hcz19_0
    try clear hcz19_1
    try clear hcz19_2
    try clear hfz11_0
    try clear hfz11_1
    try clear hfz11_2
    try clear hfz13_0
    try clear hfz13_1
    try clear hfz13_2
    try clear hfz16_0
    try clear hfz16_1
    try clear hfz16_2
    try clear hfz19_0
    try clear hfz19_1
    try clear hfz19_2
    obtain ⟨kq, x24_6, rfl, HA, HJ6, BK135, BK136, HB⟩ := hcut
    cases kq with
    | zero => exact absurd HA.out (by simp [round_At.j0])
    | succ kj6 =>
      have H := HA.out
      clear HA
      simp only [round_At.j0] at H
      by_cases c20 : x24_6 = true
      · subst c20
        have H1 : (some (t137, t138, t139)) = some (r1, r2, r3) := by rw [if_pos rfl] at H; exact H
        clear H
        have H := H1
        clear H1
        simp only [Option.some.injEq, Prod.mk.injEq] at H
        obtain ⟨rfl, rfl, rfl⟩ := H
        have hnb21 := NB135_136.out
        have hnc21 := NB136_135.out
        have hcz22_0 : wc.cell? ⟨gb135, 0, none⟩ = some (.bool t137) := bc_ BK135 0
        have hcz22_1 : wc.cell? ⟨gb135, 1, none⟩ = some (.string t138) := bc_ BK135 1
        have hcz22_2 : wc.cell? ⟨gb135, 2, none⟩ = some (.int .i64 t139) := bc_ BK135 2
        have hfz22_0 := blk_frozen BK135.out 0
        have hfz22_1 := blk_frozen BK135.out 1
        have hfz22_2 := blk_frozen BK135.out 2
        have hcz23_0 : wc.cell? ⟨gb136, 0, none⟩ = some (.bool false) := bc_ BK136 0
        have hcz23_1 : wc.cell? ⟨gb136, 1, none⟩ = some (.string (⟨#[]⟩ : ByteArray)) := bc_ BK136 1
        have hcz23_2 : wc.cell? ⟨gb136, 2, none⟩ = some (.int .i64 0) := bc_ BK136 2
        have hfz23_0 := blk_frozen BK136.out 0
        have hfz23_1 := blk_frozen BK136.out 1
        have hfz23_2 := blk_frozen BK136.out 2
        go_wp2
        refine bodyPost_ret (results_cell_row rfl _ _ gb136 30 #[.bool t137, .string t138, .int .i64 t139] (0, 0) _ rfl (by (with_reducible repeat (first | refine blk_drewN ?_ _ | refine blk_drew ?_ | refine blk_alloc ?_ _)); refine blk_put (cs := #[.bool t137, .string t138, .int .i64 0]) ?_ 2 _ rfl; (with_reducible repeat (first | refine blk_drewN ?_ _ | refine blk_drew ?_ | refine blk_alloc ?_ _)); refine blk_put (cs := #[.bool t137, .string (⟨#[]⟩ : ByteArray), .int .i64 0]) ?_ 1 _ rfl; (with_reducible repeat (first | refine blk_drewN ?_ _ | refine blk_drew ?_ | refine blk_alloc ?_ _)); refine blk_put (cs := #[.bool false, .string (⟨#[]⟩ : ByteArray), .int .i64 0]) ?_ 0 _ rfl; (with_reducible repeat (first | refine blk_drewN ?_ _ | refine blk_drew ?_ | refine blk_alloc ?_ _)); exact BK136.out) Tryd.underlying30 rfl (by kernel_rfl)) rfl ?_
        exact ⟨by first | rfl | (simp [errW_none, errW_some] <;> rfl) | (simp only [← hji5, ← hji6]; first | rfl | (simp [errW_none, errW_some] <;> rfl)) | (simp [*, errW_none, errW_some] <;> first | rfl | exact given_isEmpty _ | exact (given_isEmpty _).symm), by repeat (first | (with_reducible first | exact HB.out | apply below_alloc | apply pw_below_drewN | apply below_drew1 | refine below_set ?_ GE135.out | refine below_set ?_ GE136.out) | exact HB.out)⟩
      · replace c20 := Bool.eq_false_iff.mpr c20
        subst c20
        have H1 : ((num_Zeros.f (wrap64 ((wrap64 (ji6 - t139)) - (t138.size : Int)))).bind fun t141 => (if t141.size + t138.size ≤ 9223372036854775807 then (if 0 ≤ (wrap64 (((t141 ++ t138).size : Int) - (wrap64 (ji6 - t139)))) then (if (wrap64 (((t141 ++ t138).size : Int) - (wrap64 (ji6 - t139)))) ≤ ((t141 ++ t138).size : Int) then ((round_odd.f ((t141 ++ t138).extract 0 ((wrap64 (((t141 ++ t138).size : Int) - (wrap64 (ji6 - t139)))) : Int).toNat)).bind fun t142 => ((round_tail.f ((t141 ++ t138).extract ((wrap64 (((t141 ++ t138).size : Int) - (wrap64 (ji6 - t139)))) : Int).toNat (t141 ++ t138).size)).bind fun t143 => ((round_Mode_up.f a2 t137 t142 t143).bind fun t144 => ((round_step.f kj6 ((t141 ++ t138).extract 0 ((wrap64 (((t141 ++ t138).size : Int) - (wrap64 (ji6 - t139)))) : Int).toNat) t144).bind fun t145 => ((dec_Made.f kj6 t137 t145 ji6).bind fun bt146 => (some (bt146.1, bt146.2.1, bt146.2.2))))))) else (none)) else (none)) else (none))) = some (r1, r2, r3) := by rw [if_neg (show ¬ (false = true) by decide)] at H; exact H
        clear H
        have H := H1
        clear H1
        replace H := Option.bind_eq_some_iff.mp H
        obtain ⟨t141, A240, H⟩ := H
        replace H : (if t141.size + t138.size ≤ 9223372036854775807 then (if 0 ≤ (wrap64 (((t141 ++ t138).size : Int) - (wrap64 (ji6 - t139)))) then (if (wrap64 (((t141 ++ t138).size : Int) - (wrap64 (ji6 - t139)))) ≤ ((t141 ++ t138).size : Int) then ((round_odd.f ((t141 ++ t138).extract 0 ((wrap64 (((t141 ++ t138).size : Int) - (wrap64 (ji6 - t139)))) : Int).toNat)).bind fun t142 => ((round_tail.f ((t141 ++ t138).extract ((wrap64 (((t141 ++ t138).size : Int) - (wrap64 (ji6 - t139)))) : Int).toNat (t141 ++ t138).size)).bind fun t143 => ((round_Mode_up.f a2 t137 t142 t143).bind fun t144 => ((round_step.f kj6 ((t141 ++ t138).extract 0 ((wrap64 (((t141 ++ t138).size : Int) - (wrap64 (ji6 - t139)))) : Int).toNat) t144).bind fun t145 => ((dec_Made.f kj6 t137 t145 ji6).bind fun bt146 => (some (bt146.1, bt146.2.1, bt146.2.2))))))) else (none)) else (none)) else (none)) = some (r1, r2, r3) := H
        have A24 := Aside0.mk A240
        clear A240
        by_cases c25 : t141.size + t138.size ≤ 9223372036854775807
        · rw [if_pos c25] at H
          have c25b0 := eq_true c25
          have c25b1 : decide (t141.size + t138.size ≤ 9223372036854775807) = true := decide_eq_true c25
          try have c25b2 : (9223372036854775807 < t141.size + t138.size) = False := eq_false (Nat.not_lt.2 c25)
          obtain ⟨ji26, hji26⟩ : ∃ j_ : Int, (wrap64 (((t141 ++ t138).size : Int) - (wrap64 (ji6 - t139)))) = j_ := ⟨_, rfl⟩
          replace H : (if 0 ≤ (ji26) then (if (ji26) ≤ ((t141 ++ t138).size : Int) then ((round_odd.f ((t141 ++ t138).extract 0 ((ji26) : Int).toNat)).bind fun t142 => ((round_tail.f ((t141 ++ t138).extract ((ji26) : Int).toNat (t141 ++ t138).size)).bind fun t143 => ((round_Mode_up.f a2 t137 t142 t143).bind fun t144 => ((round_step.f kj6 ((t141 ++ t138).extract 0 ((ji26) : Int).toNat) t144).bind fun t145 => ((dec_Made.f kj6 t137 t145 ji6).bind fun bt146 => (some (bt146.1, bt146.2.1, bt146.2.2))))))) else (none)) else (none)) = some (r1, r2, r3) := by first | (rw [hji26] at H; exact H) | (simp only [hji26] at H ⊢; exact H)
          (try rw [hji26] at A24)
          have hji26w : (IntKind.i64.wrap (((t141 ++ t138).size : Int) - (wrap64 (ji6 - t139)))) = ji26 := (i64_w _).trans hji26
          try (have hji26s := hji26; simp only [ByteArray.size_append, Int.natCast_add] at hji26s)
          try (have hji26s := hji26; simp only [ByteArray.size_append, Int.natCast_add] at hji26s)
          by_cases c27 : 0 ≤ (ji26)
          · rw [if_pos c27] at H
            have c27b0 := eq_true c27
            have c27b1 : decide (0 ≤ (ji26)) = true := decide_eq_true c27
            clear c27
            by_cases c28 : (ji26) ≤ ((t141 ++ t138).size : Int)
            · rw [if_pos c28] at H
              have c28b0 := eq_true c28
              have c28b1 : decide ((ji26) ≤ ((t141 ++ t138).size : Int)) = true := decide_eq_true c28
              try (have c28b5 := c28b0; simp only [ByteArray.size_append, Int.natCast_add] at c28b5)
              have c29b0 := eq_true (of_decide_eq_true (by first | (with_reducible assumption) | assumption) : 0 ≤ (ji26))
              have c30b0 := eq_true (of_decide_eq_true (by first | (with_reducible assumption) | assumption) : (ji26) ≤ ((t141 ++ t138).size : Int))
              replace H := Option.bind_eq_some_iff.mp H
              obtain ⟨t142, A310, H⟩ := H
              replace H : ((round_tail.f ((t141 ++ t138).extract ((ji26) : Int).toNat (t141 ++ t138).size)).bind fun t143 => ((round_Mode_up.f a2 t137 t142 t143).bind fun t144 => ((round_step.f kj6 ((t141 ++ t138).extract 0 ((ji26) : Int).toNat) t144).bind fun t145 => ((dec_Made.f kj6 t137 t145 ji6).bind fun bt146 => (some (bt146.1, bt146.2.1, bt146.2.2)))))) = some (r1, r2, r3) := H
              have A31 := Aside0.mk A310
              clear A310
              replace H := Option.bind_eq_some_iff.mp H
              obtain ⟨t143, A320, H⟩ := H
              replace H : ((round_Mode_up.f a2 t137 t142 t143).bind fun t144 => ((round_step.f kj6 ((t141 ++ t138).extract 0 ((ji26) : Int).toNat) t144).bind fun t145 => ((dec_Made.f kj6 t137 t145 ji6).bind fun bt146 => (some (bt146.1, bt146.2.1, bt146.2.2))))) = some (r1, r2, r3) := H
              have A32 := Aside0.mk A320
              clear A320
              replace H := Option.bind_eq_some_iff.mp H
              obtain ⟨t144, A330, H⟩ := H
              replace H : ((round_step.f kj6 ((t141 ++ t138).extract 0 ((ji26) : Int).toNat) t144).bind fun t145 => ((dec_Made.f kj6 t137 t145 ji6).bind fun bt146 => (some (bt146.1, bt146.2.1, bt146.2.2)))) = some (r1, r2, r3) := H
              have A33 := Aside0.mk A330
              clear A330
              replace H := Option.bind_eq_some_iff.mp H
              obtain ⟨t145, A340, H⟩ := H
              replace H : ((dec_Made.f kj6 t137 t145 ji6).bind fun bt146 => (some (bt146.1, bt146.2.1, bt146.2.2))) = some (r1, r2, r3) := H
              have A34 := Aside0.mk A340
              clear A340
              replace H := Option.bind_eq_some_iff.mp H
              obtain ⟨⟨t146, t147, t148⟩, A350, H⟩ := H
              replace H : (some (t146, t147, t148)) = some (r1, r2, r3) := H
              have A35 := Aside0.mk A350
              clear A350
              simp only [Option.some.injEq, Prod.mk.injEq] at H
              obtain ⟨rfl, rfl, rfl⟩ := H
              have hnb36 := NB135_136.out
              have hnc36 := NB136_135.out
              have hcz37_0 : wc.cell? ⟨gb135, 0, none⟩ = some (.bool t137) := bc_ BK135 0
              have hcz37_1 : wc.cell? ⟨gb135, 1, none⟩ = some (.string t138) := bc_ BK135 1
              have hcz37_2 : wc.cell? ⟨gb135, 2, none⟩ = some (.int .i64 t139) := bc_ BK135 2
              have hfz37_0 := blk_frozen BK135.out 0
              have hfz37_1 := blk_frozen BK135.out 1
              have hfz37_2 := blk_frozen BK135.out 2
              try go_wp2
              replace BK135 := Aside0.mk (blk_drew BK135.out)
              replace BK136 := Aside0.mk (blk_drew BK136.out)
              replace HB := Aside0.mk (below_drew1 HB.out)
              refine start_ (n := 10) (S := fun w' => w'.cell? ⟨gb135, 0, none⟩ = some (.bool t137) ∧ w'.cell? ⟨gb135, 1, none⟩ = some (.string t138) ∧ w'.cell? ⟨gb135, 2, none⟩ = some (.int .i64 t139)) (ds := []) #[false, false, false, false, false, false, false, false, false, false] (by kernel_rfl) rfl rfl ⟨bc_ BK135 0, bc_ BK135 1, bc_ BK135 2⟩ (fun hHeld => ?_); refine with_tabW round_At.tab6 round_At.bits6 (fun HT_ HW_ => ?_)
              generalize wc.drew = w38 at BK135 BK136 HB hHeld ⊢
              refine pu_ 0 30 (bm_ 10 1) HT_ ?_
              refine pu_ 1 31 (bm_ 10 3) HT_ ?_
              refine pu_ 6 36 (bm_ 10 67) HT_ ?_
              refine tk_ 2 32 (bm_ 10 71) HT_ HW_ hHeld rfl (by rintro w' ⟨s0, s1, s2⟩; go_simp; with_reducible rfl) ?_
              refine pu_ 3 33 (bm_ 10 79) HT_ ?_
              refine pu_ 4 34 (bm_ 10 95) HT_ ?_
              refine tk_ 7 37 (bm_ 10 223) HT_ HW_ hHeld rfl (by rintro w' ⟨s0, s1, s2⟩; go_simp; with_reducible rfl) ?_
              refine one_ (i := 5) (N := some 35) (bm_ 10 255) rfl rfl (one_of HT_.out (by kernel_rfl)) (by decide) (fun K hK => ?_)
              refine goes_ Tryd.func32 (by kernel_rfl) rfl #[.int .i64 (wrap64 ((wrap64 (ji6 - t139)) - (t138.size : Int)))] (by rfl) rfl rfl (by (try simp only [List.map_toArray, List.map_cons, List.map_nil]); first | done | (simp only [hji6]; rfl) | rfl | (simp only [List.length_drop, List.length_take]; rfl) | (have z_ : ∀ s_ : ByteArray, s_.size ≤ 9223372036854775807 → -(s_.size : Int) = wrap64 (-(s_.size : Int)) := (fun s_ h_ => by unfold wrap64; omega); rw [← z_ _ (by omega)]; rfl) | (simp only [ByteArray.size_append]; rfl)) ?_
              with_reducible refine (num_Zeros.calls (wrap64 ((wrap64 (ji6 - t139)) - (t138.size : Int))) t141 _ A24.out).mono ?_
              rintro e w39 ⟨rfl, hb⟩
              refine ⟨_, rfl, ?_⟩
              replace BK135 := bb_ BK135 hb
              replace BK136 := bb_ BK136 hb
              replace HB := Aside0.mk (below_step (bl_ HB).out hb)
              (try clear hb)
              (try clear hb2)
              (try clear hk)
              (try clear hi)
              refine hK.out _ _ ⟨bc_ BK135 0, bc_ BK135 1, bc_ BK135 2⟩ (fun hHeld => ?_)
              clear hK K
              refine nm_ 35 ?_
              refine pu_ 8 38 (bm_ 10 511) HT_ ?_
              refine pu_ 9 8 (bm_ 10 1023) HT_ ?_
              refine done_ (done_of HT_.out (by kernel_rfl)) ?_
              try go_wp2
              replace BK135 := Aside0.mk (blk_drew BK135.out)
              replace BK136 := Aside0.mk (blk_drew BK136.out)
              replace HB := Aside0.mk (below_drew1 HB.out)
              refine start_ (n := 14) (S := fun w' => True) (ds := []) #[false, false, false, false, false, false, false, false, false, false, false, false, false, false] (by kernel_rfl) rfl rfl trivial (fun hHeld => ?_); refine with_tabW round_At.tab7 round_At.bits7 (fun HT_ HW_ => ?_)
              generalize w39.drew = w40 at BK135 BK136 HB hHeld ⊢
              refine pu_ 0 39 (bm_ 14 1) HT_ ?_
              refine pu_ 1 40 (bm_ 14 3) HT_ ?_
              refine pu_ 2 41 (bm_ 14 7) HT_ ?_
              refine pu_ 3 42 (bm_ 14 15) HT_ ?_
              refine pu_ 4 43 (bm_ 14 31) HT_ ?_
              refine pu_ 5 44 (bm_ 14 63) HT_ ?_
              refine pu_ 6 45 (bm_ 14 127) HT_ ?_
              refine pu_ 7 46 (bm_ 14 255) HT_ ?_
              refine pu_ 8 47 (bm_ 14 511) HT_ ?_
              refine pu_ 9 48 (bm_ 14 1023) HT_ ?_
              refine pu_ 10 49 (bm_ 14 2047) HT_ ?_
              refine pu_ 11 50 (bm_ 14 4095) HT_ ?_
              refine pu_ 12 9 (bm_ 14 8191) HT_ ?_
              refine pu_ 13 10 (bm_ 14 16383) HT_ ?_
              refine done_ (done_of HT_.out (by kernel_rfl)) ?_
              try go_wp2
              replace BK135 := Aside0.mk (blk_drew BK135.out)
              replace BK136 := Aside0.mk (blk_drew BK136.out)
              replace HB := Aside0.mk (below_drew1 HB.out)
              refine start_ (n := 15) (S := fun w' => w'.cell? ⟨gb135, 0, none⟩ = some (.bool t137) ∧ w'.cell? ⟨gb135, 1, none⟩ = some (.string t138) ∧ w'.cell? ⟨gb135, 2, none⟩ = some (.int .i64 t139)) (ds := []) #[false, false, false, false, false, false, false, false, false, false, false, false, false, false, false] (by kernel_rfl) rfl rfl ⟨bc_ BK135 0, bc_ BK135 1, bc_ BK135 2⟩ (fun hHeld => ?_); refine with_tabW round_At.tab8 round_At.bits8 (fun HT_ HW_ => ?_)
              generalize w40.drew = w41 at BK135 BK136 HB hHeld ⊢
              refine pu_ 0 51 (bm_ 15 1) HT_ ?_
              refine pu_ 2 53 (bm_ 15 5) HT_ ?_
              refine pu_ 3 54 (bm_ 15 13) HT_ ?_
              refine pu_ 4 55 (bm_ 15 29) HT_ ?_
              refine pu_ 6 57 (bm_ 15 93) HT_ ?_
              refine pu_ 8 59 (bm_ 15 349) HT_ ?_
              refine pu_ 12 63 (bm_ 15 4445) HT_ ?_
              refine tk_ 1 52 (bm_ 15 4447) HT_ HW_ hHeld rfl (by rintro w' ⟨s0, s1, s2⟩; go_simp; with_reducible rfl) ?_
              refine tk_ 5 56 (bm_ 15 4479) HT_ HW_ hHeld rfl (by rintro w' ⟨s0, s1, s2⟩; go_simp; with_reducible rfl) ?_
              refine one_ (i := 7) (N := some 58) (bm_ 15 4607) rfl rfl (one_of HT_.out (by kernel_rfl)) (by decide) (fun K hK => ?_)
              refine goes_ Tryd.func35 (by kernel_rfl) rfl #[.string ((t141 ++ t138).extract 0 ((ji26) : Int).toNat)] (by rfl) rfl rfl (by (try simp only [List.map_toArray, List.map_cons, List.map_nil]); first | done | (simp only [hji26]; rfl) | rfl | (simp only [List.length_drop, List.length_take]; rfl) | (have z_ : ∀ s_ : ByteArray, s_.size ≤ 9223372036854775807 → -(s_.size : Int) = wrap64 (-(s_.size : Int)) := (fun s_ h_ => by unfold wrap64; omega); rw [← z_ _ (by omega)]; rfl) | (simp only [ByteArray.size_append]; rfl)) ?_
              with_reducible refine (round_odd.calls ((t141 ++ t138).extract 0 ((ji26) : Int).toNat) t142 _ A31.out).mono ?_
              rintro e w' ⟨rfl, ⟨nd, rfl⟩⟩
              refine ⟨_, rfl, ?_⟩
              refine hK.out _ _ ⟨bc_ BK135 0, bc_ BK135 1, bc_ BK135 2⟩ (fun hHeld => ?_)
              clear hK K
              refine nm_ 58 ?_
              refine one_ (i := 9) (N := some 60) (bm_ 15 5119) rfl rfl (one_of HT_.out (by kernel_rfl)) (by decide) (fun K hK => ?_)
              refine goes_ Tryd.func36 (by kernel_rfl) rfl #[.string ((t141 ++ t138).extract ((ji26) : Int).toNat (t141 ++ t138).size)] (by rfl) rfl rfl (by (try simp only [List.map_toArray, List.map_cons, List.map_nil]); first | done | (simp only [hji26]; rfl) | rfl | (simp only [List.length_drop, List.length_take]; rfl) | (have z_ : ∀ s_ : ByteArray, s_.size ≤ 9223372036854775807 → -(s_.size : Int) = wrap64 (-(s_.size : Int)) := (fun s_ h_ => by unfold wrap64; omega); rw [← z_ _ (by omega)]; rfl) | (simp only [ByteArray.size_append]; rfl)) ?_
              with_reducible refine (round_tail.calls ((t141 ++ t138).extract ((ji26) : Int).toNat (t141 ++ t138).size) t143 _ A32.out).mono ?_
              rintro e w' ⟨rfl, ⟨nd, rfl⟩⟩
              refine ⟨_, rfl, ?_⟩
              refine hK.out _ _ ⟨bc_ BK135 0, bc_ BK135 1, bc_ BK135 2⟩ (fun hHeld => ?_)
              clear hK K
              refine nm_ 60 ?_
              refine one_ (i := 10) (N := some 61) (bm_ 15 6143) rfl rfl (one_of HT_.out (by kernel_rfl)) (by decide) (fun K hK => ?_)
              refine gs_ Tryd.func34 #[.int .i64 a2, .bool t137, .bool t142, .int .i64 t143] ?_
              with_reducible refine (round_Mode_up.calls a2 t137 t142 t143 t144 _ A33.out).mono ?_
              rintro e w' ⟨rfl, ⟨nd, rfl⟩⟩
              refine ⟨_, rfl, ?_⟩
              refine hK.out _ _ ⟨bc_ BK135 0, bc_ BK135 1, bc_ BK135 2⟩ (fun hHeld => ?_)
              clear hK K
              refine nm_ 61 ?_
              refine one_ (i := 11) (N := some 62) (bm_ 15 8191) rfl rfl (one_of HT_.out (by kernel_rfl)) (by decide) (fun K hK => ?_)
              refine goes_ Tryd.func33 (by kernel_rfl) rfl #[.string ((t141 ++ t138).extract 0 ((ji26) : Int).toNat), .bool t144] (by rfl) rfl rfl (by (try simp only [List.map_toArray, List.map_cons, List.map_nil]); first | done | (simp only [hji26]; rfl) | rfl | (simp only [List.length_drop, List.length_take]; rfl) | (have z_ : ∀ s_ : ByteArray, s_.size ≤ 9223372036854775807 → -(s_.size : Int) = wrap64 (-(s_.size : Int)) := (fun s_ h_ => by unfold wrap64; omega); rw [← z_ _ (by omega)]; rfl) | (simp only [ByteArray.size_append]; rfl)) ?_
              with_reducible refine (round_step.calls kj6 ((t141 ++ t138).extract 0 ((ji26) : Int).toNat) t144 t145 _ A34.out).mono ?_
              rintro e w42 ⟨rfl, hb⟩
              refine ⟨_, rfl, ?_⟩
              replace BK135 := bb_ BK135 hb
              replace BK136 := bb_ BK136 hb
              replace HB := Aside0.mk (below_step (bl_ HB).out hb)
              (try clear hb)
              (try clear hb2)
              (try clear hk)
              (try clear hi)
              refine hK.out _ _ ⟨bc_ BK135 0, bc_ BK135 1, bc_ BK135 2⟩ (fun hHeld => ?_)
              clear hK K
              refine nm_ 62 ?_
              refine one_ (i := 13) (N := some 64) (bm_ 15 16383) rfl rfl (one_of HT_.out (by kernel_rfl)) (by decide) (fun K hK => ?_)
              refine goes_ Tryd.func23 (by kernel_rfl) rfl #[.bool t137, .string t145, .int .i64 ji6] (by rfl) rfl rfl (by (try simp only [List.map_toArray, List.map_cons, List.map_nil]); first | done | (simp only [hji6]; rfl) | rfl | (simp only [List.length_drop, List.length_take]; rfl) | (have z_ : ∀ s_ : ByteArray, s_.size ≤ 9223372036854775807 → -(s_.size : Int) = wrap64 (-(s_.size : Int)) := (fun s_ h_ => by unfold wrap64; omega); rw [← z_ _ (by omega)]; rfl) | (simp only [ByteArray.size_append]; rfl)) ?_
              with_reducible refine (dec_Made.calls kj6 t137 t145 ji6 t146 t147 t148 _ A35.out).mono ?_
              rintro e w43 ⟨rfl, hb⟩
              refine ⟨_, rfl, ?_⟩
              replace BK135 := bb_ BK135 hb
              replace BK136 := bb_ BK136 hb
              replace HB := Aside0.mk (below_step (bl_ HB).out hb)
              (try clear hb)
              (try clear hb2)
              (try clear hk)
              (try clear hi)
              refine hK.out _ _ ⟨bc_ BK135 0, bc_ BK135 1, bc_ BK135 2⟩ (fun hHeld => ?_)
              clear hK K
              refine nm_ 64 ?_
              refine one_ (i := 14) (N := none) (bm_ 15 32767) rfl rfl (one_of HT_.out (by kernel_rfl)) (by decide) (fun K hK => ?_)
              have hs44 : w43.cell? ⟨gb136, 0, none⟩ = some (.bool false) := bc_ BK136 0
              have hfs44 := blk_frozen BK136.out 0
              have hns44_0 := NB135_136.out
              have hms44_0 := NB136_135.out
              have hs45 : w43.cell? ⟨gb136, 1, none⟩ = some (.string (⟨#[]⟩ : ByteArray)) := bc_ BK136 1
              have hfs45 := blk_frozen BK136.out 1
              have hns45_0 := NB135_136.out
              have hms45_0 := NB136_135.out
              have hs46 : w43.cell? ⟨gb136, 2, none⟩ = some (.int .i64 0) := bc_ BK136 2
              have hfs46 := blk_frozen BK136.out 2
              have hns46_0 := NB135_136.out
              have hms46_0 := NB136_135.out
              refine skip_ (w1 := ?_) (by rfl) rfl ?_ ?_
              rotate_left
              · go_simp
                rfl
              refine hK.out _ _ ⟨((cell_far (p := ⟨gb136, _, none⟩) NB135_136.out _).trans (((cell_far (p := ⟨gb136, _, none⟩) NB135_136.out _).trans (((cell_far (p := ⟨gb136, _, none⟩) NB135_136.out _).trans (hHeld.1)))))), ((cell_far (p := ⟨gb136, _, none⟩) NB135_136.out _).trans (((cell_far (p := ⟨gb136, _, none⟩) NB135_136.out _).trans (((cell_far (p := ⟨gb136, _, none⟩) NB135_136.out _).trans (hHeld.2.1)))))), ((cell_far (p := ⟨gb136, _, none⟩) NB135_136.out _).trans (((cell_far (p := ⟨gb136, _, none⟩) NB135_136.out _).trans (((cell_far (p := ⟨gb136, _, none⟩) NB135_136.out _).trans (hHeld.2.2))))))⟩ (fun hHeld => ?_)
              clear hK K
              refine done_ (done_of HT_.out (by kernel_rfl)) ?_
              try go_wp2
              refine bodyPost_ret (results_cell_row rfl _ _ gb136 30 #[.bool t146, .string t147, .int .i64 t148] (0, 0) _ rfl (by (with_reducible repeat (first | refine blk_drewN ?_ _ | refine blk_drew ?_ | refine blk_alloc ?_ _)); refine blk_put (cs := #[.bool t146, .string t147, .int .i64 0]) ?_ 2 _ rfl; (with_reducible repeat (first | refine blk_drewN ?_ _ | refine blk_drew ?_ | refine blk_alloc ?_ _)); refine blk_put (cs := #[.bool t146, .string (⟨#[]⟩ : ByteArray), .int .i64 0]) ?_ 1 _ rfl; (with_reducible repeat (first | refine blk_drewN ?_ _ | refine blk_drew ?_ | refine blk_alloc ?_ _)); refine blk_put (cs := #[.bool false, .string (⟨#[]⟩ : ByteArray), .int .i64 0]) ?_ 0 _ rfl; (with_reducible repeat (first | refine blk_drewN ?_ _ | refine blk_drew ?_ | refine blk_alloc ?_ _)); exact BK136.out) Tryd.underlying30 rfl (by kernel_rfl)) rfl ?_
              exact ⟨by first | rfl | (simp [errW_none, errW_some] <;> rfl) | (simp only [← hji5, ← hji6, ← hji26]; first | rfl | (simp [errW_none, errW_some] <;> rfl)) | (simp [*, errW_none, errW_some] <;> first | rfl | exact given_isEmpty _ | exact (given_isEmpty _).symm), by repeat (first | (with_reducible first | exact HB.out | apply below_alloc | apply pw_below_drewN | apply below_drew1 | refine below_set ?_ GE135.out | refine below_set ?_ GE136.out) | exact HB.out)⟩
            · rw [if_neg c28] at H
              exact absurd H (by simp)
          · rw [if_neg c27] at H
            exact absurd H (by simp)
        · rw [if_neg c25] at H
          exact absurd H (by simp)

/-! ### dec_Dec_Minus: function 20 -/
def dec_Dec_Minus.f (k : Nat) (a0_0 : Bool) (a0_1 : ByteArray) (a0_2 : Int) : Option (Bool × ByteArray × Int) := (dec_Made.f k (!a0_0) a0_1 a0_2).bind fun bt151 => (some (bt151.1, bt151.2.1, bt151.2.2))
theorem dec_Dec_Minus.mono : ∀ a0 a1 a2 k, LeO (dec_Dec_Minus.f k a0 a1 a2) (dec_Dec_Minus.f (k + 1) a0 a1 a2) := by
  intro a0 a1 a2 k
  unfold dec_Dec_Minus.f
  repeat' first
      | (with_reducible exact dec_Made.mono _ _ _ _)
      | (with_reducible exact LeO.refl _)
      | (with_reducible exact LeO.none _)
      | (with_reducible refine LeO.ite ?_ ?_)
      | (with_reducible refine LeO.bind ?_ (fun _ => ?_))
      | exact dec_Made.mono _ _ _ _
      | exact LeO.none _
      | refine LeO.ite ?_ ?_
      | refine LeO.bind ?_ (fun _ => ?_)
set_option maxHeartbeats 8000000 in
set_option maxRecDepth 100000 in
theorem dec_Dec_Minus.calls (k : Nat) (a0_0 : Bool) (a0_1 : ByteArray) (a0_2 : Int) (r1 : Bool) (r2 : ByteArray) (r3 : Int) (w : World) (h : dec_Dec_Minus.f k a0_0 a0_1 a0_2 = some (r1, r2, r3)) :
    Calls Tryd.prog 20 #[.agg #[.bool a0_0, .string a0_1, .int .i64 a0_2]] w fun e w' => e = .returned (.agg #[.bool r1, .string r2, .int .i64 r3]) ∧ Below w.heap.size w w' := by
  have hu30 := Tryd.underlying30
  have HB := Aside0.mk (Below.refl w.heap.size w)
  have H : ((dec_Made.f k (!a0_0) a0_1 a0_2).bind fun bt151 => (some (bt151.1, bt151.2.1, bt151.2.2))) = some (r1, r2, r3) := h
  clear h
  replace H := Option.bind_eq_some_iff.mp H
  obtain ⟨⟨t151, t152, t153⟩, A20, H⟩ := H
  replace H : (some (t151, t152, t153)) = some (r1, r2, r3) := H
  have A2 := Aside0.mk A20
  clear A20
  simp only [Option.some.injEq, Prod.mk.injEq] at H
  obtain ⟨rfl, rfl, rfl⟩ := H
  go_enter Tryd.func20, Tryd.ntmps20
  go_wp2_with (first | ((with_reducible refine gate_dst (N := 1) rfl ?_); refine box_event ?hg (N := 1) ?hd (cs := #[.bool a0_0, .string a0_1, .int .i64 a0_2]) (t := 30) ?hr ?_; (case hd => rfl); (case hg => rfl); (case hr => first | (go_simp; done) | (go_simp; rfl)); intro gb149 hg w3 hbox hb; have n0_ := Aside0.mk (below_step (bl_ HB).out hb); have n1_ := Aside0.mk (hbox); have n2_ := Aside0.mk ((by rw [hg]; exact (below_size (bl_ HB).out) : w.heap.size ≤ gb149)); have n3_ := Aside0.mk ((by rw [hg]; exact (below_size (bl_ HB).out) : w.heap.size ≤ gb149)); clear HB; have HB := n0_; have BK149 := n1_; have GW149 := n2_; have GE149 := n3_; clear n0_ n1_ n2_ n3_; clear hb hbox hg) | ((with_reducible refine gate_dst (N := 2) rfl ?_); refine box_event ?hg (N := 2) ?hd (cs := #[.bool false, .string (⟨#[]⟩ : ByteArray), .int .i64 0]) (t := 30) ?hr ?_; (case hd => rfl); (case hg => rfl); (case hr => first | (go_simp; done) | (go_simp; rfl)); intro gb150 hg w4 hbox hb; have n0_ := bb_ BK149 hb; have n1_ := Aside0.mk (below_step (bl_ HB).out hb); have n2_ := Aside0.mk (hbox); have n3_ := Aside0.mk ((by rw [hg]; exact (below_size (bl_ HB).out) : w.heap.size ≤ gb150)); have n4_ := Aside0.mk ((by rw [hg]; exact (below_size (bl_ HB).out) : w.heap.size ≤ gb150)); have n5_ := Aside0.mk ((by rw [hg]; exact Nat.ne_of_lt (blk_lt (g := gb149) (o := .cells #[.bool a0_0, .string a0_1, .int .i64 a0_2] 30 (0, 0)) (by (with_reducible repeat (first | refine blk_drewN ?_ _ | refine blk_drew ?_ | refine blk_alloc ?_ _)); exact BK149.out)) : gb149 ≠ gb150)); have n6_ := Aside0.mk ((by rw [hg]; exact Nat.ne_of_gt (blk_lt (g := gb149) (o := .cells #[.bool a0_0, .string a0_1, .int .i64 a0_2] 30 (0, 0)) (by (with_reducible repeat (first | refine blk_drewN ?_ _ | refine blk_drew ?_ | refine blk_alloc ?_ _)); exact BK149.out)) : gb150 ≠ gb149)); clear BK149; clear HB; have BK149 := n0_; have HB := n1_; have BK150 := n2_; have GW150 := n3_; have GE150 := n4_; have NB149_150 := n5_; have NB150_149 := n6_; clear n0_ n1_ n2_ n3_ n4_ n5_ n6_; clear hb hbox hg; have hnb5 := NB149_150.out; have hnc5 := NB150_149.out; have hcz6_0 : w4.cell? ⟨gb149, 0, none⟩ = some (.bool a0_0) := bc_ BK149 0; have hcz6_1 : w4.cell? ⟨gb149, 1, none⟩ = some (.string a0_1) := bc_ BK149 1; have hcz6_2 : w4.cell? ⟨gb149, 2, none⟩ = some (.int .i64 a0_2) := bc_ BK149 2; have hfz6_0 := blk_frozen BK149.out 0; have hfz6_1 := blk_frozen BK149.out 1; have hfz6_2 := blk_frozen BK149.out 2) | ((with_reducible refine gate_callee (f := 23) rfl ?_); refine goesL_ (some 10) rfl rfl Tryd.func23 (by kernel_rfl) rfl #[.bool (!a0_0), .string a0_1, .int .i64 a0_2] rfl (by (try simp only [List.map_toArray, List.map_cons, List.map_nil]); first | done | rfl | (simp only [List.length_drop, List.length_take]; rfl) | (have z_ : ∀ s_ : ByteArray, s_.size ≤ 9223372036854775807 → -(s_.size : Int) = wrap64 (-(s_.size : Int)) := (fun s_ h_ => by unfold wrap64; omega); rw [← z_ _ (by omega)]; rfl) | (simp only [ByteArray.size_append]; rfl)) ?_; (with_reducible refine (dec_Made.calls k (!a0_0) a0_1 a0_2 t151 t152 t153 _ A2.out).mono ?_); rintro e w7 ⟨rfl, hb⟩; refine ⟨_, rfl, ?_⟩; have n0_ := bb_ BK149 hb; have n1_ := bb_ BK150 hb; have n2_ := Aside0.mk (below_step (bl_ HB).out hb); clear BK149; clear BK150; clear HB; have BK149 := n0_; have BK150 := n1_; have HB := n2_; clear n0_ n1_ n2_; (try clear hb); (try clear hb2); (try clear hk); (try clear hi); have hcz8_0 : w7.cell? ⟨gb150, 0, none⟩ = some (.bool false) := bc_ BK150 0; have hcz8_1 : w7.cell? ⟨gb150, 1, none⟩ = some (.string (⟨#[]⟩ : ByteArray)) := bc_ BK150 1; have hcz8_2 : w7.cell? ⟨gb150, 2, none⟩ = some (.int .i64 0) := bc_ BK150 2; have hfz8_0 := blk_frozen BK150.out 0; have hfz8_1 := blk_frozen BK150.out 1; have hfz8_2 := blk_frozen BK150.out 2))
  refine bodyPost_ret (results_cell_row rfl _ _ gb150 30 #[.bool t151, .string t152, .int .i64 t153] (0, 0) _ rfl (by (with_reducible repeat (first | refine blk_drewN ?_ _ | refine blk_drew ?_ | refine blk_alloc ?_ _)); refine blk_put (cs := #[.bool t151, .string t152, .int .i64 0]) ?_ 2 _ rfl; (with_reducible repeat (first | refine blk_drewN ?_ _ | refine blk_drew ?_ | refine blk_alloc ?_ _)); refine blk_put (cs := #[.bool t151, .string (⟨#[]⟩ : ByteArray), .int .i64 0]) ?_ 1 _ rfl; (with_reducible repeat (first | refine blk_drewN ?_ _ | refine blk_drew ?_ | refine blk_alloc ?_ _)); refine blk_put (cs := #[.bool false, .string (⟨#[]⟩ : ByteArray), .int .i64 0]) ?_ 0 _ rfl; (with_reducible repeat (first | refine blk_drewN ?_ _ | refine blk_drew ?_ | refine blk_alloc ?_ _)); exact BK150.out) Tryd.underlying30 rfl (by kernel_rfl)) rfl ?_
  exact ⟨by first | rfl | (simp [errW_none, errW_some] <;> rfl) | (simp [*, errW_none, errW_some] <;> first | rfl | exact given_isEmpty _ | exact (given_isEmpty _).symm), by repeat (first | (with_reducible first | exact HB.out | apply below_alloc | apply pw_below_drewN | apply below_drew1 | refine below_set ?_ GE149.out | refine below_set ?_ GE150.out) | exact HB.out)⟩

/-! ### dec_Dec_Parts: function 43 -/
def dec_Dec_Parts.f (k : Nat) (a0_0 : Bool) (a0_1 : ByteArray) (a0_2 : Int) : Option (ByteArray × ByteArray) := (dec_Dec_Norm.f k a0_0 a0_1 a0_2).bind fun bt155 => (if bt155.2.2 ≥ 0 then ((num_Zeros.f bt155.2.2).bind fun t158 => (if bt155.2.1.size + t158.size ≤ 9223372036854775807 then (some (bt155.2.1 ++ t158, (⟨#[]⟩ : ByteArray))) else (none))) else ((num_Zeros.f (wrap64 ((wrap64 (-bt155.2.2)) - (bt155.2.1.size : Int)))).bind fun t159 => (if t159.size + bt155.2.1.size ≤ 9223372036854775807 then (if 0 ≤ (wrap64 (((t159 ++ bt155.2.1).size : Int) + bt155.2.2)) then (if (wrap64 (((t159 ++ bt155.2.1).size : Int) + bt155.2.2)) ≤ ((t159 ++ bt155.2.1).size : Int) then ((num_Trim.f k ((t159 ++ bt155.2.1).extract 0 ((wrap64 (((t159 ++ bt155.2.1).size : Int) + bt155.2.2)) : Int).toNat)).bind fun t160 => (some (t160, (t159 ++ bt155.2.1).extract ((wrap64 (((t159 ++ bt155.2.1).size : Int) + bt155.2.2)) : Int).toNat (t159 ++ bt155.2.1).size))) else (none)) else (none)) else (none))))
theorem dec_Dec_Parts.mono : ∀ a0 a1 a2 k, LeO (dec_Dec_Parts.f k a0 a1 a2) (dec_Dec_Parts.f (k + 1) a0 a1 a2) := by
  intro a0 a1 a2 k
  unfold dec_Dec_Parts.f
  repeat' first
      | (with_reducible exact dec_Dec_Norm.mono _ _ _ _)
      | (with_reducible exact num_Trim.mono _ _)
      | (with_reducible exact LeO.refl _)
      | (with_reducible exact LeO.none _)
      | (with_reducible refine LeO.ite ?_ ?_)
      | (with_reducible refine LeO.bind ?_ (fun _ => ?_))
      | exact dec_Dec_Norm.mono _ _ _ _
      | exact num_Trim.mono _ _
      | exact LeO.none _
      | refine LeO.ite ?_ ?_
      | refine LeO.bind ?_ (fun _ => ?_)
def dec_Dec_Parts.T3 : Bool × List (List Nat × List Nat) := (true, [([], []), ([0], [0]), ([], []), ([2], [2]), ([3], [3]), ([1, 4], [1, 4]), ([5, 4, 0, 1, 2, 3, 4, 5], [5]), ([6, 0, 1, 2, 3, 4, 5, 6], [])])
def dec_Dec_Parts.B3 : List Nat := [0, 1, 0, 4, 12, 31, 63, 127]
theorem dec_Dec_Parts.tab3 : rtab .any (opsOf Tryd.f43 3) = dec_Dec_Parts.T3 := by kernel_rfl
theorem dec_Dec_Parts.bits3 : waitsOk dec_Dec_Parts.T3.2 dec_Dec_Parts.B3 = true := by kernel_rfl
def dec_Dec_Parts.T4 : Bool × List (List Nat × List Nat) := (true, [([], []), ([0], [0]), ([1], [1]), ([], []), ([3], [3]), ([4], [4]), ([2, 5], [2, 5]), ([6], [6]), ([], []), ([8], [8]), ([7, 9], [7, 9]), ([10, 7, 0, 1, 2, 3, 4, 5, 6, 7, 8, 9, 10], [10])])
def dec_Dec_Parts.B4 : List Nat := [0, 1, 3, 0, 8, 24, 63, 127, 0, 256, 1023, 2047]
theorem dec_Dec_Parts.tab4 : rtab .any (opsOf Tryd.f43 4) = dec_Dec_Parts.T4 := by kernel_rfl
theorem dec_Dec_Parts.bits4 : waitsOk dec_Dec_Parts.T4.2 dec_Dec_Parts.B4 = true := by kernel_rfl
def dec_Dec_Parts.T6 : Bool × List (List Nat × List Nat) := (true, [([], []), ([], []), ([0, 1], [0, 1]), ([2], [2]), ([], []), ([], []), ([4, 5], [4, 5]), ([3, 3, 0, 1, 2, 3], [3]), ([6, 7, 0, 1, 2, 3, 4, 5, 6, 7], [6])])
def dec_Dec_Parts.B6 : List Nat := [0, 0, 3, 7, 0, 0, 48, 15, 255]
theorem dec_Dec_Parts.tab6 : rtab .any (opsOf Tryd.f43 6) = dec_Dec_Parts.T6 := by kernel_rfl
theorem dec_Dec_Parts.bits6 : waitsOk dec_Dec_Parts.T6.2 dec_Dec_Parts.B6 = true := by kernel_rfl
set_option maxHeartbeats 8000000 in
set_option maxRecDepth 100000 in
theorem dec_Dec_Parts.calls (k : Nat) (a0_0 : Bool) (a0_1 : ByteArray) (a0_2 : Int) (r1 : ByteArray) (r2 : ByteArray) (w : World) (h : dec_Dec_Parts.f k a0_0 a0_1 a0_2 = some (r1, r2)) :
    Calls Tryd.prog 43 #[.agg #[.bool a0_0, .string a0_1, .int .i64 a0_2]] w fun e w' => e = .returned (.tuple #[.string r1, .string r2]) ∧ Below w.heap.size w w' := by
  have hu30 := Tryd.underlying30
  have HB := Aside0.mk (Below.refl w.heap.size w)
  have H : ((dec_Dec_Norm.f k a0_0 a0_1 a0_2).bind fun bt155 => (if bt155.2.2 ≥ 0 then ((num_Zeros.f bt155.2.2).bind fun t158 => (if bt155.2.1.size + t158.size ≤ 9223372036854775807 then (some (bt155.2.1 ++ t158, (⟨#[]⟩ : ByteArray))) else (none))) else ((num_Zeros.f (wrap64 ((wrap64 (-bt155.2.2)) - (bt155.2.1.size : Int)))).bind fun t159 => (if t159.size + bt155.2.1.size ≤ 9223372036854775807 then (if 0 ≤ (wrap64 (((t159 ++ bt155.2.1).size : Int) + bt155.2.2)) then (if (wrap64 (((t159 ++ bt155.2.1).size : Int) + bt155.2.2)) ≤ ((t159 ++ bt155.2.1).size : Int) then ((num_Trim.f k ((t159 ++ bt155.2.1).extract 0 ((wrap64 (((t159 ++ bt155.2.1).size : Int) + bt155.2.2)) : Int).toNat)).bind fun t160 => (some (t160, (t159 ++ bt155.2.1).extract ((wrap64 (((t159 ++ bt155.2.1).size : Int) + bt155.2.2)) : Int).toNat (t159 ++ bt155.2.1).size))) else (none)) else (none)) else (none))))) = some (r1, r2) := h
  clear h
  replace H := Option.bind_eq_some_iff.mp H
  obtain ⟨⟨t155, t156, t157⟩, A20, H⟩ := H
  replace H : (if t157 ≥ 0 then ((num_Zeros.f t157).bind fun t158 => (if t156.size + t158.size ≤ 9223372036854775807 then (some (t156 ++ t158, (⟨#[]⟩ : ByteArray))) else (none))) else ((num_Zeros.f (wrap64 ((wrap64 (-t157)) - (t156.size : Int)))).bind fun t159 => (if t159.size + t156.size ≤ 9223372036854775807 then (if 0 ≤ (wrap64 (((t159 ++ t156).size : Int) + t157)) then (if (wrap64 (((t159 ++ t156).size : Int) + t157)) ≤ ((t159 ++ t156).size : Int) then ((num_Trim.f k ((t159 ++ t156).extract 0 ((wrap64 (((t159 ++ t156).size : Int) + t157)) : Int).toNat)).bind fun t160 => (some (t160, (t159 ++ t156).extract ((wrap64 (((t159 ++ t156).size : Int) + t157)) : Int).toNat (t159 ++ t156).size))) else (none)) else (none)) else (none)))) = some (r1, r2) := H
  have A2 := Aside0.mk A20
  clear A20
  by_cases c3 : t157 ≥ 0
  · rw [if_pos c3] at H
    have c3b0 : decide (0 ≤ t157) = true := decide_eq_true c3
    clear c3
    replace H := Option.bind_eq_some_iff.mp H
    obtain ⟨t158, A40, H⟩ := H
    replace H : (if t156.size + t158.size ≤ 9223372036854775807 then (some (t156 ++ t158, (⟨#[]⟩ : ByteArray))) else (none)) = some (r1, r2) := H
    have A4 := Aside0.mk A40
    clear A40
    by_cases c5 : t156.size + t158.size ≤ 9223372036854775807
    · rw [if_pos c5] at H
      have c5b0 := eq_true c5
      have c5b1 : decide (t156.size + t158.size ≤ 9223372036854775807) = true := decide_eq_true c5
      try have c5b2 : (9223372036854775807 < t156.size + t158.size) = False := eq_false (Nat.not_lt.2 c5)
      simp only [Option.some.injEq, Prod.mk.injEq] at H
      obtain ⟨rfl, rfl⟩ := H
      go_enter Tryd.func43, Tryd.ntmps43
      try go_wp2_with (first | ((with_reducible refine gate_dst (N := 1) rfl ?_); refine box_event ?hg (N := 1) ?hd (cs := #[.bool a0_0, .string a0_1, .int .i64 a0_2]) (t := 30) ?hr ?_; (case hd => rfl); (case hg => rfl); (case hr => first | (go_simp; done) | (go_simp; rfl)); intro gb154 hg w6 hbox hb; have n0_ := Aside0.mk (below_step (bl_ HB).out hb); have n1_ := Aside0.mk (hbox); have n2_ := Aside0.mk ((by rw [hg]; exact (below_size (bl_ HB).out) : w.heap.size ≤ gb154)); have n3_ := Aside0.mk ((by rw [hg]; exact (below_size (bl_ HB).out) : w.heap.size ≤ gb154)); clear HB; have HB := n0_; have BK154 := n1_; have GW154 := n2_; have GE154 := n3_; clear n0_ n1_ n2_ n3_; clear hb hbox hg; have hcz7_0 : w6.cell? ⟨gb154, 0, none⟩ = some (.bool a0_0) := bc_ BK154 0; have hcz7_1 : w6.cell? ⟨gb154, 1, none⟩ = some (.string a0_1) := bc_ BK154 1; have hcz7_2 : w6.cell? ⟨gb154, 2, none⟩ = some (.int .i64 a0_2) := bc_ BK154 2; have hfz7_0 := blk_frozen BK154.out 0; have hfz7_1 := blk_frozen BK154.out 1; have hfz7_2 := blk_frozen BK154.out 2) | ((with_reducible refine gate_callee (f := 22) rfl ?_); refine goesL_ (some 7) rfl rfl Tryd.func22 (by kernel_rfl) rfl #[.agg #[.bool a0_0, .string a0_1, .int .i64 a0_2]] rfl (by (try simp only [List.map_toArray, List.map_cons, List.map_nil]); first | done | rfl | (simp only [List.length_drop, List.length_take]; rfl) | (have z_ : ∀ s_ : ByteArray, s_.size ≤ 9223372036854775807 → -(s_.size : Int) = wrap64 (-(s_.size : Int)) := (fun s_ h_ => by unfold wrap64; omega); rw [← z_ _ (by omega)]; rfl) | (simp only [ByteArray.size_append]; rfl)) ?_; (with_reducible refine (dec_Dec_Norm.calls k a0_0 a0_1 a0_2 t155 t156 t157 _ A2.out).mono ?_); rintro e w8 ⟨rfl, hb⟩; refine ⟨_, rfl, ?_⟩; have n0_ := bb_ BK154 hb; have n1_ := Aside0.mk (below_step (bl_ HB).out hb); clear BK154; clear HB; have BK154 := n0_; have HB := n1_; clear n0_ n1_; (try clear hb); (try clear hb2); (try clear hk); (try clear hi); have hcz9_0 : w8.cell? ⟨gb154, 0, none⟩ = some (.bool a0_0) := bc_ BK154 0; have hcz9_1 : w8.cell? ⟨gb154, 1, none⟩ = some (.string a0_1) := bc_ BK154 1; have hcz9_2 : w8.cell? ⟨gb154, 2, none⟩ = some (.int .i64 a0_2) := bc_ BK154 2; have hfz9_0 := blk_frozen BK154.out 0; have hfz9_1 := blk_frozen BK154.out 1; have hfz9_2 := blk_frozen BK154.out 2))
      have n0_ : Aside0 ((((w8.setCell ⟨gb154, 0, none⟩ (.bool t155)).setCell ⟨gb154, 1, none⟩ (.string t156)).setCell ⟨gb154, 2, none⟩ (.int .i64 t157)).heap[gb154]? = some (.cells #[.bool t155, .string t156, .int .i64 t157] 30 (0, 0))) := ⟨by (with_reducible repeat (first | refine blk_drewN ?_ _ | refine blk_drew ?_ | refine blk_alloc ?_ _)); refine blk_put (cs := #[.bool t155, .string t156, .int .i64 a0_2]) ?_ 2 _ rfl; (with_reducible repeat (first | refine blk_drewN ?_ _ | refine blk_drew ?_ | refine blk_alloc ?_ _)); refine blk_put (cs := #[.bool t155, .string a0_1, .int .i64 a0_2]) ?_ 1 _ rfl; (with_reducible repeat (first | refine blk_drewN ?_ _ | refine blk_drew ?_ | refine blk_alloc ?_ _)); refine blk_put (cs := #[.bool a0_0, .string a0_1, .int .i64 a0_2]) ?_ 0 _ rfl; (with_reducible repeat (first | refine blk_drewN ?_ _ | refine blk_drew ?_ | refine blk_alloc ?_ _)); exact BK154.out⟩
      have n1_ : Aside0 (Below w.heap.size w (((w8.setCell ⟨gb154, 0, none⟩ (.bool t155)).setCell ⟨gb154, 1, none⟩ (.string t156)).setCell ⟨gb154, 2, none⟩ (.int .i64 t157))) := (bl_ HB)
      (try clear BK154)
      (try clear HB)
      generalize (((w8.setCell ⟨gb154, 0, none⟩ (.bool t155)).setCell ⟨gb154, 1, none⟩ (.string t156)).setCell ⟨gb154, 2, none⟩ (.int .i64 t157)) = w10 at n0_ n1_ ⊢
      have BK154 := n0_
      have HB := n1_
      clear n0_ n1_
      replace BK154 := Aside0.mk (blk_drew BK154.out)
      replace HB := Aside0.mk (below_drew1 HB.out)
      refine start_ (n := 8) (S := fun w' => w'.cell? ⟨gb154, 0, none⟩ = some (.bool t155) ∧ w'.cell? ⟨gb154, 1, none⟩ = some (.string t156) ∧ w'.cell? ⟨gb154, 2, none⟩ = some (.int .i64 t157)) (ds := []) #[false, false, false, false, false, false, false, false] (by kernel_rfl) rfl rfl ⟨bc_ BK154 0, bc_ BK154 1, bc_ BK154 2⟩ (fun hHeld => ?_); refine with_tabW dec_Dec_Parts.tab3 dec_Dec_Parts.bits3 (fun HT_ HW_ => ?_)
      generalize w10.drew = w11 at BK154 HB hHeld ⊢
      refine pu_ 0 11 #[true, false, false, false, false, false, false, false] HT_ ?_
      refine pu_ 2 13 #[true, false, true, false, false, false, false, false] HT_ ?_
      refine tk_ 1 12 #[true, true, true, false, false, false, false, false] HT_ HW_ hHeld rfl (by rintro w' ⟨s0, s1, s2⟩; go_simp; with_reducible rfl) ?_
      refine tk_ 3 14 #[true, true, true, true, false, false, false, false] HT_ HW_ hHeld rfl (by rintro w' ⟨s0, s1, s2⟩; go_simp; with_reducible rfl) ?_
      refine one_ (i := 4) (N := some 15) #[true, true, true, true, true, false, false, false] rfl rfl (one_of HT_.out (by kernel_rfl)) (by decide) (fun K hK => ?_)
      refine gs_ Tryd.func32 #[.int .i64 t157] ?_
      with_reducible refine (num_Zeros.calls t157 t158 _ A4.out).mono ?_
      rintro e w12 ⟨rfl, hb⟩
      refine ⟨_, rfl, ?_⟩
      replace BK154 := bb_ BK154 hb
      replace HB := Aside0.mk (below_step (bl_ HB).out hb)
      (try clear hb)
      (try clear hb2)
      (try clear hk)
      (try clear hi)
      refine hK.out _ _ ⟨bc_ BK154 0, bc_ BK154 1, bc_ BK154 2⟩ (fun hHeld => ?_)
      clear hK K
      refine nm_ 15 ?_
      refine pu_ 5 16 #[true, true, true, true, true, true, false, false] HT_ ?_
      refine pu_ 6 2 #[true, true, true, true, true, true, true, false] HT_ ?_
      refine pu_ 7 3 #[true, true, true, true, true, true, true, true] HT_ ?_
      refine done_ (done_of HT_.out (by kernel_rfl)) ?_
      try go_wp2
      go_ret2
      exact ⟨by first | rfl | (simp [errW_none, errW_some] <;> rfl) | (simp [*, errW_none, errW_some] <;> first | rfl | exact given_isEmpty _ | exact (given_isEmpty _).symm), by repeat (first | (with_reducible first | exact HB.out | apply below_alloc | apply pw_below_drewN | apply below_drew1 | refine below_set ?_ GE154.out) | exact HB.out)⟩
    · rw [if_neg c5] at H
      exact absurd H (by simp)
  · rw [if_neg c3] at H
    have c3b0 : decide (0 ≤ t157) = false := decide_eq_false c3
    clear c3
    replace H := Option.bind_eq_some_iff.mp H
    obtain ⟨t159, A130, H⟩ := H
    replace H : (if t159.size + t156.size ≤ 9223372036854775807 then (if 0 ≤ (wrap64 (((t159 ++ t156).size : Int) + t157)) then (if (wrap64 (((t159 ++ t156).size : Int) + t157)) ≤ ((t159 ++ t156).size : Int) then ((num_Trim.f k ((t159 ++ t156).extract 0 ((wrap64 (((t159 ++ t156).size : Int) + t157)) : Int).toNat)).bind fun t160 => (some (t160, (t159 ++ t156).extract ((wrap64 (((t159 ++ t156).size : Int) + t157)) : Int).toNat (t159 ++ t156).size))) else (none)) else (none)) else (none)) = some (r1, r2) := H
    have A13 := Aside0.mk A130
    clear A130
    by_cases c14 : t159.size + t156.size ≤ 9223372036854775807
    · rw [if_pos c14] at H
      have c14b0 := eq_true c14
      have c14b1 : decide (t159.size + t156.size ≤ 9223372036854775807) = true := decide_eq_true c14
      try have c14b2 : (9223372036854775807 < t159.size + t156.size) = False := eq_false (Nat.not_lt.2 c14)
      obtain ⟨ji15, hji15⟩ : ∃ j_ : Int, (wrap64 (((t159 ++ t156).size : Int) + t157)) = j_ := ⟨_, rfl⟩
      replace H : (if 0 ≤ (ji15) then (if (ji15) ≤ ((t159 ++ t156).size : Int) then ((num_Trim.f k ((t159 ++ t156).extract 0 ((ji15) : Int).toNat)).bind fun t160 => (some (t160, (t159 ++ t156).extract ((ji15) : Int).toNat (t159 ++ t156).size))) else (none)) else (none)) = some (r1, r2) := by first | (rw [hji15] at H; exact H) | (simp only [hji15] at H ⊢; exact H)
      (try rw [hji15] at A2)
      (try rw [hji15] at A13)
      have hji15w : (IntKind.i64.wrap (((t159 ++ t156).size : Int) + t157)) = ji15 := (i64_w _).trans hji15
      try (have hji15s := hji15; simp only [ByteArray.size_append, Int.natCast_add] at hji15s)
      try (have hji15s := hji15; simp only [ByteArray.size_append, Int.natCast_add] at hji15s)
      by_cases c16 : 0 ≤ (ji15)
      · rw [if_pos c16] at H
        have c16b0 := eq_true c16
        have c16b1 : decide (0 ≤ (ji15)) = true := decide_eq_true c16
        clear c16
        by_cases c17 : (ji15) ≤ ((t159 ++ t156).size : Int)
        · rw [if_pos c17] at H
          have c17b0 := eq_true c17
          have c17b1 : decide ((ji15) ≤ ((t159 ++ t156).size : Int)) = true := decide_eq_true c17
          try (have c17b5 := c17b0; simp only [ByteArray.size_append, Int.natCast_add] at c17b5)
          replace H := Option.bind_eq_some_iff.mp H
          obtain ⟨t160, A180, H⟩ := H
          replace H : (some (t160, (t159 ++ t156).extract ((ji15) : Int).toNat (t159 ++ t156).size)) = some (r1, r2) := H
          have A18 := Aside0.mk A180
          clear A180
          have c19b0 := eq_true (of_decide_eq_true (by first | (with_reducible assumption) | assumption) : 0 ≤ (ji15))
          have c20b0 := eq_true (of_decide_eq_true (by first | (with_reducible assumption) | assumption) : (ji15) ≤ ((t159 ++ t156).size : Int))
          simp only [Option.some.injEq, Prod.mk.injEq] at H
          obtain ⟨rfl, rfl⟩ := H
          go_enter Tryd.func43, Tryd.ntmps43
          try go_wp2_with (first | ((with_reducible refine gate_dst (N := 1) rfl ?_); refine box_event ?hg (N := 1) ?hd (cs := #[.bool a0_0, .string a0_1, .int .i64 a0_2]) (t := 30) ?hr ?_; (case hd => rfl); (case hg => rfl); (case hr => first | (go_simp; done) | (go_simp; rfl)); intro gb154 hg w21 hbox hb; have n0_ := Aside0.mk (below_step (bl_ HB).out hb); have n1_ := Aside0.mk (hbox); have n2_ := Aside0.mk ((by rw [hg]; exact (below_size (bl_ HB).out) : w.heap.size ≤ gb154)); have n3_ := Aside0.mk ((by rw [hg]; exact (below_size (bl_ HB).out) : w.heap.size ≤ gb154)); clear HB; have HB := n0_; have BK154 := n1_; have GW154 := n2_; have GE154 := n3_; clear n0_ n1_ n2_ n3_; clear hb hbox hg; have hcz22_0 : w21.cell? ⟨gb154, 0, none⟩ = some (.bool a0_0) := bc_ BK154 0; have hcz22_1 : w21.cell? ⟨gb154, 1, none⟩ = some (.string a0_1) := bc_ BK154 1; have hcz22_2 : w21.cell? ⟨gb154, 2, none⟩ = some (.int .i64 a0_2) := bc_ BK154 2; have hfz22_0 := blk_frozen BK154.out 0; have hfz22_1 := blk_frozen BK154.out 1; have hfz22_2 := blk_frozen BK154.out 2) | ((with_reducible refine gate_callee (f := 22) rfl ?_); refine goesL_ (some 7) rfl rfl Tryd.func22 (by kernel_rfl) rfl #[.agg #[.bool a0_0, .string a0_1, .int .i64 a0_2]] rfl (by (try simp only [List.map_toArray, List.map_cons, List.map_nil]); first | done | rfl | (simp only [List.length_drop, List.length_take]; rfl) | (have z_ : ∀ s_ : ByteArray, s_.size ≤ 9223372036854775807 → -(s_.size : Int) = wrap64 (-(s_.size : Int)) := (fun s_ h_ => by unfold wrap64; omega); rw [← z_ _ (by omega)]; rfl) | (simp only [ByteArray.size_append]; rfl)) ?_; (with_reducible refine (dec_Dec_Norm.calls k a0_0 a0_1 a0_2 t155 t156 t157 _ A2.out).mono ?_); rintro e w23 ⟨rfl, hb⟩; refine ⟨_, rfl, ?_⟩; have n0_ := bb_ BK154 hb; have n1_ := Aside0.mk (below_step (bl_ HB).out hb); clear BK154; clear HB; have BK154 := n0_; have HB := n1_; clear n0_ n1_; (try clear hb); (try clear hb2); (try clear hk); (try clear hi); have hcz24_0 : w23.cell? ⟨gb154, 0, none⟩ = some (.bool a0_0) := bc_ BK154 0; have hcz24_1 : w23.cell? ⟨gb154, 1, none⟩ = some (.string a0_1) := bc_ BK154 1; have hcz24_2 : w23.cell? ⟨gb154, 2, none⟩ = some (.int .i64 a0_2) := bc_ BK154 2; have hfz24_0 := blk_frozen BK154.out 0; have hfz24_1 := blk_frozen BK154.out 1; have hfz24_2 := blk_frozen BK154.out 2))
          have n0_ : Aside0 ((((w23.setCell ⟨gb154, 0, none⟩ (.bool t155)).setCell ⟨gb154, 1, none⟩ (.string t156)).setCell ⟨gb154, 2, none⟩ (.int .i64 t157)).heap[gb154]? = some (.cells #[.bool t155, .string t156, .int .i64 t157] 30 (0, 0))) := ⟨by (with_reducible repeat (first | refine blk_drewN ?_ _ | refine blk_drew ?_ | refine blk_alloc ?_ _)); refine blk_put (cs := #[.bool t155, .string t156, .int .i64 a0_2]) ?_ 2 _ rfl; (with_reducible repeat (first | refine blk_drewN ?_ _ | refine blk_drew ?_ | refine blk_alloc ?_ _)); refine blk_put (cs := #[.bool t155, .string a0_1, .int .i64 a0_2]) ?_ 1 _ rfl; (with_reducible repeat (first | refine blk_drewN ?_ _ | refine blk_drew ?_ | refine blk_alloc ?_ _)); refine blk_put (cs := #[.bool a0_0, .string a0_1, .int .i64 a0_2]) ?_ 0 _ rfl; (with_reducible repeat (first | refine blk_drewN ?_ _ | refine blk_drew ?_ | refine blk_alloc ?_ _)); exact BK154.out⟩
          have n1_ : Aside0 (Below w.heap.size w (((w23.setCell ⟨gb154, 0, none⟩ (.bool t155)).setCell ⟨gb154, 1, none⟩ (.string t156)).setCell ⟨gb154, 2, none⟩ (.int .i64 t157))) := (bl_ HB)
          (try clear BK154)
          (try clear HB)
          generalize (((w23.setCell ⟨gb154, 0, none⟩ (.bool t155)).setCell ⟨gb154, 1, none⟩ (.string t156)).setCell ⟨gb154, 2, none⟩ (.int .i64 t157)) = w25 at n0_ n1_ ⊢
          have BK154 := n0_
          have HB := n1_
          clear n0_ n1_
          replace BK154 := Aside0.mk (blk_drew BK154.out)
          replace HB := Aside0.mk (below_drew1 HB.out)
          refine start_ (n := 12) (S := fun w' => w'.cell? ⟨gb154, 0, none⟩ = some (.bool t155) ∧ w'.cell? ⟨gb154, 1, none⟩ = some (.string t156) ∧ w'.cell? ⟨gb154, 2, none⟩ = some (.int .i64 t157)) (ds := []) #[false, false, false, false, false, false, false, false, false, false, false, false] (by kernel_rfl) rfl rfl ⟨bc_ BK154 0, bc_ BK154 1, bc_ BK154 2⟩ (fun hHeld => ?_); refine with_tabW dec_Dec_Parts.tab4 dec_Dec_Parts.bits4 (fun HT_ HW_ => ?_)
          generalize w25.drew = w26 at BK154 HB hHeld ⊢
          refine pu_ 0 17 (bm_ 12 1) HT_ ?_
          refine pu_ 3 20 (bm_ 12 9) HT_ ?_
          refine pu_ 8 25 (bm_ 12 265) HT_ ?_
          refine tk_ 1 18 (bm_ 12 267) HT_ HW_ hHeld rfl (by rintro w' ⟨s0, s1, s2⟩; go_simp; with_reducible rfl) ?_
          refine pu_ 2 19 (bm_ 12 271) HT_ ?_
          refine tk_ 4 21 (bm_ 12 287) HT_ HW_ hHeld rfl (by rintro w' ⟨s0, s1, s2⟩; go_simp; with_reducible rfl) ?_
          refine pu_ 5 22 (bm_ 12 319) HT_ ?_
          refine pu_ 6 23 (bm_ 12 383) HT_ ?_
          refine tk_ 9 26 (bm_ 12 895) HT_ HW_ hHeld rfl (by rintro w' ⟨s0, s1, s2⟩; go_simp; with_reducible rfl) ?_
          refine one_ (i := 7) (N := some 24) (bm_ 12 1023) rfl rfl (one_of HT_.out (by kernel_rfl)) (by decide) (fun K hK => ?_)
          refine gs_ Tryd.func32 #[.int .i64 (wrap64 ((wrap64 (-t157)) - (t156.size : Int)))] ?_
          with_reducible refine (num_Zeros.calls (wrap64 ((wrap64 (-t157)) - (t156.size : Int))) t159 _ A13.out).mono ?_
          rintro e w27 ⟨rfl, hb⟩
          refine ⟨_, rfl, ?_⟩
          replace BK154 := bb_ BK154 hb
          replace HB := Aside0.mk (below_step (bl_ HB).out hb)
          (try clear hb)
          (try clear hb2)
          (try clear hk)
          (try clear hi)
          refine hK.out _ _ ⟨bc_ BK154 0, bc_ BK154 1, bc_ BK154 2⟩ (fun hHeld => ?_)
          clear hK K
          refine nm_ 24 ?_
          refine pu_ 10 27 (bm_ 12 2047) HT_ ?_
          refine pu_ 11 4 (bm_ 12 4095) HT_ ?_
          refine done_ (done_of HT_.out (by kernel_rfl)) ?_
          have hcz28_0 : w27.cell? ⟨gb154, 0, none⟩ = some (.bool t155) := bc_ BK154 0
          have hcz28_1 : w27.cell? ⟨gb154, 1, none⟩ = some (.string t156) := bc_ BK154 1
          have hcz28_2 : w27.cell? ⟨gb154, 2, none⟩ = some (.int .i64 t157) := bc_ BK154 2
          have hfz28_0 := blk_frozen BK154.out 0
          have hfz28_1 := blk_frozen BK154.out 1
          have hfz28_2 := blk_frozen BK154.out 2
          try go_wp2
          replace BK154 := Aside0.mk (blk_drew BK154.out)
          replace HB := Aside0.mk (below_drew1 HB.out)
          refine start_ (n := 9) (S := fun w' => True) (ds := []) #[false, false, false, false, false, false, false, false, false] (by kernel_rfl) rfl rfl trivial (fun hHeld => ?_); refine with_tabW dec_Dec_Parts.tab6 dec_Dec_Parts.bits6 (fun HT_ HW_ => ?_)
          generalize w27.drew = w29 at BK154 HB hHeld ⊢
          refine pu_ 0 33 #[true, false, false, false, false, false, false, false, false] HT_ ?_
          refine pu_ 1 34 #[true, true, false, false, false, false, false, false, false] HT_ ?_
          refine pu_ 2 35 #[true, true, true, false, false, false, false, false, false] HT_ ?_
          refine pu_ 4 37 #[true, true, true, false, true, false, false, false, false] HT_ ?_
          refine pu_ 5 38 #[true, true, true, false, true, true, false, false, false] HT_ ?_
          refine pu_ 6 39 #[true, true, true, false, true, true, true, false, false] HT_ ?_
          refine one_ (i := 3) (N := some 36) #[true, true, true, true, true, true, true, false, false] rfl rfl (one_of HT_.out (by kernel_rfl)) (by decide) (fun K hK => ?_)
          refine goes_ Tryd.func39 (by kernel_rfl) rfl #[.string ((t159 ++ t156).extract 0 ((ji15) : Int).toNat)] (by rfl) rfl rfl (by (try simp only [List.map_toArray, List.map_cons, List.map_nil]); first | done | (simp only [hji15]; rfl) | rfl | (simp only [List.length_drop, List.length_take]; rfl) | (have z_ : ∀ s_ : ByteArray, s_.size ≤ 9223372036854775807 → -(s_.size : Int) = wrap64 (-(s_.size : Int)) := (fun s_ h_ => by unfold wrap64; omega); rw [← z_ _ (by omega)]; rfl) | (simp only [ByteArray.size_append]; rfl)) ?_
          with_reducible refine (num_Trim.calls k ((t159 ++ t156).extract 0 ((ji15) : Int).toNat) t160 _ A18.out).mono ?_
          rintro e w' ⟨rfl, ⟨nd, rfl⟩⟩
          refine ⟨_, rfl, ?_⟩
          refine hK.out _ _ trivial (fun hHeld => ?_)
          clear hK K
          refine nm_ 36 ?_
          refine pu_ 7 2 #[true, true, true, true, true, true, true, true, false] HT_ ?_
          refine pu_ 8 3 #[true, true, true, true, true, true, true, true, true] HT_ ?_
          refine done_ (done_of HT_.out (by kernel_rfl)) ?_
          try go_wp2
          go_ret2
          exact ⟨by first | rfl | (simp [errW_none, errW_some] <;> rfl) | (simp only [← hji15]; first | rfl | (simp [errW_none, errW_some] <;> rfl)) | (simp [*, errW_none, errW_some] <;> first | rfl | exact given_isEmpty _ | exact (given_isEmpty _).symm), by repeat (first | (with_reducible first | exact HB.out | apply below_alloc | apply pw_below_drewN | apply below_drew1 | refine below_set ?_ GE154.out) | exact HB.out)⟩
        · rw [if_neg c17] at H
          exact absurd H (by simp)
      · rw [if_neg c16] at H
        exact absurd H (by simp)
    · rw [if_neg c14] at H
      exact absurd H (by simp)

/-! ### dec_Dec_sign: function 50 -/
def dec_Dec_sign.f (a0_0 : Bool) (a0_1 : ByteArray) (a0_2 : Int) : Option (ByteArray) := if a0_0 = true then (some (⟨#[45]⟩ : ByteArray)) else (some (⟨#[]⟩ : ByteArray))
set_option maxHeartbeats 8000000 in
set_option maxRecDepth 100000 in
theorem dec_Dec_sign.calls (a0_0 : Bool) (a0_1 : ByteArray) (a0_2 : Int) (r : ByteArray) (w : World) (h : dec_Dec_sign.f a0_0 a0_1 a0_2 = some r) :
    Calls Tryd.prog 50 #[.agg #[.bool a0_0, .string a0_1, .int .i64 a0_2]] w fun e w' => e = .returned (.string r) ∧ Below w.heap.size w w' := by
  have hu30 := Tryd.underlying30
  have HB := Aside0.mk (Below.refl w.heap.size w)
  have H : (if a0_0 = true then (some (⟨#[45]⟩ : ByteArray)) else (some (⟨#[]⟩ : ByteArray))) = some r := h
  clear h
  by_cases c2 : a0_0 = true
  · subst c2
    have H1 : (some (⟨#[45]⟩ : ByteArray)) = some r := by rw [if_pos rfl] at H; exact H
    clear H
    have H := H1
    clear H1
    obtain rfl := Option.some.inj H
    go_enter Tryd.func50, Tryd.ntmps50
    go_wp2_with (first | ((with_reducible refine gate_dst (N := 1) rfl ?_); refine box_event ?hg (N := 1) ?hd (cs := #[.bool true, .string a0_1, .int .i64 a0_2]) (t := 30) ?hr ?_; (case hd => rfl); (case hg => rfl); (case hr => first | (go_simp; done) | (go_simp; rfl)); intro gb161 hg w3 hbox hb; have n0_ := Aside0.mk (below_step (bl_ HB).out hb); have n1_ := Aside0.mk (hbox); have n2_ := Aside0.mk ((by rw [hg]; exact (below_size (bl_ HB).out) : w.heap.size ≤ gb161)); have n3_ := Aside0.mk ((by rw [hg]; exact (below_size (bl_ HB).out) : w.heap.size ≤ gb161)); clear HB; have HB := n0_; have BK161 := n1_; have GW161 := n2_; have GE161 := n3_; clear n0_ n1_ n2_ n3_; clear hb hbox hg; have hcz4_0 : w3.cell? ⟨gb161, 0, none⟩ = some (.bool true) := bc_ BK161 0; have hcz4_1 : w3.cell? ⟨gb161, 1, none⟩ = some (.string a0_1) := bc_ BK161 1; have hcz4_2 : w3.cell? ⟨gb161, 2, none⟩ = some (.int .i64 a0_2) := bc_ BK161 2; have hfz4_0 := blk_frozen BK161.out 0; have hfz4_1 := blk_frozen BK161.out 1; have hfz4_2 := blk_frozen BK161.out 2))
    go_ret
    exact ⟨by first | rfl | (simp [errW_none, errW_some] <;> rfl) | (simp [*, errW_none, errW_some] <;> first | rfl | exact given_isEmpty _ | exact (given_isEmpty _).symm), by repeat (first | (with_reducible first | exact HB.out | apply below_alloc | apply pw_below_drewN | apply below_drew1 | refine below_set ?_ GE161.out) | exact HB.out)⟩
  · replace c2 := Bool.eq_false_iff.mpr c2
    subst c2
    have H1 : (some (⟨#[]⟩ : ByteArray)) = some r := by rw [if_neg (show ¬ (false = true) by decide)] at H; exact H
    clear H
    have H := H1
    clear H1
    obtain rfl := Option.some.inj H
    go_enter Tryd.func50, Tryd.ntmps50
    go_wp2_with (first | ((with_reducible refine gate_dst (N := 1) rfl ?_); refine box_event ?hg (N := 1) ?hd (cs := #[.bool false, .string a0_1, .int .i64 a0_2]) (t := 30) ?hr ?_; (case hd => rfl); (case hg => rfl); (case hr => first | (go_simp; done) | (go_simp; rfl)); intro gb161 hg w5 hbox hb; have n0_ := Aside0.mk (below_step (bl_ HB).out hb); have n1_ := Aside0.mk (hbox); have n2_ := Aside0.mk ((by rw [hg]; exact (below_size (bl_ HB).out) : w.heap.size ≤ gb161)); have n3_ := Aside0.mk ((by rw [hg]; exact (below_size (bl_ HB).out) : w.heap.size ≤ gb161)); clear HB; have HB := n0_; have BK161 := n1_; have GW161 := n2_; have GE161 := n3_; clear n0_ n1_ n2_ n3_; clear hb hbox hg; have hcz6_0 : w5.cell? ⟨gb161, 0, none⟩ = some (.bool false) := bc_ BK161 0; have hcz6_1 : w5.cell? ⟨gb161, 1, none⟩ = some (.string a0_1) := bc_ BK161 1; have hcz6_2 : w5.cell? ⟨gb161, 2, none⟩ = some (.int .i64 a0_2) := bc_ BK161 2; have hfz6_0 := blk_frozen BK161.out 0; have hfz6_1 := blk_frozen BK161.out 1; have hfz6_2 := blk_frozen BK161.out 2))
    go_ret
    exact ⟨by first | rfl | (simp [errW_none, errW_some] <;> rfl) | (simp [*, errW_none, errW_some] <;> first | rfl | exact given_isEmpty _ | exact (given_isEmpty _).symm), by repeat (first | (with_reducible first | exact HB.out | apply below_alloc | apply pw_below_drewN | apply below_drew1 | refine below_set ?_ GE161.out) | exact HB.out)⟩

/-! ### dec_Dec_Plain: function 30 -/
def dec_Dec_Plain.f (k : Nat) (a0_0 : Bool) (a0_1 : ByteArray) (a0_2 : Int) : Option (ByteArray) := (dec_Dec_Norm.f k a0_0 a0_1 a0_2).bind fun bt163 => ((dec_Dec_Parts.f k bt163.1 bt163.2.1 bt163.2.2).bind fun bt166 => (if bt166.1.toList = ([] : List UInt8) then (if bt166.2.toList = ([] : List UInt8) then ((dec_Dec_sign.f bt163.1 bt163.2.1 bt163.2.2).bind fun t168 => (if t168.size + 1 ≤ 9223372036854775807 then (if (t168 ++ (⟨#[48]⟩ : ByteArray)).size + bt166.2.size ≤ 9223372036854775807 then (some ((t168 ++ (⟨#[48]⟩ : ByteArray)) ++ bt166.2)) else (none)) else (none))) else (if 1 + bt166.2.size ≤ 9223372036854775807 then ((dec_Dec_sign.f bt163.1 bt163.2.1 bt163.2.2).bind fun t169 => (if t169.size + 1 ≤ 9223372036854775807 then (if (t169 ++ (⟨#[48]⟩ : ByteArray)).size + ((⟨#[46]⟩ : ByteArray) ++ bt166.2).size ≤ 9223372036854775807 then (some ((t169 ++ (⟨#[48]⟩ : ByteArray)) ++ ((⟨#[46]⟩ : ByteArray) ++ bt166.2))) else (none)) else (none))) else (none))) else (if bt166.2.toList = ([] : List UInt8) then ((dec_Dec_sign.f bt163.1 bt163.2.1 bt163.2.2).bind fun t170 => (if t170.size + bt166.1.size ≤ 9223372036854775807 then (if (t170 ++ bt166.1).size + bt166.2.size ≤ 9223372036854775807 then (some ((t170 ++ bt166.1) ++ bt166.2)) else (none)) else (none))) else (if 1 + bt166.2.size ≤ 9223372036854775807 then ((dec_Dec_sign.f bt163.1 bt163.2.1 bt163.2.2).bind fun t171 => (if t171.size + bt166.1.size ≤ 9223372036854775807 then (if (t171 ++ bt166.1).size + ((⟨#[46]⟩ : ByteArray) ++ bt166.2).size ≤ 9223372036854775807 then (some ((t171 ++ bt166.1) ++ ((⟨#[46]⟩ : ByteArray) ++ bt166.2))) else (none)) else (none))) else (none)))))
theorem dec_Dec_Plain.mono : ∀ a0 a1 a2 k, LeO (dec_Dec_Plain.f k a0 a1 a2) (dec_Dec_Plain.f (k + 1) a0 a1 a2) := by
  intro a0 a1 a2 k
  unfold dec_Dec_Plain.f
  repeat' first
      | (with_reducible exact dec_Dec_Norm.mono _ _ _ _)
      | (with_reducible exact dec_Dec_Parts.mono _ _ _ _)
      | (with_reducible exact LeO.refl _)
      | (with_reducible exact LeO.none _)
      | (with_reducible refine LeO.ite ?_ ?_)
      | (with_reducible refine LeO.bind ?_ (fun _ => ?_))
      | exact dec_Dec_Norm.mono _ _ _ _
      | exact dec_Dec_Parts.mono _ _ _ _
      | exact LeO.none _
      | refine LeO.ite ?_ ?_
      | refine LeO.bind ?_ (fun _ => ?_)
set_option maxHeartbeats 8000000 in
set_option maxRecDepth 100000 in
theorem dec_Dec_Plain.calls (k : Nat) (a0_0 : Bool) (a0_1 : ByteArray) (a0_2 : Int) (r : ByteArray) (w : World) (h : dec_Dec_Plain.f k a0_0 a0_1 a0_2 = some r) :
    Calls Tryd.prog 30 #[.agg #[.bool a0_0, .string a0_1, .int .i64 a0_2]] w fun e w' => e = .returned (.string r) ∧ Below w.heap.size w w' := by
  have hu30 := Tryd.underlying30
  have HB := Aside0.mk (Below.refl w.heap.size w)
  have H : ((dec_Dec_Norm.f k a0_0 a0_1 a0_2).bind fun bt163 => ((dec_Dec_Parts.f k bt163.1 bt163.2.1 bt163.2.2).bind fun bt166 => (if bt166.1.toList = ([] : List UInt8) then (if bt166.2.toList = ([] : List UInt8) then ((dec_Dec_sign.f bt163.1 bt163.2.1 bt163.2.2).bind fun t168 => (if t168.size + 1 ≤ 9223372036854775807 then (if (t168 ++ (⟨#[48]⟩ : ByteArray)).size + bt166.2.size ≤ 9223372036854775807 then (some ((t168 ++ (⟨#[48]⟩ : ByteArray)) ++ bt166.2)) else (none)) else (none))) else (if 1 + bt166.2.size ≤ 9223372036854775807 then ((dec_Dec_sign.f bt163.1 bt163.2.1 bt163.2.2).bind fun t169 => (if t169.size + 1 ≤ 9223372036854775807 then (if (t169 ++ (⟨#[48]⟩ : ByteArray)).size + ((⟨#[46]⟩ : ByteArray) ++ bt166.2).size ≤ 9223372036854775807 then (some ((t169 ++ (⟨#[48]⟩ : ByteArray)) ++ ((⟨#[46]⟩ : ByteArray) ++ bt166.2))) else (none)) else (none))) else (none))) else (if bt166.2.toList = ([] : List UInt8) then ((dec_Dec_sign.f bt163.1 bt163.2.1 bt163.2.2).bind fun t170 => (if t170.size + bt166.1.size ≤ 9223372036854775807 then (if (t170 ++ bt166.1).size + bt166.2.size ≤ 9223372036854775807 then (some ((t170 ++ bt166.1) ++ bt166.2)) else (none)) else (none))) else (if 1 + bt166.2.size ≤ 9223372036854775807 then ((dec_Dec_sign.f bt163.1 bt163.2.1 bt163.2.2).bind fun t171 => (if t171.size + bt166.1.size ≤ 9223372036854775807 then (if (t171 ++ bt166.1).size + ((⟨#[46]⟩ : ByteArray) ++ bt166.2).size ≤ 9223372036854775807 then (some ((t171 ++ bt166.1) ++ ((⟨#[46]⟩ : ByteArray) ++ bt166.2))) else (none)) else (none))) else (none)))))) = some r := h
  clear h
  replace H := Option.bind_eq_some_iff.mp H
  obtain ⟨⟨t163, t164, t165⟩, A20, H⟩ := H
  replace H : ((dec_Dec_Parts.f k t163 t164 t165).bind fun bt166 => (if bt166.1.toList = ([] : List UInt8) then (if bt166.2.toList = ([] : List UInt8) then ((dec_Dec_sign.f t163 t164 t165).bind fun t168 => (if t168.size + 1 ≤ 9223372036854775807 then (if (t168 ++ (⟨#[48]⟩ : ByteArray)).size + bt166.2.size ≤ 9223372036854775807 then (some ((t168 ++ (⟨#[48]⟩ : ByteArray)) ++ bt166.2)) else (none)) else (none))) else (if 1 + bt166.2.size ≤ 9223372036854775807 then ((dec_Dec_sign.f t163 t164 t165).bind fun t169 => (if t169.size + 1 ≤ 9223372036854775807 then (if (t169 ++ (⟨#[48]⟩ : ByteArray)).size + ((⟨#[46]⟩ : ByteArray) ++ bt166.2).size ≤ 9223372036854775807 then (some ((t169 ++ (⟨#[48]⟩ : ByteArray)) ++ ((⟨#[46]⟩ : ByteArray) ++ bt166.2))) else (none)) else (none))) else (none))) else (if bt166.2.toList = ([] : List UInt8) then ((dec_Dec_sign.f t163 t164 t165).bind fun t170 => (if t170.size + bt166.1.size ≤ 9223372036854775807 then (if (t170 ++ bt166.1).size + bt166.2.size ≤ 9223372036854775807 then (some ((t170 ++ bt166.1) ++ bt166.2)) else (none)) else (none))) else (if 1 + bt166.2.size ≤ 9223372036854775807 then ((dec_Dec_sign.f t163 t164 t165).bind fun t171 => (if t171.size + bt166.1.size ≤ 9223372036854775807 then (if (t171 ++ bt166.1).size + ((⟨#[46]⟩ : ByteArray) ++ bt166.2).size ≤ 9223372036854775807 then (some ((t171 ++ bt166.1) ++ ((⟨#[46]⟩ : ByteArray) ++ bt166.2))) else (none)) else (none))) else (none))))) = some r := H
  have A2 := Aside0.mk A20
  clear A20
  replace H := Option.bind_eq_some_iff.mp H
  obtain ⟨⟨t166, t167⟩, A30, H⟩ := H
  replace H : (if t166.toList = ([] : List UInt8) then (if t167.toList = ([] : List UInt8) then ((dec_Dec_sign.f t163 t164 t165).bind fun t168 => (if t168.size + 1 ≤ 9223372036854775807 then (if (t168 ++ (⟨#[48]⟩ : ByteArray)).size + t167.size ≤ 9223372036854775807 then (some ((t168 ++ (⟨#[48]⟩ : ByteArray)) ++ t167)) else (none)) else (none))) else (if 1 + t167.size ≤ 9223372036854775807 then ((dec_Dec_sign.f t163 t164 t165).bind fun t169 => (if t169.size + 1 ≤ 9223372036854775807 then (if (t169 ++ (⟨#[48]⟩ : ByteArray)).size + ((⟨#[46]⟩ : ByteArray) ++ t167).size ≤ 9223372036854775807 then (some ((t169 ++ (⟨#[48]⟩ : ByteArray)) ++ ((⟨#[46]⟩ : ByteArray) ++ t167))) else (none)) else (none))) else (none))) else (if t167.toList = ([] : List UInt8) then ((dec_Dec_sign.f t163 t164 t165).bind fun t170 => (if t170.size + t166.size ≤ 9223372036854775807 then (if (t170 ++ t166).size + t167.size ≤ 9223372036854775807 then (some ((t170 ++ t166) ++ t167)) else (none)) else (none))) else (if 1 + t167.size ≤ 9223372036854775807 then ((dec_Dec_sign.f t163 t164 t165).bind fun t171 => (if t171.size + t166.size ≤ 9223372036854775807 then (if (t171 ++ t166).size + ((⟨#[46]⟩ : ByteArray) ++ t167).size ≤ 9223372036854775807 then (some ((t171 ++ t166) ++ ((⟨#[46]⟩ : ByteArray) ++ t167))) else (none)) else (none))) else (none)))) = some r := H
  have A3 := Aside0.mk A30
  clear A30
  by_cases c4 : t166.toList = ([] : List UInt8)
  · rw [if_pos c4] at H
    have c4b0 : (t166.toList == ([] : List UInt8)) = true := beq_iff_eq.mpr c4
    have c4b1 : (t166.toList != ([] : List UInt8)) = false := bne_eq_false_iff_eq.mpr c4
    have c4b2 : (t166.toList.isEmpty) = true := by rw [c4]; rfl
    clear c4
    by_cases c5 : t167.toList = ([] : List UInt8)
    · rw [if_pos c5] at H
      have c5b0 : (t167.toList == ([] : List UInt8)) = true := beq_iff_eq.mpr c5
      have c5b1 : (t167.toList != ([] : List UInt8)) = false := bne_eq_false_iff_eq.mpr c5
      have c5b2 : (t167.toList.isEmpty) = true := by rw [c5]; rfl
      clear c5
      replace H := Option.bind_eq_some_iff.mp H
      obtain ⟨t168, A60, H⟩ := H
      replace H : (if t168.size + 1 ≤ 9223372036854775807 then (if (t168 ++ (⟨#[48]⟩ : ByteArray)).size + t167.size ≤ 9223372036854775807 then (some ((t168 ++ (⟨#[48]⟩ : ByteArray)) ++ t167)) else (none)) else (none)) = some r := H
      have A6 := Aside0.mk A60
      clear A60
      by_cases c7 : t168.size + 1 ≤ 9223372036854775807
      · rw [if_pos c7] at H
        have c7b0 := eq_true c7
        have c7b1 : decide (t168.size + 1 ≤ 9223372036854775807) = true := decide_eq_true c7
        try have c7b2 : (9223372036854775807 < t168.size + 1) = False := eq_false (Nat.not_lt.2 c7)
        by_cases c8 : (t168 ++ (⟨#[48]⟩ : ByteArray)).size + t167.size ≤ 9223372036854775807
        · rw [if_pos c8] at H
          have c8b0 := eq_true c8
          have c8b1 : decide ((t168 ++ (⟨#[48]⟩ : ByteArray)).size + t167.size ≤ 9223372036854775807) = true := decide_eq_true c8
          try (have c8b5 := c8b0; simp only [ByteArray.size_append, Int.natCast_add] at c8b5)
          try have c8b2 : (9223372036854775807 < (t168 ++ (⟨#[48]⟩ : ByteArray)).size + t167.size) = False := eq_false (Nat.not_lt.2 c8)
          try have c8b3 : (9223372036854775807 < t168.size + 1 + t167.size) = False := eq_false (Nat.not_lt.2 (by have h_ := c8; simp only [ByteArray.size_append] at h_; exact h_))
          try have c8b4 : (t168.size + 1 + t167.size ≤ 9223372036854775807) = True := eq_true (by have h_ := c8; simp only [ByteArray.size_append] at h_; exact h_)
          obtain rfl := Option.some.inj H
          go_enter Tryd.func30, Tryd.ntmps30
          go_wp2_with (first | ((with_reducible refine gate_dst (N := 1) rfl ?_); refine box_event ?hg (N := 1) ?hd (cs := #[.bool a0_0, .string a0_1, .int .i64 a0_2]) (t := 30) ?hr ?_; (case hd => rfl); (case hg => rfl); (case hr => first | (go_simp; done) | (go_simp; rfl)); intro gb162 hg w9 hbox hb; have n0_ := Aside0.mk (below_step (bl_ HB).out hb); have n1_ := Aside0.mk (hbox); have n2_ := Aside0.mk ((by rw [hg]; exact (below_size (bl_ HB).out) : w.heap.size ≤ gb162)); have n3_ := Aside0.mk ((by rw [hg]; exact (below_size (bl_ HB).out) : w.heap.size ≤ gb162)); clear HB; have HB := n0_; have BK162 := n1_; have GW162 := n2_; have GE162 := n3_; clear n0_ n1_ n2_ n3_; clear hb hbox hg; have hcz10_0 : w9.cell? ⟨gb162, 0, none⟩ = some (.bool a0_0) := bc_ BK162 0; have hcz10_1 : w9.cell? ⟨gb162, 1, none⟩ = some (.string a0_1) := bc_ BK162 1; have hcz10_2 : w9.cell? ⟨gb162, 2, none⟩ = some (.int .i64 a0_2) := bc_ BK162 2; have hfz10_0 := blk_frozen BK162.out 0; have hfz10_1 := blk_frozen BK162.out 1; have hfz10_2 := blk_frozen BK162.out 2) | ((with_reducible refine gate_callee (f := 22) rfl ?_); refine goesL_ (some 6) rfl rfl Tryd.func22 (by kernel_rfl) rfl #[.agg #[.bool a0_0, .string a0_1, .int .i64 a0_2]] rfl (by (try simp only [List.map_toArray, List.map_cons, List.map_nil]); first | done | rfl | (simp only [List.length_drop, List.length_take]; rfl) | (have z_ : ∀ s_ : ByteArray, s_.size ≤ 9223372036854775807 → -(s_.size : Int) = wrap64 (-(s_.size : Int)) := (fun s_ h_ => by unfold wrap64; omega); rw [← z_ _ (by omega)]; rfl) | (simp only [ByteArray.size_append]; rfl)) ?_; (with_reducible refine (dec_Dec_Norm.calls k a0_0 a0_1 a0_2 t163 t164 t165 _ A2.out).mono ?_); rintro e w11 ⟨rfl, hb⟩; refine ⟨_, rfl, ?_⟩; have n0_ := bb_ BK162 hb; have n1_ := Aside0.mk (below_step (bl_ HB).out hb); clear BK162; clear HB; have BK162 := n0_; have HB := n1_; clear n0_ n1_; (try clear hb); (try clear hb2); (try clear hk); (try clear hi); have hcz12_0 : w11.cell? ⟨gb162, 0, none⟩ = some (.bool a0_0) := bc_ BK162 0; have hcz12_1 : w11.cell? ⟨gb162, 1, none⟩ = some (.string a0_1) := bc_ BK162 1; have hcz12_2 : w11.cell? ⟨gb162, 2, none⟩ = some (.int .i64 a0_2) := bc_ BK162 2; have hfz12_0 := blk_frozen BK162.out 0; have hfz12_1 := blk_frozen BK162.out 1; have hfz12_2 := blk_frozen BK162.out 2) | ((with_reducible refine gate_callee (f := 43) rfl ?_); refine goesL_ (some 9) rfl rfl Tryd.func43 (by kernel_rfl) rfl #[.agg #[.bool t163, .string t164, .int .i64 t165]] rfl (by (try simp only [List.map_toArray, List.map_cons, List.map_nil]); first | done | rfl | (simp only [List.length_drop, List.length_take]; rfl) | (have z_ : ∀ s_ : ByteArray, s_.size ≤ 9223372036854775807 → -(s_.size : Int) = wrap64 (-(s_.size : Int)) := (fun s_ h_ => by unfold wrap64; omega); rw [← z_ _ (by omega)]; rfl) | (simp only [ByteArray.size_append]; rfl)) ?_; (with_reducible refine (dec_Dec_Parts.calls k t163 t164 t165 t166 t167 _ A3.out).mono ?_); rintro e w13 ⟨rfl, hb⟩; refine ⟨_, rfl, ?_⟩; have n0_ := Aside0.mk (blk_below (g := gb162) (o := .cells #[.bool t163, .string t164, .int .i64 t165] 30 (0, 0)) (by (with_reducible repeat (first | refine blk_drewN ?_ _ | refine blk_drew ?_ | refine blk_alloc ?_ _)); refine blk_put (cs := #[.bool t163, .string t164, .int .i64 a0_2]) ?_ 2 _ rfl; (with_reducible repeat (first | refine blk_drewN ?_ _ | refine blk_drew ?_ | refine blk_alloc ?_ _)); refine blk_put (cs := #[.bool t163, .string a0_1, .int .i64 a0_2]) ?_ 1 _ rfl; (with_reducible repeat (first | refine blk_drewN ?_ _ | refine blk_drew ?_ | refine blk_alloc ?_ _)); refine blk_put (cs := #[.bool a0_0, .string a0_1, .int .i64 a0_2]) ?_ 0 _ rfl; (with_reducible repeat (first | refine blk_drewN ?_ _ | refine blk_drew ?_ | refine blk_alloc ?_ _)); exact BK162.out) hb); have n1_ := Aside0.mk (below_step (bl_ HB).out hb); clear BK162; clear HB; have BK162 := n0_; have HB := n1_; clear n0_ n1_; (try clear hb); (try clear hb2); (try clear hk); (try clear hi); have hcz14_0 : w13.cell? ⟨gb162, 0, none⟩ = some (.bool t163) := bc_ BK162 0; have hcz14_1 : w13.cell? ⟨gb162, 1, none⟩ = some (.string t164) := bc_ BK162 1; have hcz14_2 : w13.cell? ⟨gb162, 2, none⟩ = some (.int .i64 t165) := bc_ BK162 2; have hfz14_0 := blk_frozen BK162.out 0; have hfz14_1 := blk_frozen BK162.out 1; have hfz14_2 := blk_frozen BK162.out 2) | ((with_reducible refine gate_callee (f := 50) rfl ?_); refine goesL_ (some 19) rfl rfl Tryd.func50 (by kernel_rfl) rfl #[.agg #[.bool t163, .string t164, .int .i64 t165]] rfl (by (try simp only [List.map_toArray, List.map_cons, List.map_nil]); first | done | rfl | (simp only [List.length_drop, List.length_take]; rfl) | (have z_ : ∀ s_ : ByteArray, s_.size ≤ 9223372036854775807 → -(s_.size : Int) = wrap64 (-(s_.size : Int)) := (fun s_ h_ => by unfold wrap64; omega); rw [← z_ _ (by omega)]; rfl) | (simp only [ByteArray.size_append]; rfl)) ?_; (with_reducible refine (dec_Dec_sign.calls t163 t164 t165 t168 _ A6.out).mono ?_); rintro e w15 ⟨rfl, hb⟩; refine ⟨_, rfl, ?_⟩; have n0_ := bb_ BK162 hb; have n1_ := Aside0.mk (below_step (bl_ HB).out hb); clear BK162; clear HB; have BK162 := n0_; have HB := n1_; clear n0_ n1_; (try clear hb); (try clear hb2); (try clear hk); (try clear hi)))
          go_ret
          exact ⟨by first | rfl | (simp [errW_none, errW_some] <;> rfl) | (simp [*, errW_none, errW_some] <;> first | rfl | exact given_isEmpty _ | exact (given_isEmpty _).symm), by repeat (first | (with_reducible first | exact HB.out | apply below_alloc | apply pw_below_drewN | apply below_drew1 | refine below_set ?_ GE162.out) | exact HB.out)⟩
        · rw [if_neg c8] at H
          exact absurd H (by simp)
      · rw [if_neg c7] at H
        exact absurd H (by simp)
    · rw [if_neg c5] at H
      have c5b0 : (t167.toList == ([] : List UInt8)) = false := beq_eq_false_iff_ne.mpr c5
      have c5b1 : (t167.toList != ([] : List UInt8)) = true := bne_iff_ne.mpr c5
      have c5b2 : (t167.toList.isEmpty) = false := by rw [given_isEmpty, bne_iff_ne.mpr c5]; rfl
      by_cases c16 : 1 + t167.size ≤ 9223372036854775807
      · rw [if_pos c16] at H
        have c16b0 := eq_true c16
        have c16b1 : decide (1 + t167.size ≤ 9223372036854775807) = true := decide_eq_true c16
        try have c16b2 : (9223372036854775807 < 1 + t167.size) = False := eq_false (Nat.not_lt.2 c16)
        replace H := Option.bind_eq_some_iff.mp H
        obtain ⟨t169, A170, H⟩ := H
        replace H : (if t169.size + 1 ≤ 9223372036854775807 then (if (t169 ++ (⟨#[48]⟩ : ByteArray)).size + ((⟨#[46]⟩ : ByteArray) ++ t167).size ≤ 9223372036854775807 then (some ((t169 ++ (⟨#[48]⟩ : ByteArray)) ++ ((⟨#[46]⟩ : ByteArray) ++ t167))) else (none)) else (none)) = some r := H
        have A17 := Aside0.mk A170
        clear A170
        by_cases c18 : t169.size + 1 ≤ 9223372036854775807
        · rw [if_pos c18] at H
          have c18b0 := eq_true c18
          have c18b1 : decide (t169.size + 1 ≤ 9223372036854775807) = true := decide_eq_true c18
          try have c18b2 : (9223372036854775807 < t169.size + 1) = False := eq_false (Nat.not_lt.2 c18)
          by_cases c19 : (t169 ++ (⟨#[48]⟩ : ByteArray)).size + ((⟨#[46]⟩ : ByteArray) ++ t167).size ≤ 9223372036854775807
          · rw [if_pos c19] at H
            have c19b0 := eq_true c19
            have c19b1 : decide ((t169 ++ (⟨#[48]⟩ : ByteArray)).size + ((⟨#[46]⟩ : ByteArray) ++ t167).size ≤ 9223372036854775807) = true := decide_eq_true c19
            try (have c19b5 := c19b0; simp only [ByteArray.size_append, Int.natCast_add] at c19b5)
            try have c19b2 : (9223372036854775807 < (t169 ++ (⟨#[48]⟩ : ByteArray)).size + ((⟨#[46]⟩ : ByteArray) ++ t167).size) = False := eq_false (Nat.not_lt.2 c19)
            try have c19b3 : (9223372036854775807 < t169.size + 1 + 1 + t167.size) = False := eq_false (Nat.not_lt.2 (by have h_ := c19; simp only [ByteArray.size_append] at h_; exact h_))
            try have c19b4 : (t169.size + 1 + 1 + t167.size ≤ 9223372036854775807) = True := eq_true (by have h_ := c19; simp only [ByteArray.size_append] at h_; exact h_)
            obtain rfl := Option.some.inj H
            go_enter Tryd.func30, Tryd.ntmps30
            go_wp2_with (first | ((with_reducible refine gate_dst (N := 1) rfl ?_); refine box_event ?hg (N := 1) ?hd (cs := #[.bool a0_0, .string a0_1, .int .i64 a0_2]) (t := 30) ?hr ?_; (case hd => rfl); (case hg => rfl); (case hr => first | (go_simp; done) | (go_simp; rfl)); intro gb162 hg w20 hbox hb; have n0_ := Aside0.mk (below_step (bl_ HB).out hb); have n1_ := Aside0.mk (hbox); have n2_ := Aside0.mk ((by rw [hg]; exact (below_size (bl_ HB).out) : w.heap.size ≤ gb162)); have n3_ := Aside0.mk ((by rw [hg]; exact (below_size (bl_ HB).out) : w.heap.size ≤ gb162)); clear HB; have HB := n0_; have BK162 := n1_; have GW162 := n2_; have GE162 := n3_; clear n0_ n1_ n2_ n3_; clear hb hbox hg; have hcz21_0 : w20.cell? ⟨gb162, 0, none⟩ = some (.bool a0_0) := bc_ BK162 0; have hcz21_1 : w20.cell? ⟨gb162, 1, none⟩ = some (.string a0_1) := bc_ BK162 1; have hcz21_2 : w20.cell? ⟨gb162, 2, none⟩ = some (.int .i64 a0_2) := bc_ BK162 2; have hfz21_0 := blk_frozen BK162.out 0; have hfz21_1 := blk_frozen BK162.out 1; have hfz21_2 := blk_frozen BK162.out 2) | ((with_reducible refine gate_callee (f := 22) rfl ?_); refine goesL_ (some 6) rfl rfl Tryd.func22 (by kernel_rfl) rfl #[.agg #[.bool a0_0, .string a0_1, .int .i64 a0_2]] rfl (by (try simp only [List.map_toArray, List.map_cons, List.map_nil]); first | done | rfl | (simp only [List.length_drop, List.length_take]; rfl) | (have z_ : ∀ s_ : ByteArray, s_.size ≤ 9223372036854775807 → -(s_.size : Int) = wrap64 (-(s_.size : Int)) := (fun s_ h_ => by unfold wrap64; omega); rw [← z_ _ (by omega)]; rfl) | (simp only [ByteArray.size_append]; rfl)) ?_; (with_reducible refine (dec_Dec_Norm.calls k a0_0 a0_1 a0_2 t163 t164 t165 _ A2.out).mono ?_); rintro e w22 ⟨rfl, hb⟩; refine ⟨_, rfl, ?_⟩; have n0_ := bb_ BK162 hb; have n1_ := Aside0.mk (below_step (bl_ HB).out hb); clear BK162; clear HB; have BK162 := n0_; have HB := n1_; clear n0_ n1_; (try clear hb); (try clear hb2); (try clear hk); (try clear hi); have hcz23_0 : w22.cell? ⟨gb162, 0, none⟩ = some (.bool a0_0) := bc_ BK162 0; have hcz23_1 : w22.cell? ⟨gb162, 1, none⟩ = some (.string a0_1) := bc_ BK162 1; have hcz23_2 : w22.cell? ⟨gb162, 2, none⟩ = some (.int .i64 a0_2) := bc_ BK162 2; have hfz23_0 := blk_frozen BK162.out 0; have hfz23_1 := blk_frozen BK162.out 1; have hfz23_2 := blk_frozen BK162.out 2) | ((with_reducible refine gate_callee (f := 43) rfl ?_); refine goesL_ (some 9) rfl rfl Tryd.func43 (by kernel_rfl) rfl #[.agg #[.bool t163, .string t164, .int .i64 t165]] rfl (by (try simp only [List.map_toArray, List.map_cons, List.map_nil]); first | done | rfl | (simp only [List.length_drop, List.length_take]; rfl) | (have z_ : ∀ s_ : ByteArray, s_.size ≤ 9223372036854775807 → -(s_.size : Int) = wrap64 (-(s_.size : Int)) := (fun s_ h_ => by unfold wrap64; omega); rw [← z_ _ (by omega)]; rfl) | (simp only [ByteArray.size_append]; rfl)) ?_; (with_reducible refine (dec_Dec_Parts.calls k t163 t164 t165 t166 t167 _ A3.out).mono ?_); rintro e w24 ⟨rfl, hb⟩; refine ⟨_, rfl, ?_⟩; have n0_ := Aside0.mk (blk_below (g := gb162) (o := .cells #[.bool t163, .string t164, .int .i64 t165] 30 (0, 0)) (by (with_reducible repeat (first | refine blk_drewN ?_ _ | refine blk_drew ?_ | refine blk_alloc ?_ _)); refine blk_put (cs := #[.bool t163, .string t164, .int .i64 a0_2]) ?_ 2 _ rfl; (with_reducible repeat (first | refine blk_drewN ?_ _ | refine blk_drew ?_ | refine blk_alloc ?_ _)); refine blk_put (cs := #[.bool t163, .string a0_1, .int .i64 a0_2]) ?_ 1 _ rfl; (with_reducible repeat (first | refine blk_drewN ?_ _ | refine blk_drew ?_ | refine blk_alloc ?_ _)); refine blk_put (cs := #[.bool a0_0, .string a0_1, .int .i64 a0_2]) ?_ 0 _ rfl; (with_reducible repeat (first | refine blk_drewN ?_ _ | refine blk_drew ?_ | refine blk_alloc ?_ _)); exact BK162.out) hb); have n1_ := Aside0.mk (below_step (bl_ HB).out hb); clear BK162; clear HB; have BK162 := n0_; have HB := n1_; clear n0_ n1_; (try clear hb); (try clear hb2); (try clear hk); (try clear hi); have hcz25_0 : w24.cell? ⟨gb162, 0, none⟩ = some (.bool t163) := bc_ BK162 0; have hcz25_1 : w24.cell? ⟨gb162, 1, none⟩ = some (.string t164) := bc_ BK162 1; have hcz25_2 : w24.cell? ⟨gb162, 2, none⟩ = some (.int .i64 t165) := bc_ BK162 2; have hfz25_0 := blk_frozen BK162.out 0; have hfz25_1 := blk_frozen BK162.out 1; have hfz25_2 := blk_frozen BK162.out 2) | ((with_reducible refine gate_callee (f := 50) rfl ?_); refine goesL_ (some 19) rfl rfl Tryd.func50 (by kernel_rfl) rfl #[.agg #[.bool t163, .string t164, .int .i64 t165]] rfl (by (try simp only [List.map_toArray, List.map_cons, List.map_nil]); first | done | rfl | (simp only [List.length_drop, List.length_take]; rfl) | (have z_ : ∀ s_ : ByteArray, s_.size ≤ 9223372036854775807 → -(s_.size : Int) = wrap64 (-(s_.size : Int)) := (fun s_ h_ => by unfold wrap64; omega); rw [← z_ _ (by omega)]; rfl) | (simp only [ByteArray.size_append]; rfl)) ?_; (with_reducible refine (dec_Dec_sign.calls t163 t164 t165 t169 _ A17.out).mono ?_); rintro e w26 ⟨rfl, hb⟩; refine ⟨_, rfl, ?_⟩; have n0_ := bb_ BK162 hb; have n1_ := Aside0.mk (below_step (bl_ HB).out hb); clear BK162; clear HB; have BK162 := n0_; have HB := n1_; clear n0_ n1_; (try clear hb); (try clear hb2); (try clear hk); (try clear hi)))
            go_ret
            exact ⟨by first | rfl | (simp [errW_none, errW_some] <;> rfl) | (simp [*, errW_none, errW_some] <;> first | rfl | exact given_isEmpty _ | exact (given_isEmpty _).symm), by repeat (first | (with_reducible first | exact HB.out | apply below_alloc | apply pw_below_drewN | apply below_drew1 | refine below_set ?_ GE162.out) | exact HB.out)⟩
          · rw [if_neg c19] at H
            exact absurd H (by simp)
        · rw [if_neg c18] at H
          exact absurd H (by simp)
      · rw [if_neg c16] at H
        exact absurd H (by simp)
  · rw [if_neg c4] at H
    have c4b0 : (t166.toList == ([] : List UInt8)) = false := beq_eq_false_iff_ne.mpr c4
    have c4b1 : (t166.toList != ([] : List UInt8)) = true := bne_iff_ne.mpr c4
    have c4b2 : (t166.toList.isEmpty) = false := by rw [given_isEmpty, bne_iff_ne.mpr c4]; rfl
    by_cases c27 : t167.toList = ([] : List UInt8)
    · rw [if_pos c27] at H
      have c27b0 : (t167.toList == ([] : List UInt8)) = true := beq_iff_eq.mpr c27
      have c27b1 : (t167.toList != ([] : List UInt8)) = false := bne_eq_false_iff_eq.mpr c27
      have c27b2 : (t167.toList.isEmpty) = true := by rw [c27]; rfl
      clear c27
      replace H := Option.bind_eq_some_iff.mp H
      obtain ⟨t170, A280, H⟩ := H
      replace H : (if t170.size + t166.size ≤ 9223372036854775807 then (if (t170 ++ t166).size + t167.size ≤ 9223372036854775807 then (some ((t170 ++ t166) ++ t167)) else (none)) else (none)) = some r := H
      have A28 := Aside0.mk A280
      clear A280
      by_cases c29 : t170.size + t166.size ≤ 9223372036854775807
      · rw [if_pos c29] at H
        have c29b0 := eq_true c29
        have c29b1 : decide (t170.size + t166.size ≤ 9223372036854775807) = true := decide_eq_true c29
        try have c29b2 : (9223372036854775807 < t170.size + t166.size) = False := eq_false (Nat.not_lt.2 c29)
        by_cases c30 : (t170 ++ t166).size + t167.size ≤ 9223372036854775807
        · rw [if_pos c30] at H
          have c30b0 := eq_true c30
          have c30b1 : decide ((t170 ++ t166).size + t167.size ≤ 9223372036854775807) = true := decide_eq_true c30
          try (have c30b5 := c30b0; simp only [ByteArray.size_append, Int.natCast_add] at c30b5)
          try have c30b2 : (9223372036854775807 < (t170 ++ t166).size + t167.size) = False := eq_false (Nat.not_lt.2 c30)
          try have c30b3 : (9223372036854775807 < t170.size + t166.size + t167.size) = False := eq_false (Nat.not_lt.2 (by have h_ := c30; simp only [ByteArray.size_append] at h_; exact h_))
          try have c30b4 : (t170.size + t166.size + t167.size ≤ 9223372036854775807) = True := eq_true (by have h_ := c30; simp only [ByteArray.size_append] at h_; exact h_)
          obtain rfl := Option.some.inj H
          go_enter Tryd.func30, Tryd.ntmps30
          go_wp2_with (first | ((with_reducible refine gate_dst (N := 1) rfl ?_); refine box_event ?hg (N := 1) ?hd (cs := #[.bool a0_0, .string a0_1, .int .i64 a0_2]) (t := 30) ?hr ?_; (case hd => rfl); (case hg => rfl); (case hr => first | (go_simp; done) | (go_simp; rfl)); intro gb162 hg w31 hbox hb; have n0_ := Aside0.mk (below_step (bl_ HB).out hb); have n1_ := Aside0.mk (hbox); have n2_ := Aside0.mk ((by rw [hg]; exact (below_size (bl_ HB).out) : w.heap.size ≤ gb162)); have n3_ := Aside0.mk ((by rw [hg]; exact (below_size (bl_ HB).out) : w.heap.size ≤ gb162)); clear HB; have HB := n0_; have BK162 := n1_; have GW162 := n2_; have GE162 := n3_; clear n0_ n1_ n2_ n3_; clear hb hbox hg; have hcz32_0 : w31.cell? ⟨gb162, 0, none⟩ = some (.bool a0_0) := bc_ BK162 0; have hcz32_1 : w31.cell? ⟨gb162, 1, none⟩ = some (.string a0_1) := bc_ BK162 1; have hcz32_2 : w31.cell? ⟨gb162, 2, none⟩ = some (.int .i64 a0_2) := bc_ BK162 2; have hfz32_0 := blk_frozen BK162.out 0; have hfz32_1 := blk_frozen BK162.out 1; have hfz32_2 := blk_frozen BK162.out 2) | ((with_reducible refine gate_callee (f := 22) rfl ?_); refine goesL_ (some 6) rfl rfl Tryd.func22 (by kernel_rfl) rfl #[.agg #[.bool a0_0, .string a0_1, .int .i64 a0_2]] rfl (by (try simp only [List.map_toArray, List.map_cons, List.map_nil]); first | done | rfl | (simp only [List.length_drop, List.length_take]; rfl) | (have z_ : ∀ s_ : ByteArray, s_.size ≤ 9223372036854775807 → -(s_.size : Int) = wrap64 (-(s_.size : Int)) := (fun s_ h_ => by unfold wrap64; omega); rw [← z_ _ (by omega)]; rfl) | (simp only [ByteArray.size_append]; rfl)) ?_; (with_reducible refine (dec_Dec_Norm.calls k a0_0 a0_1 a0_2 t163 t164 t165 _ A2.out).mono ?_); rintro e w33 ⟨rfl, hb⟩; refine ⟨_, rfl, ?_⟩; have n0_ := bb_ BK162 hb; have n1_ := Aside0.mk (below_step (bl_ HB).out hb); clear BK162; clear HB; have BK162 := n0_; have HB := n1_; clear n0_ n1_; (try clear hb); (try clear hb2); (try clear hk); (try clear hi); have hcz34_0 : w33.cell? ⟨gb162, 0, none⟩ = some (.bool a0_0) := bc_ BK162 0; have hcz34_1 : w33.cell? ⟨gb162, 1, none⟩ = some (.string a0_1) := bc_ BK162 1; have hcz34_2 : w33.cell? ⟨gb162, 2, none⟩ = some (.int .i64 a0_2) := bc_ BK162 2; have hfz34_0 := blk_frozen BK162.out 0; have hfz34_1 := blk_frozen BK162.out 1; have hfz34_2 := blk_frozen BK162.out 2) | ((with_reducible refine gate_callee (f := 43) rfl ?_); refine goesL_ (some 9) rfl rfl Tryd.func43 (by kernel_rfl) rfl #[.agg #[.bool t163, .string t164, .int .i64 t165]] rfl (by (try simp only [List.map_toArray, List.map_cons, List.map_nil]); first | done | rfl | (simp only [List.length_drop, List.length_take]; rfl) | (have z_ : ∀ s_ : ByteArray, s_.size ≤ 9223372036854775807 → -(s_.size : Int) = wrap64 (-(s_.size : Int)) := (fun s_ h_ => by unfold wrap64; omega); rw [← z_ _ (by omega)]; rfl) | (simp only [ByteArray.size_append]; rfl)) ?_; (with_reducible refine (dec_Dec_Parts.calls k t163 t164 t165 t166 t167 _ A3.out).mono ?_); rintro e w35 ⟨rfl, hb⟩; refine ⟨_, rfl, ?_⟩; have n0_ := Aside0.mk (blk_below (g := gb162) (o := .cells #[.bool t163, .string t164, .int .i64 t165] 30 (0, 0)) (by (with_reducible repeat (first | refine blk_drewN ?_ _ | refine blk_drew ?_ | refine blk_alloc ?_ _)); refine blk_put (cs := #[.bool t163, .string t164, .int .i64 a0_2]) ?_ 2 _ rfl; (with_reducible repeat (first | refine blk_drewN ?_ _ | refine blk_drew ?_ | refine blk_alloc ?_ _)); refine blk_put (cs := #[.bool t163, .string a0_1, .int .i64 a0_2]) ?_ 1 _ rfl; (with_reducible repeat (first | refine blk_drewN ?_ _ | refine blk_drew ?_ | refine blk_alloc ?_ _)); refine blk_put (cs := #[.bool a0_0, .string a0_1, .int .i64 a0_2]) ?_ 0 _ rfl; (with_reducible repeat (first | refine blk_drewN ?_ _ | refine blk_drew ?_ | refine blk_alloc ?_ _)); exact BK162.out) hb); have n1_ := Aside0.mk (below_step (bl_ HB).out hb); clear BK162; clear HB; have BK162 := n0_; have HB := n1_; clear n0_ n1_; (try clear hb); (try clear hb2); (try clear hk); (try clear hi); have hcz36_0 : w35.cell? ⟨gb162, 0, none⟩ = some (.bool t163) := bc_ BK162 0; have hcz36_1 : w35.cell? ⟨gb162, 1, none⟩ = some (.string t164) := bc_ BK162 1; have hcz36_2 : w35.cell? ⟨gb162, 2, none⟩ = some (.int .i64 t165) := bc_ BK162 2; have hfz36_0 := blk_frozen BK162.out 0; have hfz36_1 := blk_frozen BK162.out 1; have hfz36_2 := blk_frozen BK162.out 2) | ((with_reducible refine gate_callee (f := 50) rfl ?_); refine goesL_ (some 19) rfl rfl Tryd.func50 (by kernel_rfl) rfl #[.agg #[.bool t163, .string t164, .int .i64 t165]] rfl (by (try simp only [List.map_toArray, List.map_cons, List.map_nil]); first | done | rfl | (simp only [List.length_drop, List.length_take]; rfl) | (have z_ : ∀ s_ : ByteArray, s_.size ≤ 9223372036854775807 → -(s_.size : Int) = wrap64 (-(s_.size : Int)) := (fun s_ h_ => by unfold wrap64; omega); rw [← z_ _ (by omega)]; rfl) | (simp only [ByteArray.size_append]; rfl)) ?_; (with_reducible refine (dec_Dec_sign.calls t163 t164 t165 t170 _ A28.out).mono ?_); rintro e w37 ⟨rfl, hb⟩; refine ⟨_, rfl, ?_⟩; have n0_ := bb_ BK162 hb; have n1_ := Aside0.mk (below_step (bl_ HB).out hb); clear BK162; clear HB; have BK162 := n0_; have HB := n1_; clear n0_ n1_; (try clear hb); (try clear hb2); (try clear hk); (try clear hi)))
          go_ret
          exact ⟨by first | rfl | (simp [errW_none, errW_some] <;> rfl) | (simp [*, errW_none, errW_some] <;> first | rfl | exact given_isEmpty _ | exact (given_isEmpty _).symm), by repeat (first | (with_reducible first | exact HB.out | apply below_alloc | apply pw_below_drewN | apply below_drew1 | refine below_set ?_ GE162.out) | exact HB.out)⟩
        · rw [if_neg c30] at H
          exact absurd H (by simp)
      · rw [if_neg c29] at H
        exact absurd H (by simp)
    · rw [if_neg c27] at H
      have c27b0 : (t167.toList == ([] : List UInt8)) = false := beq_eq_false_iff_ne.mpr c27
      have c27b1 : (t167.toList != ([] : List UInt8)) = true := bne_iff_ne.mpr c27
      have c27b2 : (t167.toList.isEmpty) = false := by rw [given_isEmpty, bne_iff_ne.mpr c27]; rfl
      by_cases c38 : 1 + t167.size ≤ 9223372036854775807
      · rw [if_pos c38] at H
        have c38b0 := eq_true c38
        have c38b1 : decide (1 + t167.size ≤ 9223372036854775807) = true := decide_eq_true c38
        try have c38b2 : (9223372036854775807 < 1 + t167.size) = False := eq_false (Nat.not_lt.2 c38)
        replace H := Option.bind_eq_some_iff.mp H
        obtain ⟨t171, A390, H⟩ := H
        replace H : (if t171.size + t166.size ≤ 9223372036854775807 then (if (t171 ++ t166).size + ((⟨#[46]⟩ : ByteArray) ++ t167).size ≤ 9223372036854775807 then (some ((t171 ++ t166) ++ ((⟨#[46]⟩ : ByteArray) ++ t167))) else (none)) else (none)) = some r := H
        have A39 := Aside0.mk A390
        clear A390
        by_cases c40 : t171.size + t166.size ≤ 9223372036854775807
        · rw [if_pos c40] at H
          have c40b0 := eq_true c40
          have c40b1 : decide (t171.size + t166.size ≤ 9223372036854775807) = true := decide_eq_true c40
          try have c40b2 : (9223372036854775807 < t171.size + t166.size) = False := eq_false (Nat.not_lt.2 c40)
          by_cases c41 : (t171 ++ t166).size + ((⟨#[46]⟩ : ByteArray) ++ t167).size ≤ 9223372036854775807
          · rw [if_pos c41] at H
            have c41b0 := eq_true c41
            have c41b1 : decide ((t171 ++ t166).size + ((⟨#[46]⟩ : ByteArray) ++ t167).size ≤ 9223372036854775807) = true := decide_eq_true c41
            try (have c41b5 := c41b0; simp only [ByteArray.size_append, Int.natCast_add] at c41b5)
            try have c41b2 : (9223372036854775807 < (t171 ++ t166).size + ((⟨#[46]⟩ : ByteArray) ++ t167).size) = False := eq_false (Nat.not_lt.2 c41)
            try have c41b3 : (9223372036854775807 < t171.size + t166.size + 1 + t167.size) = False := eq_false (Nat.not_lt.2 (by have h_ := c41; simp only [ByteArray.size_append] at h_; exact h_))
            try have c41b4 : (t171.size + t166.size + 1 + t167.size ≤ 9223372036854775807) = True := eq_true (by have h_ := c41; simp only [ByteArray.size_append] at h_; exact h_)
            obtain rfl := Option.some.inj H
            go_enter Tryd.func30, Tryd.ntmps30
            go_wp2_with (first | ((with_reducible refine gate_dst (N := 1) rfl ?_); refine box_event ?hg (N := 1) ?hd (cs := #[.bool a0_0, .string a0_1, .int .i64 a0_2]) (t := 30) ?hr ?_; (case hd => rfl); (case hg => rfl); (case hr => first | (go_simp; done) | (go_simp; rfl)); intro gb162 hg w42 hbox hb; have n0_ := Aside0.mk (below_step (bl_ HB).out hb); have n1_ := Aside0.mk (hbox); have n2_ := Aside0.mk ((by rw [hg]; exact (below_size (bl_ HB).out) : w.heap.size ≤ gb162)); have n3_ := Aside0.mk ((by rw [hg]; exact (below_size (bl_ HB).out) : w.heap.size ≤ gb162)); clear HB; have HB := n0_; have BK162 := n1_; have GW162 := n2_; have GE162 := n3_; clear n0_ n1_ n2_ n3_; clear hb hbox hg; have hcz43_0 : w42.cell? ⟨gb162, 0, none⟩ = some (.bool a0_0) := bc_ BK162 0; have hcz43_1 : w42.cell? ⟨gb162, 1, none⟩ = some (.string a0_1) := bc_ BK162 1; have hcz43_2 : w42.cell? ⟨gb162, 2, none⟩ = some (.int .i64 a0_2) := bc_ BK162 2; have hfz43_0 := blk_frozen BK162.out 0; have hfz43_1 := blk_frozen BK162.out 1; have hfz43_2 := blk_frozen BK162.out 2) | ((with_reducible refine gate_callee (f := 22) rfl ?_); refine goesL_ (some 6) rfl rfl Tryd.func22 (by kernel_rfl) rfl #[.agg #[.bool a0_0, .string a0_1, .int .i64 a0_2]] rfl (by (try simp only [List.map_toArray, List.map_cons, List.map_nil]); first | done | rfl | (simp only [List.length_drop, List.length_take]; rfl) | (have z_ : ∀ s_ : ByteArray, s_.size ≤ 9223372036854775807 → -(s_.size : Int) = wrap64 (-(s_.size : Int)) := (fun s_ h_ => by unfold wrap64; omega); rw [← z_ _ (by omega)]; rfl) | (simp only [ByteArray.size_append]; rfl)) ?_; (with_reducible refine (dec_Dec_Norm.calls k a0_0 a0_1 a0_2 t163 t164 t165 _ A2.out).mono ?_); rintro e w44 ⟨rfl, hb⟩; refine ⟨_, rfl, ?_⟩; have n0_ := bb_ BK162 hb; have n1_ := Aside0.mk (below_step (bl_ HB).out hb); clear BK162; clear HB; have BK162 := n0_; have HB := n1_; clear n0_ n1_; (try clear hb); (try clear hb2); (try clear hk); (try clear hi); have hcz45_0 : w44.cell? ⟨gb162, 0, none⟩ = some (.bool a0_0) := bc_ BK162 0; have hcz45_1 : w44.cell? ⟨gb162, 1, none⟩ = some (.string a0_1) := bc_ BK162 1; have hcz45_2 : w44.cell? ⟨gb162, 2, none⟩ = some (.int .i64 a0_2) := bc_ BK162 2; have hfz45_0 := blk_frozen BK162.out 0; have hfz45_1 := blk_frozen BK162.out 1; have hfz45_2 := blk_frozen BK162.out 2) | ((with_reducible refine gate_callee (f := 43) rfl ?_); refine goesL_ (some 9) rfl rfl Tryd.func43 (by kernel_rfl) rfl #[.agg #[.bool t163, .string t164, .int .i64 t165]] rfl (by (try simp only [List.map_toArray, List.map_cons, List.map_nil]); first | done | rfl | (simp only [List.length_drop, List.length_take]; rfl) | (have z_ : ∀ s_ : ByteArray, s_.size ≤ 9223372036854775807 → -(s_.size : Int) = wrap64 (-(s_.size : Int)) := (fun s_ h_ => by unfold wrap64; omega); rw [← z_ _ (by omega)]; rfl) | (simp only [ByteArray.size_append]; rfl)) ?_; (with_reducible refine (dec_Dec_Parts.calls k t163 t164 t165 t166 t167 _ A3.out).mono ?_); rintro e w46 ⟨rfl, hb⟩; refine ⟨_, rfl, ?_⟩; have n0_ := Aside0.mk (blk_below (g := gb162) (o := .cells #[.bool t163, .string t164, .int .i64 t165] 30 (0, 0)) (by (with_reducible repeat (first | refine blk_drewN ?_ _ | refine blk_drew ?_ | refine blk_alloc ?_ _)); refine blk_put (cs := #[.bool t163, .string t164, .int .i64 a0_2]) ?_ 2 _ rfl; (with_reducible repeat (first | refine blk_drewN ?_ _ | refine blk_drew ?_ | refine blk_alloc ?_ _)); refine blk_put (cs := #[.bool t163, .string a0_1, .int .i64 a0_2]) ?_ 1 _ rfl; (with_reducible repeat (first | refine blk_drewN ?_ _ | refine blk_drew ?_ | refine blk_alloc ?_ _)); refine blk_put (cs := #[.bool a0_0, .string a0_1, .int .i64 a0_2]) ?_ 0 _ rfl; (with_reducible repeat (first | refine blk_drewN ?_ _ | refine blk_drew ?_ | refine blk_alloc ?_ _)); exact BK162.out) hb); have n1_ := Aside0.mk (below_step (bl_ HB).out hb); clear BK162; clear HB; have BK162 := n0_; have HB := n1_; clear n0_ n1_; (try clear hb); (try clear hb2); (try clear hk); (try clear hi); have hcz47_0 : w46.cell? ⟨gb162, 0, none⟩ = some (.bool t163) := bc_ BK162 0; have hcz47_1 : w46.cell? ⟨gb162, 1, none⟩ = some (.string t164) := bc_ BK162 1; have hcz47_2 : w46.cell? ⟨gb162, 2, none⟩ = some (.int .i64 t165) := bc_ BK162 2; have hfz47_0 := blk_frozen BK162.out 0; have hfz47_1 := blk_frozen BK162.out 1; have hfz47_2 := blk_frozen BK162.out 2) | ((with_reducible refine gate_callee (f := 50) rfl ?_); refine goesL_ (some 19) rfl rfl Tryd.func50 (by kernel_rfl) rfl #[.agg #[.bool t163, .string t164, .int .i64 t165]] rfl (by (try simp only [List.map_toArray, List.map_cons, List.map_nil]); first | done | rfl | (simp only [List.length_drop, List.length_take]; rfl) | (have z_ : ∀ s_ : ByteArray, s_.size ≤ 9223372036854775807 → -(s_.size : Int) = wrap64 (-(s_.size : Int)) := (fun s_ h_ => by unfold wrap64; omega); rw [← z_ _ (by omega)]; rfl) | (simp only [ByteArray.size_append]; rfl)) ?_; (with_reducible refine (dec_Dec_sign.calls t163 t164 t165 t171 _ A39.out).mono ?_); rintro e w48 ⟨rfl, hb⟩; refine ⟨_, rfl, ?_⟩; have n0_ := bb_ BK162 hb; have n1_ := Aside0.mk (below_step (bl_ HB).out hb); clear BK162; clear HB; have BK162 := n0_; have HB := n1_; clear n0_ n1_; (try clear hb); (try clear hb2); (try clear hk); (try clear hi)))
            go_ret
            exact ⟨by first | rfl | (simp [errW_none, errW_some] <;> rfl) | (simp [*, errW_none, errW_some] <;> first | rfl | exact given_isEmpty _ | exact (given_isEmpty _).symm), by repeat (first | (with_reducible first | exact HB.out | apply below_alloc | apply pw_below_drewN | apply below_drew1 | refine below_set ?_ GE162.out) | exact HB.out)⟩
          · rw [if_neg c41] at H
            exact absurd H (by simp)
        · rw [if_neg c40] at H
          exact absurd H (by simp)
      · rw [if_neg c38] at H
        exact absurd H (by simp)

end Go.Proofs.YtoegmienlhgjnaaDoor.P
