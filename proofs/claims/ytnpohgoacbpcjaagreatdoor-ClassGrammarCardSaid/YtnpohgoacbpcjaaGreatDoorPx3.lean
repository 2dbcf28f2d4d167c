-- written by a program of this session (wip/p2)
import Derived.Test.YtnpohgoacbpcjaaGreatDoorPx0
import Derived.Test.YtnpohgoacbpcjaaGreatDoorPx2
namespace Go.Proofs.YtnpohgoacbpcjaaGreatDoor.P
open Go.RowKit Go.Proofs.YtnpohgoacbpcjaaGreatDoorW.PrintWords Go.Proofs.YtnpohgoacbpcjaaGreatDoorW.PrintLast Go.Proofs.YtnpohgoacbpcjaaGreatDoorW.PrintMore
attribute [local go_sem] max2_int min2_int max_two min_two max_three min_three max_four min_four   -- for this text's walks alone
set_option linter.unusedVariables false
set_option linter.unusedSimpArgs false

/-! ### class_Made: function 11 -/
mutual
def class_Made.l0 : Nat → List (S28) → List (S28) → Int → Int → Option ((List (S28)))
  | 0, _, _, _, _ => none
  | k + 1, x3, x10, x11, x12 => if x12 < x11 then (if 0 ≤ x12 then (if x12 < (x10.length : Int) then (if (mx ((rd_T28 x10 x12).f0) 0) ≤ (mn ((rd_T28 x10 x12).f1) 1114111) then (if x3.length < 17592186044416 then (class_Made.l0 k (x3 ++ [(⟨mx ((rd_T28 x10 x12).f0) 0, mn ((rd_T28 x10 x12).f1) 1114111⟩ : S28)]) x10 x11 (wrap64 (x12 + 1))) else (none)) else (class_Made.l0 k x3 x10 x11 (wrap64 (x12 + 1)))) else (none)) else (none)) else ((slices_SortFunc.f x3).bind fun t109 => (class_Made.l1 k ([] : List (S28)) t109 (x3.length : Int) 0))
def class_Made.l1 : Nat → List (S28) → List (S28) → Int → Int → Option ((List (S28)))
  | 0, _, _, _, _ => none
  | k + 1, x6, x36, x37, x38 => if x38 < x37 then (if 0 ≤ x38 then (if x38 < (x36.length : Int) then (if (x6.length : Int) > 0 then (if 0 ≤ (wrap64 ((x6.length : Int) - 1)) then (if (wrap64 ((x6.length : Int) - 1)) < (x6.length : Int) then (if ((rd_T28 x36 x38).f0) ≤ (wrap32 (((rd_T28 x6 (wrap64 ((x6.length : Int) - 1))).f1) + 1)) then (class_Made.l1 k (x6.set ((wrap64 ((x6.length : Int) - 1)) : Int).toNat (⟨(rd_T28 x6 (wrap64 ((x6.length : Int) - 1))).f0, mx ((rd_T28 x6 (wrap64 ((x6.length : Int) - 1))).f1) ((rd_T28 x36 x38).f1)⟩ : S28)) x36 x37 (wrap64 (x38 + 1))) else (if x6.length < 17592186044416 then (class_Made.l1 k (x6 ++ [(⟨(rd_T28 x36 x38).f0, (rd_T28 x36 x38).f1⟩ : S28)]) x36 x37 (wrap64 (x38 + 1))) else (none))) else (none)) else (none)) else (if x6.length < 17592186044416 then (class_Made.l1 k (x6 ++ [(⟨(rd_T28 x36 x38).f0, (rd_T28 x36 x38).f1⟩ : S28)]) x36 x37 (wrap64 (x38 + 1))) else (none))) else (none)) else (none)) else (some x6)
end
def class_Made.f (k : Nat) (l0 : List (S28)) : Option ((List (S28))) := class_Made.l0 k ([] : List (S28)) l0 (l0.length : Int) 0
theorem class_Made.mono_l : ∀ k, (∀ y0 y1 y2 y3, LeO (class_Made.l0 k y0 y1 y2 y3) (class_Made.l0 (k + 1) y0 y1 y2 y3)) ∧ (∀ y0 y1 y2 y3, LeO (class_Made.l1 k y0 y1 y2 y3) (class_Made.l1 (k + 1) y0 y1 y2 y3))
  | 0 => ⟨fun _ _ _ _ r h => by simp [class_Made.l0] at h, fun _ _ _ _ r h => by simp [class_Made.l1] at h⟩
  | k + 1 => by
    obtain ⟨ih0, ih1⟩ := class_Made.mono_l k
    refine ⟨?_, ?_⟩
    · intro y0 y1 y2 y3
      unfold class_Made.l0
      repeat' first
      | (with_reducible exact ih0 _ _ _ _)
      | (with_reducible exact ih1 _ _ _ _)
      | (with_reducible exact LeO.refl _)
      | (with_reducible exact LeO.none _)
      | (with_reducible refine LeO.ite ?_ ?_)
      | (with_reducible refine LeO.bind ?_ (fun _ => ?_))
      | exact ih0 _ _ _ _
      | exact ih1 _ _ _ _
      | exact LeO.none _
      | refine LeO.ite ?_ ?_
      | refine LeO.bind ?_ (fun _ => ?_)
    · intro y0 y1 y2 y3
      unfold class_Made.l1
      repeat' first
      | (with_reducible exact ih0 _ _ _ _)
      | (with_reducible exact ih1 _ _ _ _)
      | (with_reducible exact LeO.refl _)
      | (with_reducible exact LeO.none _)
      | (with_reducible refine LeO.ite ?_ ?_)
      | (with_reducible refine LeO.bind ?_ (fun _ => ?_))
      | exact ih0 _ _ _ _
      | exact ih1 _ _ _ _
      | exact LeO.none _
      | refine LeO.ite ?_ ?_
      | refine LeO.bind ?_ (fun _ => ?_)
theorem class_Made.mono : ∀ a0 k, LeO (class_Made.f k a0) (class_Made.f (k + 1) a0) := by
  intro a0 k
  obtain ⟨ih0, ih1⟩ := class_Made.mono_l k
  unfold class_Made.f
  repeat' first
      | (with_reducible exact ih0 _ _ _ _)
      | (with_reducible exact ih1 _ _ _ _)
      | (with_reducible exact LeO.refl _)
      | (with_reducible exact LeO.none _)
      | (with_reducible refine LeO.ite ?_ ?_)
      | (with_reducible refine LeO.bind ?_ (fun _ => ?_))
      | exact ih0 _ _ _ _
      | exact ih1 _ _ _ _
      | exact LeO.none _
      | refine LeO.ite ?_ ?_
      | refine LeO.bind ?_ (fun _ => ?_)
def class_Made.T15 : Bool × List (List Nat × List Nat) := (true, [([], []), ([0], [0]), ([1], [1]), ([2], [2]), ([3, 2], [2, 3]), ([2], [2]), ([2], [2]), ([6, 2], [2, 6]), ([5, 7, 2], [2, 5, 7]), ([8, 2], [2, 8]), ([9, 2], [2, 9]), ([10, 2], [2, 10]), ([4, 11, 2], [2, 4, 11]), ([2, 12], [2, 12])])
def class_Made.B15 : List Nat := [0, 1, 3, 7, 15, 7, 7, 71, 231, 487, 999, 2023, 4095, 8191]
theorem class_Made.tab15 : rtab .any (opsOf Tryz.f11 15) = class_Made.T15 := by kernel_rfl
theorem class_Made.bits15 : waitsOk class_Made.T15.2 class_Made.B15 = true := by kernel_rfl
def class_Made.T16 : Bool × List (List Nat × List Nat) := (true, [([], []), ([], []), ([1], [1]), ([], []), ([], []), ([4], [4]), ([3, 5], [3, 5]), ([6], [6]), ([7], [7]), ([], []), ([9], [9]), ([8, 10], [8, 10]), ([0, 2, 0, 1, 2, 3, 4, 5, 6, 7, 8, 9, 10, 11], [0, 2]), ([12, 0, 1, 2, 3, 4, 5, 6, 7, 8, 9, 10, 11], [12]), ([13, 11, 0, 1, 2, 3, 4, 5, 6, 7, 8, 9, 10, 11], [11, 13])])
def class_Made.B16 : List Nat := [0, 0, 2, 0, 0, 16, 56, 120, 248, 0, 512, 2040, 4095, 8191, 16383]
theorem class_Made.tab16 : rtab .any (opsOf Tryz.f11 16) = class_Made.T16 := by kernel_rfl
theorem class_Made.bits16 : waitsOk class_Made.T16.2 class_Made.B16 = true := by kernel_rfl
set_option maxHeartbeats 64000000 in
set_option maxRecDepth 100000 in
theorem class_Made.calls (k : Nat) (A0 : Option Addr) (c0 : Nat) (l0 : List (S28)) (r : List (S28)) (w : World) (hr0 : Kd.C k28 w A0 l0.length l0) (hc0 : l0.length ≤ c0) (h : class_Made.f k l0 = some r) :
    Calls Tryz.prog 11 #[.slice A0 l0.length c0] w fun e w' => ∃ v0_ : Value, e = .returned (v0_) ∧ Kd.R k28 28 w' w.heap.size (fun _ => True) v0_ r ∧ Below w.heap.size w w' := by
  have hu28 := Tryz.underlying28
  have HR0 := Aside0.mk hr0
  have HC0 := Aside0.mk hc0
  clear hr0 hc0
  have HB := Aside0.mk (Below.refl w.heap.size w)
  have H : (class_Made.l0 k ([] : List (S28)) l0 (l0.length : Int) 0) = some r := h
  clear h
  have H' := Aside0.mk H
  clear H
  have hs40 := fun W b x0 x1 y0 y1 h0 h1 => (given_set22 W b x0 x1 y0 y1 h0 h1).1
  have hs41 := fun W b x0 x1 y0 y1 h0 h1 => (given_set22 W b x0 x1 y0 y1 h0 h1).2
  go_enter Tryz.func11, Tryz.ntmps11
  go_wp2
  go_loopg [3, 12] k (fun kq v3 v12 w' => ∃ (x3_1 : List (S28)) (x12_1 : Int), v12 = .int .i64 x12_1 ∧ Aside0 (class_Made.l0 kq x3_1 l0 (l0.length : Int) x12_1 = some r) ∧ Aside0 (kq ≤ k) ∧ Aside0 (Kd.R k28 28 w' w.heap.size (fun _ => True) v3 x3_1) ∧ Aside0 (Below w.heap.size w w'))
  case atStart => exact ⟨(([] : List (S28))), (0), eq_, H', ⟨Nat.le_refl _⟩, ⟨by first | exact Kd.R_nil _ _ _ _ _ | exact Kd.N_nil _ _ _ _ _ | exact Kd.V_nil _ _ _ _ _ | exact Kd.Q_nil _ _ _ _ _ | exact Kd.S_nil _ _ _ _ _⟩, (bl_ HB)⟩
  case round =>
    clear H'
    try clear c1
    obtain ⟨x3_1, x12_1, rfl, HA, HK1, HO_3, HB⟩ := hrel
    cases gk with
    | zero => exact absurd HA.out (by simp [class_Made.l0])
    | succ k1 =>
      have H := HA.out
      clear HA
      simp only [class_Made.l0] at H
      by_cases c2 : x12_1 < (l0.length : Int)
      · rw [if_pos c2] at H
        have c2b0 : decide (x12_1 < (l0.length : Int)) = true := decide_eq_true c2
        clear c2
        by_cases c3 : 0 ≤ x12_1
        · rw [if_pos c3] at H
          have c3b0 : decide (0 ≤ x12_1) = true := decide_eq_true c3
          clear c3
          by_cases c4 : x12_1 < (l0.length : Int)
          · rw [if_pos c4] at H
            have c4b0 : decide (x12_1 < (l0.length : Int)) = true := decide_eq_true c4
            clear c4
            obtain ⟨ji5, hji5⟩ : ∃ j_ : Int, (mx ((rd_T28 l0 x12_1).f0) 0) = j_ := ⟨_, rfl⟩
            replace H : (if (ji5) ≤ (mn ((rd_T28 l0 x12_1).f1) 1114111) then (if x3_1.length < 17592186044416 then (class_Made.l0 k1 (x3_1 ++ [(⟨ji5, mn ((rd_T28 l0 x12_1).f1) 1114111⟩ : S28)]) l0 (l0.length : Int) (wrap64 (x12_1 + 1))) else (none)) else (class_Made.l0 k1 x3_1 l0 (l0.length : Int) (wrap64 (x12_1 + 1)))) = some r := by first | (rw [hji5] at H; exact H) | (simp only [hji5] at H ⊢; exact H)
            have hji5_ : (if ((rd_T28 l0 x12_1).f0) < 0 then 0 else ((rd_T28 l0 x12_1).f0)) = ji5 := hji5
            obtain ⟨ji6, hji6⟩ : ∃ j_ : Int, (mn ((rd_T28 l0 x12_1).f1) 1114111) = j_ := ⟨_, rfl⟩
            replace H : (if (ji5) ≤ (ji6) then (if x3_1.length < 17592186044416 then (class_Made.l0 k1 (x3_1 ++ [(⟨ji5, ji6⟩ : S28)]) l0 (l0.length : Int) (wrap64 (x12_1 + 1))) else (none)) else (class_Made.l0 k1 x3_1 l0 (l0.length : Int) (wrap64 (x12_1 + 1)))) = some r := by first | (rw [hji6] at H; exact H) | (simp only [hji6] at H ⊢; exact H)
            have hji6_ : (if 1114111 < ((rd_T28 l0 x12_1).f1) then 1114111 else ((rd_T28 l0 x12_1).f1)) = ji6 := hji6
            by_cases c7 : (ji5) ≤ (ji6)
            · rw [if_pos c7] at H
              have c7b0 : decide ((ji5) ≤ (ji6)) = true := decide_eq_true c7
              clear c7
              by_cases c8 : x3_1.length < 17592186044416
              · rw [if_pos c8] at H
                have LMc8 := Aside0.mk c8
                clear c8
                obtain ⟨y106, hy106⟩ : ∃ y_ : List (S28), y_ = (x3_1 ++ [(⟨ji5, ji6⟩ : S28)]) := ⟨_, rfl⟩
                replace H : (class_Made.l0 k1 y106 l0 (l0.length : Int) (wrap64 (x12_1 + 1))) = some r := by first | (rw [hy106]; with_reducible exact H) | (have H2_ := (Option.bind_some _ _).symm.trans H; rw [hy106]; with_reducible exact H2_) | (have H2_ := (Option.bind_some _ _).symm.trans H; with_reducible exact H2_) | with_reducible exact H | (rw [hy106]; exact H) | exact H
                have Ny106 := Aside0.mk hy106
                clear hy106
                have H' := Aside0.mk H
                clear H
                have p104 : 0 ≤ (x12_1 : Int) := of_decide_eq_true (by first | (with_reducible assumption) | assumption)
                have q104 : x12_1 < (l0.length : Int) := of_decide_eq_true (by first | (with_reducible assumption) | assumption)
                obtain ⟨ad104, e104, hx104_0, hx104_1⟩ := at_T28 HR0.out x12_1 p104 q104
                cases e104
                replace hx104_0 := (HB.out.cell (World.block_lt_of_cell? w _ hx104_0)).trans hx104_0
                replace hx104_1 := (HB.out.cell (World.block_lt_of_cell? w _ hx104_1)).trans hx104_1
                replace p104 := eq_true p104
                replace q104 := eq_true q104
                go_wp2_with (first | ((with_reducible refine gate_dst (N := 5) rfl ?_); refine be_ 5 #[.int .i32 0, .int .i32 0] 28 ?_; intro gb105 hg w9 hbox hb; have BK105 := Aside0.mk (hbox); have GW105 := sz_ HB hg; have GE105 := sz_ HB hg; replace HO_3 := Aside0.mk (Kd.R_below (Kd.R_elderB (kr_ HO_3) gb105 (Nat.le_of_eq hg.symm)) hb); replace HB := Aside0.mk (below_step (bl_ HB).out hb); clear hb hbox hg; obtain ⟨hcz10_0, hcz10_1, hfz10_0, hfz10_1⟩ := bo2_ BK105) | ((with_reducible refine gate_builtin (b := .append) (xs := #[.tmp 29, .tmp 31]) rfl ?_); at_builtin; refine Kd.R_append k28 (w0 := w) w.heap.size rfl (.tmp 29) (.tmp 31) 22 28 (.agg #[(.int .i32 0), (.int .i32 0)]) 8 rfl Tryz.underlying22 info28 rfl (by decide) (by omega) u3 x3_1 (⟨ji5, ji6⟩ : S28) [.int .i32 ji5, .int .i32 ji6] (fun k_ => k_ ≠ gb105) (fun _ => False) rfl (by first | (go_simp; done) | (go_simp; rfl)) ?aP (fun _ hk => hk.elim) ?aF ?aO ?aB ?aS ?aL ?_; (case aP => exact k28_mkM _ _ _ (⟨ji5, ji6⟩ : S28)); (case aB => exact (bl_ HB).out); (case aF => exact (fun k_ hk => Kd.freshB (g := gb105) (o := .cells #[.int .i32 ji5, .int .i32 ji6] 28 (0, 0)) (by (with_reducible repeat (first | refine blk_drewN ?_ _ | refine blk_drew ?_ | refine blk_alloc ?_ _)); refine blk_put (cs := #[.int .i32 ji5, .int .i32 ((rd_T28 l0 x12_1).f1)]) ?_ 1 _ rfl; (with_reducible repeat (first | refine blk_drewN ?_ _ | refine blk_drew ?_ | refine blk_alloc ?_ _)); refine blk_put (cs := #[.int .i32 ((rd_T28 l0 x12_1).f0), .int .i32 ((rd_T28 l0 x12_1).f1)]) ?_ 0 _ rfl; (with_reducible repeat (first | refine blk_drewN ?_ _ | refine blk_drew ?_ | refine blk_alloc ?_ _)); refine blk_put (cs := #[.int .i32 ((rd_T28 l0 x12_1).f0), .int .i32 0]) ?_ 1 _ rfl; (with_reducible repeat (first | refine blk_drewN ?_ _ | refine blk_drew ?_ | refine blk_alloc ?_ _)); refine blk_put (cs := #[.int .i32 0, .int .i32 0]) ?_ 0 _ rfl; (with_reducible repeat (first | refine blk_drewN ?_ _ | refine blk_drew ?_ | refine blk_alloc ?_ _)); exact BK105.out) k_ hk)); (case aO => exact (by (with_reducible repeat (first | apply Kd.R_alloc | apply Kd.R_drewN | apply Kd.R_drew)); exact Kd.R_mono (Kd.R_far (p := ⟨gb105, 1, none⟩) (Kd.R_far (p := ⟨gb105, 0, none⟩) (Kd.R_far (p := ⟨gb105, 1, none⟩) (Kd.R_far (p := ⟨gb105, 0, none⟩) (Kd.R_mono HO_3.out (fun k_ hk => (⟨hk, hk.2⟩ : _ ∧ k_ ≠ gb105))) (fun _ hk => hk.2) (.int .i32 ((rd_T28 l0 x12_1).f0))) (fun _ hk => hk.2) (.int .i32 ((rd_T28 l0 x12_1).f1))) (fun _ hk => hk.2) (.int .i32 ji5)) (fun _ hk => hk.2) (.int .i32 ji6)) (fun _ hk => hk.1.2))); (case aS => exact (below_size (bl_ HB).out)); (case aL => have := LMc8.out; omega); intro v107 w11 ho hb hg hat; rw [← Ny106.out] at ho; have n0_ := Aside0.mk (blk_grown (g := gb105) (o := .cells #[.int .i32 ji5, .int .i32 ji6] 28 (0, 0)) (by (with_reducible repeat (first | refine blk_drewN ?_ _ | refine blk_drew ?_ | refine blk_alloc ?_ _)); refine blk_put (cs := #[.int .i32 ji5, .int .i32 ((rd_T28 l0 x12_1).f1)]) ?_ 1 _ rfl; (with_reducible repeat (first | refine blk_drewN ?_ _ | refine blk_drew ?_ | refine blk_alloc ?_ _)); refine blk_put (cs := #[.int .i32 ((rd_T28 l0 x12_1).f0), .int .i32 ((rd_T28 l0 x12_1).f1)]) ?_ 0 _ rfl; (with_reducible repeat (first | refine blk_drewN ?_ _ | refine blk_drew ?_ | refine blk_alloc ?_ _)); refine blk_put (cs := #[.int .i32 ((rd_T28 l0 x12_1).f0), .int .i32 0]) ?_ 1 _ rfl; (with_reducible repeat (first | refine blk_drewN ?_ _ | refine blk_drew ?_ | refine blk_alloc ?_ _)); refine blk_put (cs := #[.int .i32 0, .int .i32 0]) ?_ 0 _ rfl; (with_reducible repeat (first | refine blk_drewN ?_ _ | refine blk_drew ?_ | refine blk_alloc ?_ _)); exact BK105.out) hg (Kd.R_away HO_3.out (fun _ hk => hk.2))); have n1_ := Aside0.mk (hb); have n2_ := Aside0.mk (ho); clear BK105; clear HB; clear HO_3; have BK105 := n0_; have HB := n1_; have HO108 := n2_; clear n0_ n1_ n2_; clear ho hb hg hat))
                go_roundg k1
                case measure => have := HK1.out; omega
                case rel => exact ⟨(y106), (wrap64 (x12_1 + 1)), eq_, H', ⟨by have := HK1.out; omega⟩, ⟨by (with_reducible repeat (first | apply Kd.R_alloc | apply Kd.R_drewN | apply Kd.R_drew)); exact Kd.R_mono HO108.out (fun _ hk => trivial)⟩, (bl_ HB)⟩
              · rw [if_neg c8] at H
                exact absurd H (by simp)
            · rw [if_neg c7] at H
              have c7b0 : decide ((ji5) ≤ (ji6)) = false := decide_eq_false c7
              clear c7
              have H' := Aside0.mk H
              clear H
              have p104 : 0 ≤ (x12_1 : Int) := of_decide_eq_true (by first | (with_reducible assumption) | assumption)
              have q104 : x12_1 < (l0.length : Int) := of_decide_eq_true (by first | (with_reducible assumption) | assumption)
              obtain ⟨ad104, e104, hx104_0, hx104_1⟩ := at_T28 HR0.out x12_1 p104 q104
              cases e104
              replace hx104_0 := (HB.out.cell (World.block_lt_of_cell? w _ hx104_0)).trans hx104_0
              replace hx104_1 := (HB.out.cell (World.block_lt_of_cell? w _ hx104_1)).trans hx104_1
              replace p104 := eq_true p104
              replace q104 := eq_true q104
              go_wp2_with (first | ((with_reducible refine gate_dst (N := 5) rfl ?_); refine be_ 5 #[.int .i32 0, .int .i32 0] 28 ?_; intro gb105 hg w12 hbox hb; have BK105 := Aside0.mk (hbox); have GW105 := sz_ HB hg; have GE105 := sz_ HB hg; replace HO_3 := Aside0.mk (Kd.R_below (Kd.R_elderB (kr_ HO_3) gb105 (Nat.le_of_eq hg.symm)) hb); replace HB := Aside0.mk (below_step (bl_ HB).out hb); clear hb hbox hg; obtain ⟨hcz13_0, hcz13_1, hfz13_0, hfz13_1⟩ := bo2_ BK105))
              go_roundg k1
              case measure => have := HK1.out; omega
              case rel => exact ⟨(x3_1), (wrap64 (x12_1 + 1)), eq_, H', ⟨by have := HK1.out; omega⟩, ⟨by (with_reducible repeat (first | apply Kd.R_alloc | apply Kd.R_drewN | apply Kd.R_drew)); exact Kd.R_mono (Kd.R_far (p := ⟨gb105, 1, none⟩) (Kd.R_far (p := ⟨gb105, 0, none⟩) (Kd.R_far (p := ⟨gb105, 1, none⟩) (Kd.R_far (p := ⟨gb105, 0, none⟩) (Kd.R_mono HO_3.out (fun k_ hk => (⟨hk, hk.2⟩ : _ ∧ k_ ≠ gb105))) (fun _ hk => hk.2) (.int .i32 ((rd_T28 l0 x12_1).f0))) (fun _ hk => hk.2) (.int .i32 ((rd_T28 l0 x12_1).f1))) (fun _ hk => hk.2) (.int .i32 ji5)) (fun _ hk => hk.2) (.int .i32 ji6)) (fun _ hk => trivial)⟩, (bl_ HB)⟩
          · rw [if_neg c4] at H
            exact absurd H (by simp)
        · rw [if_neg c3] at H
          exact absurd H (by simp)
      · rw [if_neg c2] at H
        have c2b0 : decide (x12_1 < (l0.length : Int)) = false := decide_eq_false c2
        clear c2
        replace H := Option.bind_eq_some_iff.mp H
        obtain ⟨t109, A140, H⟩ := H
        replace H : (class_Made.l1 k1 ([] : List (S28)) t109 (x3_1.length : Int) 0) = some r := H
        have A14 := Aside0.mk A140
        clear A140
        have H' := Aside0.mk H
        clear H
        obtain ⟨Ao15, co15, eo15⟩ := Kd.R_slice HO_3.out
        subst eo15
        go_wp2_with (first | ((with_reducible refine gate_callee (f := 25) rfl ?_); refine gl_ (some 35) Tryz.func25 #[.slice Ao15 x3_1.length co15, .func (.func 26) #[] #[]] ?_; (with_reducible refine (slices_SortFunc.calls (fun k_ => some k_ = (.slice Ao15 x3_1.length co15 : Value).ownBlock) (.slice Ao15 x3_1.length co15) x3_1  t109 w _ ?side1 ?side2 A14.out).mono ?_); (case side1 => repeat (first | (with_reducible first | exact HB.out | apply below_alloc | apply pw_below_drewN | apply below_drew1) | exact HB.out)); (case side2 => exact Kd.R_tight rfl HO_3.out); rintro e w16 ⟨rfl, hy0, hb, hkp⟩; refine ⟨_, rfl, ?_⟩; replace HO_3 := Aside0.mk (Kd.R_reok rfl hy0 (fun k_ e_ => HO_3.out.1 k_ e_)); replace HB := Aside0.mk (hb); (try clear hb); (try clear hkp); (try clear hy0)))
        go_loopg [6, 38] k1 (fun kq v6 v38 w' => ∃ (x6_2 : List (S28)) (x36_2 : List (S28)) (x38_2 : Int), v38 = .int .i64 x38_2 ∧ Aside0 (class_Made.l1 kq x6_2 x36_2 (x3_1.length : Int) x38_2 = some r) ∧ Aside0 (kq ≤ k1) ∧ Aside0 (Kd.R k28 28 w' w.heap.size (fun k_ => some k_ ≠ ((.slice Ao15 x3_1.length co15) : Value).ownBlock) v6 x6_2) ∧ Aside0 (Kd.R k28 28 w' w.heap.size (fun k_ => some k_ ≠ (v6 : Value).ownBlock) (.slice Ao15 x3_1.length co15) x36_2) ∧ Aside0 (Below w.heap.size w w'))
        case atStart => exact ⟨(([] : List (S28))), (t109), (0), eq_, H', ⟨Nat.le_refl _⟩, ⟨by first | exact Kd.R_nil _ _ _ _ _ | exact Kd.N_nil _ _ _ _ _ | exact Kd.V_nil _ _ _ _ _ | exact Kd.Q_nil _ _ _ _ _ | exact Kd.S_nil _ _ _ _ _⟩, ⟨by (with_reducible repeat (first | apply Kd.R_alloc | apply Kd.R_drewN | apply Kd.R_drew)); exact Kd.R_mono HO_3.out (fun _ hk => (by simp [Value.ownBlock]))⟩, (bl_ HB)⟩
        case round =>
          clear H'
          try clear c1
          try clear p1
          try clear q1
          try clear hx1
          try clear c2
          try clear c2b0
          try clear p2
          try clear c3
          try clear c3b0
          try clear c4
          try clear c4b0
          try clear p6
          try clear c7
          try clear c7b0
          try clear c8
          try clear p10
          try clear q10
          try clear hx10
          try clear c11
          try clear hcz10_0
          try clear hcz10_1
          try clear hcz13_0
          try clear hcz13_1
          try clear hfz10_0
          try clear hfz10_1
          try clear hfz13_0
          try clear hfz13_1
          try clear hx104_0
          try clear hx104_1
          try clear p104
          try clear q104
          obtain ⟨x6_2, x36_2, x38_2, rfl, HA, HK2, HO_6, HO_36, HB⟩ := hrel
          have hl36_2 := (Kd.R_reads' HO_36.out).1
          rw [hl36_2] at HO_36
          (try simp only [hl36_2])
          (try simp only [hl36_2] at HO_6)
          cases gk with
          | zero => exact absurd HA.out (by simp [class_Made.l1])
          | succ k2 =>
            have H := HA.out
            clear HA
            simp only [class_Made.l1] at H
            by_cases c17 : x38_2 < (x3_1.length : Int)
            · rw [if_pos c17] at H
              have c17b0 : decide (x38_2 < (x3_1.length : Int)) = true := decide_eq_true c17
              clear c17
              (try (have c17y0_0 := c17b0; simp only [hl36_2] at c17y0_0))
              by_cases c18 : 0 ≤ x38_2
              · rw [if_pos c18] at H
                have c18b0 : decide (0 ≤ x38_2) = true := decide_eq_true c18
                clear c18
                by_cases c19 : x38_2 < (x36_2.length : Int)
                · rw [if_pos c19] at H
                  have c19b0 : decide (x38_2 < (x36_2.length : Int)) = true := decide_eq_true c19
                  clear c19
                  (try (have c19y0_0 := c19b0; simp only [hl36_2] at c19y0_0))
                  by_cases c20 : (x6_2.length : Int) > 0
                  · rw [if_pos c20] at H
                    have c20b0 : decide (0 < (x6_2.length : Int)) = true := decide_eq_true c20
                    have c20b1 : decide (0 < x6_2.length) = true := decide_eq_true (by omega)
                    clear c20
                    (try (have c20y0_0 := c20b0; simp only [hl36_2] at c20y0_0))
                    (try (have c20y1_0 := c20b1; simp only [hl36_2] at c20y1_0))
                    obtain ⟨ji21, hji21⟩ : ∃ j_ : Int, (wrap64 ((x6_2.length : Int) - 1)) = j_ := ⟨_, rfl⟩
                    replace H : (if 0 ≤ (ji21) then (if (ji21) < (x6_2.length : Int) then (if ((rd_T28 x36_2 x38_2).f0) ≤ (wrap32 (((rd_T28 x6_2 (ji21)).f1) + 1)) then (class_Made.l1 k2 (x6_2.set ((ji21) : Int).toNat (⟨(rd_T28 x6_2 (ji21)).f0, mx ((rd_T28 x6_2 (ji21)).f1) ((rd_T28 x36_2 x38_2).f1)⟩ : S28)) x36_2 (x3_1.length : Int) (wrap64 (x38_2 + 1))) else (if x6_2.length < 17592186044416 then (class_Made.l1 k2 (x6_2 ++ [(⟨(rd_T28 x36_2 x38_2).f0, (rd_T28 x36_2 x38_2).f1⟩ : S28)]) x36_2 (x3_1.length : Int) (wrap64 (x38_2 + 1))) else (none))) else (none)) else (none)) = some r := by first | (rw [hji21] at H; exact H) | (simp only [hji21] at H ⊢; exact H)
                    have hji21w : (IntKind.i64.wrap ((x6_2.length : Int) - 1)) = ji21 := (i64_w _).trans hji21
                    by_cases c22 : 0 ≤ (ji21)
                    · rw [if_pos c22] at H
                      have c22b0 : decide (0 ≤ (ji21)) = true := decide_eq_true c22
                      clear c22
                      by_cases c23 : (ji21) < (x6_2.length : Int)
                      · rw [if_pos c23] at H
                        have c23b0 : decide ((ji21) < (x6_2.length : Int)) = true := decide_eq_true c23
                        clear c23
                        (try (have c23y0_0 := c23b0; simp only [hl36_2] at c23y0_0))
                        by_cases c24 : ((rd_T28 x36_2 x38_2).f0) ≤ (wrap32 (((rd_T28 x6_2 (ji21)).f1) + 1))
                        · rw [if_pos c24] at H
                          have c24b0 : decide (((rd_T28 x36_2 x38_2).f0) ≤ (wrap32 (((rd_T28 x6_2 (ji21)).f1) + 1))) = true := decide_eq_true c24
                          clear c24
                          obtain ⟨ji25, hji25⟩ : ∃ j_ : Int, (mx ((rd_T28 x6_2 (ji21)).f1) ((rd_T28 x36_2 x38_2).f1)) = j_ := ⟨_, rfl⟩
                          replace H : (class_Made.l1 k2 (x6_2.set ((ji21) : Int).toNat (⟨(rd_T28 x6_2 (ji21)).f0, ji25⟩ : S28)) x36_2 (x3_1.length : Int) (wrap64 (x38_2 + 1))) = some r := by first | (rw [hji25] at H; exact H) | (simp only [hji25] at H ⊢; exact H)
                          have hji25_ : (if ((rd_T28 x6_2 (ji21)).f1) < ((rd_T28 x36_2 x38_2).f1) then ((rd_T28 x36_2 x38_2).f1) else ((rd_T28 x6_2 (ji21)).f1)) = ji25 := hji25
                          obtain ⟨y114, hy114⟩ : ∃ y_ : List (S28), y_ = (x6_2.set ((ji21) : Int).toNat (⟨(rd_T28 x6_2 (ji21)).f0, ji25⟩ : S28)) := ⟨_, rfl⟩
                          replace H : (class_Made.l1 k2 y114 x36_2 (x3_1.length : Int) (wrap64 (x38_2 + 1))) = some r := by first | (rw [hy114]; with_reducible exact H) | (have H2_ := (Option.bind_some _ _).symm.trans H; rw [hy114]; with_reducible exact H2_) | (have H2_ := (Option.bind_some _ _).symm.trans H; with_reducible exact H2_) | with_reducible exact H | (rw [hy114]; exact H) | exact H
                          have Ny114 := Aside0.mk hy114
                          clear hy114
                          have H' := Aside0.mk H
                          clear H
                          have p110 : 0 ≤ (x38_2 : Int) := of_decide_eq_true (by first | (with_reducible assumption) | assumption)
                          have q110 : x38_2 < (x36_2.length : Int) := of_decide_eq_true (by first | (with_reducible assumption) | assumption)
                          obtain ⟨ad110, e110, hx110_0, hx110_1⟩ := at_T28 (Kd.R_reads' HO_36.out).2.2 x38_2 p110 q110
                          cases e110
                          replace p110 := eq_true p110
                          replace q110 := eq_true q110
                          try go_wp2_with (first | ((with_reducible refine gate_dst (N := 8) rfl ?_); refine be_ 8 #[.int .i32 0, .int .i32 0] 28 ?_; intro gb111 hg w27 hbox hb; have BK111 := Aside0.mk (hbox); have GW111 := sz_ HB hg; have GE111 := sz_ HB hg; replace HO_6 := Aside0.mk (Kd.R_below (Kd.R_elderB (kr_ HO_6) gb111 (Nat.le_of_eq hg.symm)) hb); replace HO_36 := Aside0.mk (Kd.R_below (Kd.R_elderB (kr_ HO_36) gb111 (Nat.le_of_eq hg.symm)) hb); replace HB := Aside0.mk (below_step (bl_ HB).out hb); clear hb hbox hg; obtain ⟨hcz28_0, hcz28_1, hfz28_0, hfz28_1⟩ := bo2_ BK111; obtain ⟨Ao29, co29, eo29⟩ := Kd.R_slice HO_6.out; subst eo29))
                          have n0_ : Aside0 (Kd.R k28 28 ((w27.setCell ⟨gb111, 0, none⟩ (.int .i32 ((rd_T28 x36_2 x38_2).f0))).setCell ⟨gb111, 1, none⟩ (.int .i32 ((rd_T28 x36_2 x38_2).f1))) w.heap.size (fun k_ => some k_ ≠ (.slice (some ad110) x36_2.length co15 : Value).ownBlock ∧ k_ ≠ gb111) (.slice Ao29 x6_2.length co29) x6_2) := ⟨by (with_reducible repeat (first | apply Kd.R_alloc | apply Kd.R_drewN | apply Kd.R_drew)); exact Kd.R_mono (Kd.R_far (p := ⟨gb111, 1, none⟩) (Kd.R_far (p := ⟨gb111, 0, none⟩) (Kd.R_mono HO_6.out (fun k_ hk => (⟨hk, hk.2⟩ : _ ∧ k_ ≠ gb111))) (fun _ hk => hk.2) (.int .i32 ((rd_T28 x36_2 x38_2).f0))) (fun _ hk => hk.2) (.int .i32 ((rd_T28 x36_2 x38_2).f1))) (fun _ hk => ⟨hk.1.1, hk.1.2⟩)⟩
                          have n1_ : Aside0 (Kd.R k28 28 ((w27.setCell ⟨gb111, 0, none⟩ (.int .i32 ((rd_T28 x36_2 x38_2).f0))).setCell ⟨gb111, 1, none⟩ (.int .i32 ((rd_T28 x36_2 x38_2).f1))) w.heap.size (fun k_ => some k_ ≠ (.slice Ao29 x6_2.length co29 : Value).ownBlock ∧ k_ ≠ gb111) (.slice (some ad110) x36_2.length co15) x36_2) := ⟨by (with_reducible repeat (first | apply Kd.R_alloc | apply Kd.R_drewN | apply Kd.R_drew)); exact Kd.R_mono (Kd.R_far (p := ⟨gb111, 1, none⟩) (Kd.R_far (p := ⟨gb111, 0, none⟩) (Kd.R_mono HO_36.out (fun k_ hk => (⟨hk, hk.2⟩ : _ ∧ k_ ≠ gb111))) (fun _ hk => hk.2) (.int .i32 ((rd_T28 x36_2 x38_2).f0))) (fun _ hk => hk.2) (.int .i32 ((rd_T28 x36_2 x38_2).f1))) (fun _ hk => ⟨hk.1.1, hk.1.2⟩)⟩
                          have n2_ : Aside0 (((w27.setCell ⟨gb111, 0, none⟩ (.int .i32 ((rd_T28 x36_2 x38_2).f0))).setCell ⟨gb111, 1, none⟩ (.int .i32 ((rd_T28 x36_2 x38_2).f1))).heap[gb111]? = some (.cells #[.int .i32 ((rd_T28 x36_2 x38_2).f0), .int .i32 ((rd_T28 x36_2 x38_2).f1)] 28 (0, 0))) := ⟨by (with_reducible repeat (first | refine blk_drewN ?_ _ | refine blk_drew ?_ | refine blk_alloc ?_ _)); refine blk_put (cs := #[.int .i32 ((rd_T28 x36_2 x38_2).f0), .int .i32 0]) ?_ 1 _ rfl; (with_reducible repeat (first | refine blk_drewN ?_ _ | refine blk_drew ?_ | refine blk_alloc ?_ _)); refine blk_put (cs := #[.int .i32 0, .int .i32 0]) ?_ 0 _ rfl; (with_reducible repeat (first | refine blk_drewN ?_ _ | refine blk_drew ?_ | refine blk_alloc ?_ _)); exact BK111.out⟩
                          have n3_ : Aside0 (Below w.heap.size w ((w27.setCell ⟨gb111, 0, none⟩ (.int .i32 ((rd_T28 x36_2 x38_2).f0))).setCell ⟨gb111, 1, none⟩ (.int .i32 ((rd_T28 x36_2 x38_2).f1)))) := (bl_ HB)
                          (try clear HO_6)
                          (try clear HO_36)
                          (try clear BK111)
                          (try clear HB)
                          generalize ((w27.setCell ⟨gb111, 0, none⟩ (.int .i32 ((rd_T28 x36_2 x38_2).f0))).setCell ⟨gb111, 1, none⟩ (.int .i32 ((rd_T28 x36_2 x38_2).f1))) = w30 at n0_ n1_ n2_ n3_ ⊢
                          have HO_6 := n0_
                          have HO_36 := n1_
                          have BK111 := n2_
                          have HB := n3_
                          clear n0_ n1_ n2_ n3_
                          replace HO_6 := Aside0.mk (Kd.R_drew HO_6.out)
                          replace HO_36 := Aside0.mk (Kd.R_drew HO_36.out)
                          replace BK111 := Aside0.mk (blk_drew BK111.out)
                          replace HB := Aside0.mk (below_drew1 HB.out)
                          have p112 : 0 ≤ ((ji21) : Int) := of_decide_eq_true (by first | (with_reducible assumption) | assumption)
                          have q112 : (ji21) < (x6_2.length : Int) := of_decide_eq_true (by first | (with_reducible assumption) | assumption)
                          obtain ⟨ad112, e112, hx112_0, hx112_1⟩ := at_T28 (Kd.R_reads' HO_6.out).2.2 (ji21) p112 q112
                          cases e112
                          replace p112 := eq_true p112
                          replace q112 := eq_true q112
                          refine start_ (n := 14) (S := fun w' => w'.cell? ⟨gb111, 0, none⟩ = some (.int .i32 ((rd_T28 x36_2 x38_2).f0)) ∧ w'.cell? ⟨gb111, 1, none⟩ = some (.int .i32 ((rd_T28 x36_2 x38_2).f1)) ∧ w'.cell? (ad112.add (((ji21)).toNat * 2)) = some (.int .i32 ((rd_T28 x6_2 (ji21)).f0)) ∧ w'.cell? ⟨(ad112.add (((ji21)).toNat * 2)).block, (ad112.add (((ji21)).toNat * 2)).off + 1, none⟩ = some (.int .i32 ((rd_T28 x6_2 (ji21)).f1))) (ds := []) #[false, false, false, false, false, false, false, false, false, false, false, false, false, false] (by kernel_rfl) rfl rfl ⟨bc_ BK111 0, bc_ BK111 1, hx112_0, hx112_1⟩ (fun hHeld => ?_); refine with_tabW class_Made.tab15 class_Made.bits15 (fun HT_ HW_ => ?_)
                          generalize w30.drew = w31 at HO_6 HO_36 BK111 HB hx112_0 hx112_1 hHeld ⊢
                          refine pu_ 0 44 (bm_ 14 1) HT_ ?_
                          refine pu_ 1 45 (bm_ 14 3) HT_ ?_
                          refine pu_ 2 46 (bm_ 14 7) HT_ ?_
                          refine pu_ 3 47 (bm_ 14 15) HT_ ?_
                          refine pu_ 5 49 (bm_ 14 47) HT_ ?_
                          refine pu_ 6 50 (bm_ 14 111) HT_ ?_
                          refine pu_ 7 51 (bm_ 14 239) HT_ ?_
                          refine pu_ 8 52 (bm_ 14 495) HT_ ?_
                          refine pu_ 9 53 (bm_ 14 1007) HT_ ?_
                          refine tk_ 4 48 (bm_ 14 1023) HT_ HW_ hHeld rfl (by rintro w' ⟨s0, s1, s2, s3⟩; go_simp; with_reducible rfl) ?_
                          refine tk_ 10 54 (bm_ 14 2047) HT_ HW_ hHeld rfl (by rintro w' ⟨s0, s1, s2, s3⟩; go_simp; with_reducible rfl) ?_
                          refine pu_ 11 55 (bm_ 14 4095) HT_ ?_
                          refine pu_ 12 56 (bm_ 14 8191) HT_ ?_
                          refine pu_ 13 57 (bm_ 14 16383) HT_ ?_
                          refine done_ (done_of HT_.out (by kernel_rfl)) ?_
                          try go_wp2
                          replace HO_6 := Aside0.mk (Kd.R_drew HO_6.out)
                          replace HO_36 := Aside0.mk (Kd.R_drew HO_36.out)
                          replace BK111 := Aside0.mk (blk_drew BK111.out)
                          replace HB := Aside0.mk (below_drew1 HB.out)
                          have p113 : 0 ≤ ((ji21) : Int) := of_decide_eq_true (by first | (with_reducible assumption) | assumption)
                          have q113 : (ji21) < (x6_2.length : Int) := of_decide_eq_true (by first | (with_reducible assumption) | assumption)
                          obtain ⟨ad113, e113, hx113_0, hx113_1⟩ := at_T28 (Kd.R_reads' HO_6.out).2.2 (ji21) p113 q113
                          obtain rfl : ad112 = ad113 := (by injection e113)
                          replace p113 := eq_true p113
                          replace q113 := eq_true q113
                          have p26 : 0 ≤ ((ji21) : Int) := of_decide_eq_true (by first | (with_reducible assumption) | assumption)
                          have q26 : ((ji21) : Int) < ((x6_2.length : Int) : Int) := of_decide_eq_true (by first | (with_reducible assumption) | assumption)
                          obtain ⟨go26, co26, eo26, gb26, gl26, cl26, HG26⟩ := Kd.R_form HO_6.out (by omega)
                          (first | cases eo26 | (injection eo26 with ea_ en_ ec_; (first | subst ea_ | (injection ea_ with ea_; subst ea_)); subst ec_; clear en_))
                          have GB26 := Aside0.mk gb26
                          have GG26 := Aside0.mk HG26
                          clear gb26 gl26 HG26
                          (first | simp only [add_plain] at hx112_0 | skip)
                          (first | simp only [add_plain] at hx112_1 | skip)
                          (first | simp only [add_plain] at hx113_0 | skip)
                          (first | simp only [add_plain] at hx113_1 | skip)
                          obtain ⟨ce26, hcl26, hM26, hcc26, hfr26⟩ := Kd.R_elem HO_6.out z28 ((ji21) : Int) p26 q26
                          obtain rfl := k28_openM hM26
                          have hx26_0 : World.cell? _ ⟨go26, ((ji21) : Int).toNat * 2, none⟩ = some (.int .i32 ((rd_T28 x6_2 (ji21)).f0)) := hcc26 0 _ rfl
                          have hx26_1 : World.cell? _ ⟨go26, ((ji21) : Int).toNat * 2 + 1, none⟩ = some (.int .i32 ((rd_T28 x6_2 (ji21)).f1)) := hcc26 1 _ rfl
                          have hf26_0 : World.frozen? _ ⟨go26, ((ji21) : Int).toNat * 2, none⟩ = false := hfr26 0
                          have hf26_1 : World.frozen? _ ⟨go26, ((ji21) : Int).toNat * 2 + 1, none⟩ = false := hfr26 1
                          clear hcl26 hcc26 hfr26 hM26
                          replace p26 := eq_true p26
                          replace q26 := eq_true q26
                          obtain ⟨ce33, hcl33, hM33, hcc33, hfr33⟩ := Kd.R_elem HO_6.out z28 ((ji21) : Int) (of_decide_eq_true (by first | (with_reducible assumption) | assumption)) (by have h_ : ((ji21) : Int) < ((x6_2.length : Int) : Int) := of_decide_eq_true (by first | (with_reducible assumption) | assumption); first | exact h_ | (have e_ := (Kd.R_reads' HO_6.out).1; omega) | simpa using h_)
                          obtain rfl := k28_openM hM33
                          have HP33 := (Kd.R_seg HO_6.out ((ji21) : Int) (of_decide_eq_true (by first | (with_reducible assumption) | assumption)) (by have h_ : ((ji21) : Int) < ((x6_2.length : Int) : Int) := of_decide_eq_true (by first | (with_reducible assumption) | assumption); first | exact h_ | (have e_ := (Kd.R_reads' HO_6.out).1; omega) | simpa using h_) (seg := [.int .i32 ji25]) (j := 1) hcl33 hcc33 (show 2 ≤ 2 from by decide) (x' := (⟨(rd_T28 x6_2 (ji21)).f0, ji25⟩ : S28)) (k28_mkM _ _ _ (⟨(rd_T28 x6_2 (ji21)).f0, ji25⟩ : S28) ) (fun _ hk => hk)).1
                          rw [← Ny114.out] at HP33
                          have HQ33 := Aside0.mk HP33
                          clear hcl33 hcc33 hfr33 hM33 HP33
                          refine start_ (n := 15) (S := fun w' => w'.cell? ⟨gb111, 0, none⟩ = some (.int .i32 ((rd_T28 x36_2 x38_2).f0)) ∧ w'.cell? ⟨gb111, 1, none⟩ = some (.int .i32 ((rd_T28 x36_2 x38_2).f1)) ∧ w'.cell? ⟨go26, (((ji21)).toNat * 2), none⟩ = some (.int .i32 ((rd_T28 x6_2 (ji21)).f0)) ∧ w'.cell? ⟨go26, (((ji21)).toNat * 2) + 1, none⟩ = some (.int .i32 ((rd_T28 x6_2 (ji21)).f1))) (ds := [14]) #[false, false, false, false, false, false, false, false, false, false, false, false, false, false, false] (by kernel_rfl) rfl rfl ⟨bc_ BK111 0, bc_ BK111 1, hx113_0, hx113_1⟩ (fun hHeld => ?_); refine with_tabW class_Made.tab16 class_Made.bits16 (fun HT_ HW_ => ?_)
                          generalize w31.drew = w32 at HO_6 HO_36 BK111 HB GG26 HQ33 hf26_0 hf26_1 hx112_0 hx112_1 hx113_0 hx113_1 hx26_0 hx26_1 hHeld ⊢
                          refine pu_ 0 58 (bm_ 15 1) HT_ ?_
                          refine pu_ 1 59 (bm_ 15 3) HT_ ?_
                          refine pu_ 2 60 (bm_ 15 7) HT_ ?_
                          refine pu_ 3 61 (bm_ 15 15) HT_ ?_
                          refine pu_ 4 62 (bm_ 15 31) HT_ ?_
                          refine pu_ 5 63 (bm_ 15 63) HT_ ?_
                          refine pu_ 6 64 (bm_ 15 127) HT_ ?_
                          refine pu_ 7 65 (bm_ 15 255) HT_ ?_
                          refine pu_ 9 67 (bm_ 15 767) HT_ ?_
                          refine tk_ 8 66 (bm_ 15 1023) HT_ HW_ hHeld rfl (by rintro w' ⟨s0, s1, s2, s3⟩; go_simp; with_reducible rfl) ?_
                          refine tk_ 10 68 (bm_ 15 2047) HT_ HW_ hHeld rfl (by rintro w' ⟨s0, s1, s2, s3⟩; go_simp; with_reducible rfl) ?_
                          refine pu_ 11 69 (bm_ 15 4095) HT_ ?_
                          refine pu_ 12 70 (bm_ 15 8191) HT_ ?_
                          refine pu_ 13 71 (bm_ 15 16383) HT_ ?_
                          refine last_ (i := 14) (N := none) #[true, true, true, true, true, true, true, true, true, true, true, true, true, true, true] rfl rfl (one_of HT_.out (by kernel_rfl)) (by decide) (fun K hK => ?_)
                          refine skip_ (w1 := ?_) (by rfl) rfl ?_ ?_
                          rotate_left
                          · go_simp
                            rfl
                          refine hK.out _ _ ?_
                          clear hK K
                          refine done_ (done_of HT_.out (by kernel_rfl)) ?_
                          try go_wp2
                          (try simp only [← hl36_2])
                          go_roundg k2
                          case measure => have := HK1.out; have := HK2.out; omega
                          case rel => exact ⟨(y114), (x36_2), (wrap64 (x38_2 + 1)), eq_, H', ⟨by have := HK1.out; have := HK2.out; omega⟩, ⟨by (try simp only [hl36_2]); (with_reducible repeat (first | apply Kd.R_alloc | apply Kd.R_drewN | apply Kd.R_drew)); exact Kd.R_mono HQ33.out (fun _ hk => hk.1)⟩, ⟨by (try simp only [hl36_2]); (with_reducible repeat (first | apply Kd.R_alloc | apply Kd.R_drewN | apply Kd.R_drew)); exact Kd.R_mono (Kd.R_far (p := ⟨go26, ((ji21) : Int).toNat * 2 + 1, none⟩) (Kd.R_mono HO_36.out (fun k_ hk => (⟨hk, fun e_ => hk.1 (by rw [e_]; rfl)⟩ : _ ∧ k_ ≠ go26))) (fun _ hk => hk.2) (.int .i32 ji25)) (fun _ hk => hk.1.1)⟩, ⟨by repeat (first | (with_reducible first | exact HB.out | apply below_alloc | apply pw_below_drewN | apply below_drew1 | refine below_set ?_ GB26.out | refine below_set ?_ GE111.out) | exact HB.out)⟩⟩
                        · rw [if_neg c24] at H
                          have c24b0 : decide (((rd_T28 x36_2 x38_2).f0) ≤ (wrap32 (((rd_T28 x6_2 (ji21)).f1) + 1))) = false := decide_eq_false c24
                          clear c24
                          by_cases c34 : x6_2.length < 17592186044416
                          · rw [if_pos c34] at H
                            have LMc34 := Aside0.mk c34
                            clear c34
                            obtain ⟨y115, hy115⟩ : ∃ y_ : List (S28), y_ = (x6_2 ++ [(⟨(rd_T28 x36_2 x38_2).f0, (rd_T28 x36_2 x38_2).f1⟩ : S28)]) := ⟨_, rfl⟩
                            replace H : (class_Made.l1 k2 y115 x36_2 (x3_1.length : Int) (wrap64 (x38_2 + 1))) = some r := by first | (rw [hy115]; with_reducible exact H) | (have H2_ := (Option.bind_some _ _).symm.trans H; rw [hy115]; with_reducible exact H2_) | (have H2_ := (Option.bind_some _ _).symm.trans H; with_reducible exact H2_) | with_reducible exact H | (rw [hy115]; exact H) | exact H
                            have Ny115 := Aside0.mk hy115
                            clear hy115
                            have H' := Aside0.mk H
                            clear H
                            have p110 : 0 ≤ (x38_2 : Int) := of_decide_eq_true (by first | (with_reducible assumption) | assumption)
                            have q110 : x38_2 < (x36_2.length : Int) := of_decide_eq_true (by first | (with_reducible assumption) | assumption)
                            obtain ⟨ad110, e110, hx110_0, hx110_1⟩ := at_T28 (Kd.R_reads' HO_36.out).2.2 x38_2 p110 q110
                            cases e110
                            replace p110 := eq_true p110
                            replace q110 := eq_true q110
                            try go_wp2_with (first | ((with_reducible refine gate_dst (N := 8) rfl ?_); refine be_ 8 #[.int .i32 0, .int .i32 0] 28 ?_; intro gb111 hg w35 hbox hb; have BK111 := Aside0.mk (hbox); have GW111 := sz_ HB hg; have GE111 := sz_ HB hg; replace HO_6 := Aside0.mk (Kd.R_below (Kd.R_elderB (kr_ HO_6) gb111 (Nat.le_of_eq hg.symm)) hb); replace HO_36 := Aside0.mk (Kd.R_below (Kd.R_elderB (kr_ HO_36) gb111 (Nat.le_of_eq hg.symm)) hb); replace HB := Aside0.mk (below_step (bl_ HB).out hb); clear hb hbox hg; obtain ⟨hcz36_0, hcz36_1, hfz36_0, hfz36_1⟩ := bo2_ BK111; obtain ⟨Ao37, co37, eo37⟩ := Kd.R_slice HO_6.out; subst eo37))
                            have n0_ : Aside0 (Kd.R k28 28 ((w35.setCell ⟨gb111, 0, none⟩ (.int .i32 ((rd_T28 x36_2 x38_2).f0))).setCell ⟨gb111, 1, none⟩ (.int .i32 ((rd_T28 x36_2 x38_2).f1))) w.heap.size (fun k_ => some k_ ≠ (.slice (some ad110) x36_2.length co15 : Value).ownBlock ∧ k_ ≠ gb111) (.slice Ao37 x6_2.length co37) x6_2) := ⟨by (with_reducible repeat (first | apply Kd.R_alloc | apply Kd.R_drewN | apply Kd.R_drew)); exact Kd.R_mono (Kd.R_far (p := ⟨gb111, 1, none⟩) (Kd.R_far (p := ⟨gb111, 0, none⟩) (Kd.R_mono HO_6.out (fun k_ hk => (⟨hk, hk.2⟩ : _ ∧ k_ ≠ gb111))) (fun _ hk => hk.2) (.int .i32 ((rd_T28 x36_2 x38_2).f0))) (fun _ hk => hk.2) (.int .i32 ((rd_T28 x36_2 x38_2).f1))) (fun _ hk => ⟨hk.1.1, hk.1.2⟩)⟩
                            have n1_ : Aside0 (Kd.R k28 28 ((w35.setCell ⟨gb111, 0, none⟩ (.int .i32 ((rd_T28 x36_2 x38_2).f0))).setCell ⟨gb111, 1, none⟩ (.int .i32 ((rd_T28 x36_2 x38_2).f1))) w.heap.size (fun k_ => some k_ ≠ (.slice Ao37 x6_2.length co37 : Value).ownBlock ∧ k_ ≠ gb111) (.slice (some ad110) x36_2.length co15) x36_2) := ⟨by (with_reducible repeat (first | apply Kd.R_alloc | apply Kd.R_drewN | apply Kd.R_drew)); exact Kd.R_mono (Kd.R_far (p := ⟨gb111, 1, none⟩) (Kd.R_far (p := ⟨gb111, 0, none⟩) (Kd.R_mono HO_36.out (fun k_ hk => (⟨hk, hk.2⟩ : _ ∧ k_ ≠ gb111))) (fun _ hk => hk.2) (.int .i32 ((rd_T28 x36_2 x38_2).f0))) (fun _ hk => hk.2) (.int .i32 ((rd_T28 x36_2 x38_2).f1))) (fun _ hk => ⟨hk.1.1, hk.1.2⟩)⟩
                            have n2_ : Aside0 (((w35.setCell ⟨gb111, 0, none⟩ (.int .i32 ((rd_T28 x36_2 x38_2).f0))).setCell ⟨gb111, 1, none⟩ (.int .i32 ((rd_T28 x36_2 x38_2).f1))).heap[gb111]? = some (.cells #[.int .i32 ((rd_T28 x36_2 x38_2).f0), .int .i32 ((rd_T28 x36_2 x38_2).f1)] 28 (0, 0))) := ⟨by (with_reducible repeat (first | refine blk_drewN ?_ _ | refine blk_drew ?_ | refine blk_alloc ?_ _)); refine blk_put (cs := #[.int .i32 ((rd_T28 x36_2 x38_2).f0), .int .i32 0]) ?_ 1 _ rfl; (with_reducible repeat (first | refine blk_drewN ?_ _ | refine blk_drew ?_ | refine blk_alloc ?_ _)); refine blk_put (cs := #[.int .i32 0, .int .i32 0]) ?_ 0 _ rfl; (with_reducible repeat (first | refine blk_drewN ?_ _ | refine blk_drew ?_ | refine blk_alloc ?_ _)); exact BK111.out⟩
                            have n3_ : Aside0 (Below w.heap.size w ((w35.setCell ⟨gb111, 0, none⟩ (.int .i32 ((rd_T28 x36_2 x38_2).f0))).setCell ⟨gb111, 1, none⟩ (.int .i32 ((rd_T28 x36_2 x38_2).f1)))) := (bl_ HB)
                            (try clear HO_6)
                            (try clear HO_36)
                            (try clear BK111)
                            (try clear HB)
                            generalize ((w35.setCell ⟨gb111, 0, none⟩ (.int .i32 ((rd_T28 x36_2 x38_2).f0))).setCell ⟨gb111, 1, none⟩ (.int .i32 ((rd_T28 x36_2 x38_2).f1))) = w38 at n0_ n1_ n2_ n3_ ⊢
                            have HO_6 := n0_
                            have HO_36 := n1_
                            have BK111 := n2_
                            have HB := n3_
                            clear n0_ n1_ n2_ n3_
                            replace HO_6 := Aside0.mk (Kd.R_drew HO_6.out)
                            replace HO_36 := Aside0.mk (Kd.R_drew HO_36.out)
                            replace BK111 := Aside0.mk (blk_drew BK111.out)
                            replace HB := Aside0.mk (below_drew1 HB.out)
                            have p112 : 0 ≤ ((ji21) : Int) := of_decide_eq_true (by first | (with_reducible assumption) | assumption)
                            have q112 : (ji21) < (x6_2.length : Int) := of_decide_eq_true (by first | (with_reducible assumption) | assumption)
                            obtain ⟨ad112, e112, hx112_0, hx112_1⟩ := at_T28 (Kd.R_reads' HO_6.out).2.2 (ji21) p112 q112
                            cases e112
                            replace p112 := eq_true p112
                            replace q112 := eq_true q112
                            refine start_ (n := 14) (S := fun w' => w'.cell? ⟨gb111, 0, none⟩ = some (.int .i32 ((rd_T28 x36_2 x38_2).f0)) ∧ w'.cell? ⟨gb111, 1, none⟩ = some (.int .i32 ((rd_T28 x36_2 x38_2).f1)) ∧ w'.cell? (ad112.add (((ji21)).toNat * 2)) = some (.int .i32 ((rd_T28 x6_2 (ji21)).f0)) ∧ w'.cell? ⟨(ad112.add (((ji21)).toNat * 2)).block, (ad112.add (((ji21)).toNat * 2)).off + 1, none⟩ = some (.int .i32 ((rd_T28 x6_2 (ji21)).f1))) (ds := []) #[false, false, false, false, false, false, false, false, false, false, false, false, false, false] (by kernel_rfl) rfl rfl ⟨bc_ BK111 0, bc_ BK111 1, hx112_0, hx112_1⟩ (fun hHeld => ?_); refine with_tabW class_Made.tab15 class_Made.bits15 (fun HT_ HW_ => ?_)
                            generalize w38.drew = w39 at HO_6 HO_36 BK111 HB hx112_0 hx112_1 hHeld ⊢
                            refine pu_ 0 44 (bm_ 14 1) HT_ ?_
                            refine pu_ 1 45 (bm_ 14 3) HT_ ?_
                            refine pu_ 2 46 (bm_ 14 7) HT_ ?_
                            refine pu_ 3 47 (bm_ 14 15) HT_ ?_
                            refine pu_ 5 49 (bm_ 14 47) HT_ ?_
                            refine pu_ 6 50 (bm_ 14 111) HT_ ?_
                            refine pu_ 7 51 (bm_ 14 239) HT_ ?_
                            refine pu_ 8 52 (bm_ 14 495) HT_ ?_
                            refine pu_ 9 53 (bm_ 14 1007) HT_ ?_
                            refine tk_ 4 48 (bm_ 14 1023) HT_ HW_ hHeld rfl (by rintro w' ⟨s0, s1, s2, s3⟩; go_simp; with_reducible rfl) ?_
                            refine tk_ 10 54 (bm_ 14 2047) HT_ HW_ hHeld rfl (by rintro w' ⟨s0, s1, s2, s3⟩; go_simp; with_reducible rfl) ?_
                            refine pu_ 11 55 (bm_ 14 4095) HT_ ?_
                            refine pu_ 12 56 (bm_ 14 8191) HT_ ?_
                            refine pu_ 13 57 (bm_ 14 16383) HT_ ?_
                            refine done_ (done_of HT_.out (by kernel_rfl)) ?_
                            obtain ⟨hcz40_0, hcz40_1, hfz40_0, hfz40_1⟩ := bo2_ BK111
                            try go_wp2_with (first | ((with_reducible refine gate_builtin (b := .append) (xs := #[.tmp 72, .tmp 74]) rfl ?_); at_builtin; refine Kd.R_append k28 (w0 := w) w.heap.size rfl (.tmp 72) (.tmp 74) 25 28 (.agg #[(.int .i32 0), (.int .i32 0)]) 8 rfl Tryz.underlying25 info28 rfl (by decide) (by omega) (.slice (some ad112) x6_2.length co37) x6_2 (⟨(rd_T28 x36_2 x38_2).f0, (rd_T28 x36_2 x38_2).f1⟩ : S28) [.int .i32 ((rd_T28 x36_2 x38_2).f0), .int .i32 ((rd_T28 x36_2 x38_2).f1)] (fun k_ => some k_ ≠ (.slice (some ad110) x36_2.length co15 : Value).ownBlock ∧ k_ ≠ gb111) (fun _ => False) rfl rfl ?aP (fun _ hk => hk.elim) ?aF ?aO ?aB ?aS ?aL ?_; (case aP => exact k28_mkM _ _ _ (⟨(rd_T28 x36_2 x38_2).f0, (rd_T28 x36_2 x38_2).f1⟩ : S28)); (case aB => exact (bl_ HB).out); (case aF => exact (fun k_ hk => ⟨Kd.fresh' (kx_ HO_36) k_ hk, Kd.freshB (g := gb111) (o := .cells #[.int .i32 ((rd_T28 x36_2 x38_2).f0), .int .i32 ((rd_T28 x36_2 x38_2).f1)] 28 (0, 0)) (by (with_reducible repeat (first | refine blk_drewN ?_ _ | refine blk_drew ?_ | refine blk_alloc ?_ _)); exact BK111.out) k_ hk⟩)); (case aO => exact (kr_ HO_6)); (case aS => exact (below_size (bl_ HB).out)); (case aL => have := LMc34.out; omega); intro v116 w41 ho hb hg hat; rw [← Ny115.out] at ho; have n0_ := Aside0.mk (Kd.R_after (ok := (fun k_ => k_ ≠ gb111)) (by (with_reducible repeat (first | apply Kd.R_alloc | apply Kd.R_drewN | apply Kd.R_drew)); exact Kd.R_mono HO_36.out (fun _ hk => ⟨hk.2, hk.1⟩)) hg hat); have n1_ := Aside0.mk (blk_grown (g := gb111) (o := .cells #[.int .i32 ((rd_T28 x36_2 x38_2).f0), .int .i32 ((rd_T28 x36_2 x38_2).f1)] 28 (0, 0)) (by (with_reducible repeat (first | refine blk_drewN ?_ _ | refine blk_drew ?_ | refine blk_alloc ?_ _)); exact BK111.out) hg (Kd.R_away HO_6.out (fun _ hk => hk.2))); have n2_ := Aside0.mk (hb); have n3_ := Aside0.mk (ho); clear HO_36; clear BK111; clear HB; clear HO_6; have HO_36 := n0_; have BK111 := n1_; have HB := n2_; have HO117 := n3_; clear n0_ n1_ n2_ n3_; clear ho hb hg hat))
                            (try simp only [← hl36_2])
                            go_roundg k2
                            case measure => have := HK1.out; have := HK2.out; omega
                            case rel => exact ⟨(y115), (x36_2), (wrap64 (x38_2 + 1)), eq_, H', ⟨by have := HK1.out; have := HK2.out; omega⟩, ⟨by (try simp only [hl36_2]); (with_reducible repeat (first | apply Kd.R_alloc | apply Kd.R_drewN | apply Kd.R_drew)); exact Kd.R_mono HO117.out (fun _ hk => hk.1)⟩, ⟨by (try simp only [hl36_2]); (with_reducible repeat (first | apply Kd.R_alloc | apply Kd.R_drewN | apply Kd.R_drew)); exact Kd.R_mono HO_36.out (fun _ hk => hk.2)⟩, (bl_ HB)⟩
                          · rw [if_neg c34] at H
                            exact absurd H (by simp)
                      · rw [if_neg c23] at H
                        exact absurd H (by simp)
                    · rw [if_neg c22] at H
                      exact absurd H (by simp)
                  · rw [if_neg c20] at H
                    have c20b0 : decide (0 < (x6_2.length : Int)) = false := decide_eq_false c20
                    have c20b1 : decide (0 < x6_2.length) = false := decide_eq_false (by omega)
                    clear c20
                    (try (have c20y0_0 := c20b0; simp only [hl36_2] at c20y0_0))
                    (try (have c20y1_0 := c20b1; simp only [hl36_2] at c20y1_0))
                    by_cases c42 : x6_2.length < 17592186044416
                    · rw [if_pos c42] at H
                      have LMc42 := Aside0.mk c42
                      clear c42
                      obtain ⟨y118, hy118⟩ : ∃ y_ : List (S28), y_ = (x6_2 ++ [(⟨(rd_T28 x36_2 x38_2).f0, (rd_T28 x36_2 x38_2).f1⟩ : S28)]) := ⟨_, rfl⟩
                      replace H : (class_Made.l1 k2 y118 x36_2 (x3_1.length : Int) (wrap64 (x38_2 + 1))) = some r := by first | (rw [hy118]; with_reducible exact H) | (have H2_ := (Option.bind_some _ _).symm.trans H; rw [hy118]; with_reducible exact H2_) | (have H2_ := (Option.bind_some _ _).symm.trans H; with_reducible exact H2_) | with_reducible exact H | (rw [hy118]; exact H) | exact H
                      have Ny118 := Aside0.mk hy118
                      clear hy118
                      have H' := Aside0.mk H
                      clear H
                      have p110 : 0 ≤ (x38_2 : Int) := of_decide_eq_true (by first | (with_reducible assumption) | assumption)
                      have q110 : x38_2 < (x36_2.length : Int) := of_decide_eq_true (by first | (with_reducible assumption) | assumption)
                      obtain ⟨ad110, e110, hx110_0, hx110_1⟩ := at_T28 (Kd.R_reads' HO_36.out).2.2 x38_2 p110 q110
                      cases e110
                      replace p110 := eq_true p110
                      replace q110 := eq_true q110
                      try go_wp2_with (first | ((with_reducible refine gate_dst (N := 8) rfl ?_); refine be_ 8 #[.int .i32 0, .int .i32 0] 28 ?_; intro gb111 hg w43 hbox hb; have BK111 := Aside0.mk (hbox); have GW111 := sz_ HB hg; have GE111 := sz_ HB hg; replace HO_6 := Aside0.mk (Kd.R_below (Kd.R_elderB (kr_ HO_6) gb111 (Nat.le_of_eq hg.symm)) hb); replace HO_36 := Aside0.mk (Kd.R_below (Kd.R_elderB (kr_ HO_36) gb111 (Nat.le_of_eq hg.symm)) hb); replace HB := Aside0.mk (below_step (bl_ HB).out hb); clear hb hbox hg; obtain ⟨hcz44_0, hcz44_1, hfz44_0, hfz44_1⟩ := bo2_ BK111; obtain ⟨Ao45, co45, eo45⟩ := Kd.R_slice HO_6.out; subst eo45))
                      have n0_ : Aside0 (Kd.R k28 28 ((w43.setCell ⟨gb111, 0, none⟩ (.int .i32 ((rd_T28 x36_2 x38_2).f0))).setCell ⟨gb111, 1, none⟩ (.int .i32 ((rd_T28 x36_2 x38_2).f1))) w.heap.size (fun k_ => some k_ ≠ (.slice (some ad110) x36_2.length co15 : Value).ownBlock ∧ k_ ≠ gb111) (.slice Ao45 x6_2.length co45) x6_2) := ⟨by (with_reducible repeat (first | apply Kd.R_alloc | apply Kd.R_drewN | apply Kd.R_drew)); exact Kd.R_mono (Kd.R_far (p := ⟨gb111, 1, none⟩) (Kd.R_far (p := ⟨gb111, 0, none⟩) (Kd.R_mono HO_6.out (fun k_ hk => (⟨hk, hk.2⟩ : _ ∧ k_ ≠ gb111))) (fun _ hk => hk.2) (.int .i32 ((rd_T28 x36_2 x38_2).f0))) (fun _ hk => hk.2) (.int .i32 ((rd_T28 x36_2 x38_2).f1))) (fun _ hk => ⟨hk.1.1, hk.1.2⟩)⟩
                      have n1_ : Aside0 (Kd.R k28 28 ((w43.setCell ⟨gb111, 0, none⟩ (.int .i32 ((rd_T28 x36_2 x38_2).f0))).setCell ⟨gb111, 1, none⟩ (.int .i32 ((rd_T28 x36_2 x38_2).f1))) w.heap.size (fun k_ => some k_ ≠ (.slice Ao45 x6_2.length co45 : Value).ownBlock ∧ k_ ≠ gb111) (.slice (some ad110) x36_2.length co15) x36_2) := ⟨by (with_reducible repeat (first | apply Kd.R_alloc | apply Kd.R_drewN | apply Kd.R_drew)); exact Kd.R_mono (Kd.R_far (p := ⟨gb111, 1, none⟩) (Kd.R_far (p := ⟨gb111, 0, none⟩) (Kd.R_mono HO_36.out (fun k_ hk => (⟨hk, hk.2⟩ : _ ∧ k_ ≠ gb111))) (fun _ hk => hk.2) (.int .i32 ((rd_T28 x36_2 x38_2).f0))) (fun _ hk => hk.2) (.int .i32 ((rd_T28 x36_2 x38_2).f1))) (fun _ hk => ⟨hk.1.1, hk.1.2⟩)⟩
                      have n2_ : Aside0 (((w43.setCell ⟨gb111, 0, none⟩ (.int .i32 ((rd_T28 x36_2 x38_2).f0))).setCell ⟨gb111, 1, none⟩ (.int .i32 ((rd_T28 x36_2 x38_2).f1))).heap[gb111]? = some (.cells #[.int .i32 ((rd_T28 x36_2 x38_2).f0), .int .i32 ((rd_T28 x36_2 x38_2).f1)] 28 (0, 0))) := ⟨by (with_reducible repeat (first | refine blk_drewN ?_ _ | refine blk_drew ?_ | refine blk_alloc ?_ _)); refine blk_put (cs := #[.int .i32 ((rd_T28 x36_2 x38_2).f0), .int .i32 0]) ?_ 1 _ rfl; (with_reducible repeat (first | refine blk_drewN ?_ _ | refine blk_drew ?_ | refine blk_alloc ?_ _)); refine blk_put (cs := #[.int .i32 0, .int .i32 0]) ?_ 0 _ rfl; (with_reducible repeat (first | refine blk_drewN ?_ _ | refine blk_drew ?_ | refine blk_alloc ?_ _)); exact BK111.out⟩
                      have n3_ : Aside0 (Below w.heap.size w ((w43.setCell ⟨gb111, 0, none⟩ (.int .i32 ((rd_T28 x36_2 x38_2).f0))).setCell ⟨gb111, 1, none⟩ (.int .i32 ((rd_T28 x36_2 x38_2).f1)))) := (bl_ HB)
                      (try clear HO_6)
                      (try clear HO_36)
                      (try clear BK111)
                      (try clear HB)
                      generalize ((w43.setCell ⟨gb111, 0, none⟩ (.int .i32 ((rd_T28 x36_2 x38_2).f0))).setCell ⟨gb111, 1, none⟩ (.int .i32 ((rd_T28 x36_2 x38_2).f1))) = w46 at n0_ n1_ n2_ n3_ ⊢
                      have HO_6 := n0_
                      have HO_36 := n1_
                      have BK111 := n2_
                      have HB := n3_
                      clear n0_ n1_ n2_ n3_
                      replace HO_6 := Aside0.mk (Kd.R_drew HO_6.out)
                      replace HO_36 := Aside0.mk (Kd.R_drew HO_36.out)
                      replace BK111 := Aside0.mk (blk_drew BK111.out)
                      replace HB := Aside0.mk (below_drew1 HB.out)
                      refine start_ (n := 14) (S := fun w' => True) (ds := []) #[false, false, false, false, false, false, false, false, false, false, false, false, false, false] (by kernel_rfl) rfl rfl trivial (fun hHeld => ?_); refine with_tabW class_Made.tab15 class_Made.bits15 (fun HT_ HW_ => ?_)
                      generalize w46.drew = w47 at HO_6 HO_36 BK111 HB hHeld ⊢
                      refine pu_ 0 44 (bm_ 14 1) HT_ ?_
                      refine pu_ 1 45 (bm_ 14 3) HT_ ?_
                      refine pu_ 2 46 (bm_ 14 7) HT_ ?_
                      refine pn_ 3 47 (bm_ 14 15) HT_ ?_
                      refine pn_ 4 48 (bm_ 14 31) HT_ ?_
                      refine pn_ 5 49 (bm_ 14 63) HT_ ?_
                      refine pn_ 6 50 (bm_ 14 127) HT_ ?_
                      refine pn_ 7 51 (bm_ 14 255) HT_ ?_
                      refine pn_ 8 52 (bm_ 14 511) HT_ ?_
                      refine pn_ 9 53 (bm_ 14 1023) HT_ ?_
                      refine pn_ 10 54 (bm_ 14 2047) HT_ ?_
                      refine pn_ 11 55 (bm_ 14 4095) HT_ ?_
                      refine pn_ 12 56 (bm_ 14 8191) HT_ ?_
                      refine pu_ 13 57 (bm_ 14 16383) HT_ ?_
                      refine done_ (done_of HT_.out (by kernel_rfl)) ?_
                      obtain ⟨hcz48_0, hcz48_1, hfz48_0, hfz48_1⟩ := bo2_ BK111
                      try go_wp2_with (first | ((with_reducible refine gate_builtin (b := .append) (xs := #[.tmp 72, .tmp 74]) rfl ?_); at_builtin; refine Kd.R_append k28 (w0 := w) w.heap.size rfl (.tmp 72) (.tmp 74) 25 28 (.agg #[(.int .i32 0), (.int .i32 0)]) 8 rfl Tryz.underlying25 info28 rfl (by decide) (by omega) (.slice Ao45 x6_2.length co45) x6_2 (⟨(rd_T28 x36_2 x38_2).f0, (rd_T28 x36_2 x38_2).f1⟩ : S28) [.int .i32 ((rd_T28 x36_2 x38_2).f0), .int .i32 ((rd_T28 x36_2 x38_2).f1)] (fun k_ => some k_ ≠ (.slice (some ad110) x36_2.length co15 : Value).ownBlock ∧ k_ ≠ gb111) (fun _ => False) rfl rfl ?aP (fun _ hk => hk.elim) ?aF ?aO ?aB ?aS ?aL ?_; (case aP => exact k28_mkM _ _ _ (⟨(rd_T28 x36_2 x38_2).f0, (rd_T28 x36_2 x38_2).f1⟩ : S28)); (case aB => exact (bl_ HB).out); (case aF => exact (fun k_ hk => ⟨Kd.fresh' (kx_ HO_36) k_ hk, Kd.freshB (g := gb111) (o := .cells #[.int .i32 ((rd_T28 x36_2 x38_2).f0), .int .i32 ((rd_T28 x36_2 x38_2).f1)] 28 (0, 0)) (by (with_reducible repeat (first | refine blk_drewN ?_ _ | refine blk_drew ?_ | refine blk_alloc ?_ _)); exact BK111.out) k_ hk⟩)); (case aO => exact (kr_ HO_6)); (case aS => exact (below_size (bl_ HB).out)); (case aL => have := LMc42.out; omega); intro v119 w49 ho hb hg hat; rw [← Ny118.out] at ho; have n0_ := Aside0.mk (Kd.R_after (ok := (fun k_ => k_ ≠ gb111)) (by (with_reducible repeat (first | apply Kd.R_alloc | apply Kd.R_drewN | apply Kd.R_drew)); exact Kd.R_mono HO_36.out (fun _ hk => ⟨hk.2, hk.1⟩)) hg hat); have n1_ := Aside0.mk (blk_grown (g := gb111) (o := .cells #[.int .i32 ((rd_T28 x36_2 x38_2).f0), .int .i32 ((rd_T28 x36_2 x38_2).f1)] 28 (0, 0)) (by (with_reducible repeat (first | refine blk_drewN ?_ _ | refine blk_drew ?_ | refine blk_alloc ?_ _)); exact BK111.out) hg (Kd.R_away HO_6.out (fun _ hk => hk.2))); have n2_ := Aside0.mk (hb); have n3_ := Aside0.mk (ho); clear HO_36; clear BK111; clear HB; clear HO_6; have HO_36 := n0_; have BK111 := n1_; have HB := n2_; have HO120 := n3_; clear n0_ n1_ n2_ n3_; clear ho hb hg hat))
                      (try simp only [← hl36_2])
                      go_roundg k2
                      case measure => have := HK1.out; have := HK2.out; omega
                      case rel => exact ⟨(y118), (x36_2), (wrap64 (x38_2 + 1)), eq_, H', ⟨by have := HK1.out; have := HK2.out; omega⟩, ⟨by (try simp only [hl36_2]); (with_reducible repeat (first | apply Kd.R_alloc | apply Kd.R_drewN | apply Kd.R_drew)); exact Kd.R_mono HO120.out (fun _ hk => hk.1)⟩, ⟨by (try simp only [hl36_2]); (with_reducible repeat (first | apply Kd.R_alloc | apply Kd.R_drewN | apply Kd.R_drew)); exact Kd.R_mono HO_36.out (fun _ hk => hk.2)⟩, (bl_ HB)⟩
                    · rw [if_neg c42] at H
                      exact absurd H (by simp)
                · rw [if_neg c19] at H
                  exact absurd H (by simp)
              · rw [if_neg c18] at H
                exact absurd H (by simp)
            · rw [if_neg c17] at H
              have c17b0 : decide (x38_2 < (x3_1.length : Int)) = false := decide_eq_false c17
              clear c17
              (try (have c17y0_0 := c17b0; simp only [hl36_2] at c17y0_0))
              obtain rfl := Option.some.inj H
              go_wp2
              go_ret
              exact ⟨_, by first | rfl | (simp [errW_none, errW_some] <;> rfl) | (simp [*, errW_none, errW_some] <;> first | rfl | exact given_isEmpty _ | exact (given_isEmpty _).symm), by (with_reducible repeat (first | apply Kd.R_alloc | apply Kd.R_drewN | apply Kd.R_drew)); exact Kd.R_mono HO_6.out (fun _ hk => trivial), by repeat (first | (with_reducible first | exact HB.out | apply below_alloc | apply pw_below_drewN | apply below_drew1) | exact HB.out)⟩

/-! ### class_Class_Not: function 18 -/
def class_Class_Not.l0 : Nat → List (S28) → Int → List (S28) → Int → Int → Option ((List (S28)))
  | 0, _, _, _, _, _ => none
  | k + 1, x3, x4, x7, x8, x9 => if x9 < x8 then (if 0 ≤ x9 then (if x9 < (x7.length : Int) then (if ((rd_T28 x7 x9).f0) > x4 then (if x3.length < 17592186044416 then (class_Class_Not.l0 k (x3 ++ [(⟨x4, wrap32 (((rd_T28 x7 x9).f0) - 1)⟩ : S28)]) (wrap32 (((rd_T28 x7 x9).f1) + 1)) x7 x8 (wrap64 (x9 + 1))) else (none)) else (class_Class_Not.l0 k x3 (wrap32 (((rd_T28 x7 x9).f1) + 1)) x7 x8 (wrap64 (x9 + 1)))) else (none)) else (none)) else (if x4 ≤ 1114111 then (if x3.length < 17592186044416 then (some (x3 ++ [(⟨x4, 1114111⟩ : S28)])) else (none)) else (some x3))
def class_Class_Not.f (k : Nat) (l0 : List (S28)) : Option ((List (S28))) := class_Class_Not.l0 k ([] : List (S28)) 0 l0 (l0.length : Int) 0
theorem class_Class_Not.mono_l : ∀ k, (∀ y0 y1 y2 y3 y4, LeO (class_Class_Not.l0 k y0 y1 y2 y3 y4) (class_Class_Not.l0 (k + 1) y0 y1 y2 y3 y4))
  | 0 => fun _ _ _ _ _ r h => by simp [class_Class_Not.l0] at h
  | k + 1 => by
    have ih0 := class_Class_Not.mono_l k
    · intro y0 y1 y2 y3 y4
      unfold class_Class_Not.l0
      repeat' first
      | (with_reducible exact ih0 _ _ _ _ _)
      | (with_reducible exact LeO.refl _)
      | (with_reducible exact LeO.none _)
      | (with_reducible refine LeO.ite ?_ ?_)
      | (with_reducible refine LeO.bind ?_ (fun _ => ?_))
      | exact ih0 _ _ _ _ _
      | exact LeO.none _
      | refine LeO.ite ?_ ?_
      | refine LeO.bind ?_ (fun _ => ?_)
theorem class_Class_Not.mono : ∀ a0 k, LeO (class_Class_Not.f k a0) (class_Class_Not.f (k + 1) a0) := by
  intro a0 k
  have ih0 := class_Class_Not.mono_l k
  unfold class_Class_Not.f
  repeat' first
      | (with_reducible exact ih0 _ _ _ _ _)
      | (with_reducible exact LeO.refl _)
      | (with_reducible exact LeO.none _)
      | (with_reducible refine LeO.ite ?_ ?_)
      | (with_reducible refine LeO.bind ?_ (fun _ => ?_))
      | exact ih0 _ _ _ _ _
      | exact LeO.none _
      | refine LeO.ite ?_ ?_
      | refine LeO.bind ?_ (fun _ => ?_)
set_option maxHeartbeats 64000000 in
set_option maxRecDepth 100000 in
theorem class_Class_Not.calls (k : Nat) (A0 : Option Addr) (c0 : Nat) (l0 : List (S28)) (r : List (S28)) (w : World) (hr0 : Kd.C k28 w A0 l0.length l0) (hc0 : l0.length ≤ c0) (h : class_Class_Not.f k l0 = some r) :
    Calls Tryz.prog 18 #[.slice A0 l0.length c0] w fun e w' => ∃ v0_ : Value, e = .returned (v0_) ∧ Kd.R k28 28 w' w.heap.size (fun _ => True) v0_ r ∧ Below w.heap.size w w' := by
  have hu28 := Tryz.underlying28
  have HR0 := Aside0.mk hr0
  have HC0 := Aside0.mk hc0
  clear hr0 hc0
  have HB := Aside0.mk (Below.refl w.heap.size w)
  have H : (class_Class_Not.l0 k ([] : List (S28)) 0 l0 (l0.length : Int) 0) = some r := h
  clear h
  have H' := Aside0.mk H
  clear H
  go_enter Tryz.func18, Tryz.ntmps18
  go_wp2
  go_loopg [3, 4, 9] k (fun kq v3 v4 v9 w' => ∃ (x3_1 : List (S28)) (x4_1 : Int) (x9_1 : Int), v4 = .int .i32 x4_1 ∧ v9 = .int .i64 x9_1 ∧ Aside0 (class_Class_Not.l0 kq x3_1 x4_1 l0 (l0.length : Int) x9_1 = some r) ∧ Aside0 (kq ≤ k) ∧ Aside0 (Kd.R k28 28 w' w.heap.size (fun _ => True) v3 x3_1) ∧ Aside0 (Below w.heap.size w w'))
  case atStart => exact ⟨(([] : List (S28))), (0), (0), eq_, eq_, H', ⟨Nat.le_refl _⟩, ⟨by first | exact Kd.R_nil _ _ _ _ _ | exact Kd.N_nil _ _ _ _ _ | exact Kd.V_nil _ _ _ _ _ | exact Kd.Q_nil _ _ _ _ _ | exact Kd.S_nil _ _ _ _ _⟩, (bl_ HB)⟩
  case round =>
    clear H'
    try clear c1
    obtain ⟨x3_1, x4_1, x9_1, rfl, rfl, HA, HK1, HO_3, HB⟩ := hrel
    cases gk with
    | zero => exact absurd HA.out (by simp [class_Class_Not.l0])
    | succ k1 =>
      have H := HA.out
      clear HA
      simp only [class_Class_Not.l0] at H
      by_cases c2 : x9_1 < (l0.length : Int)
      · rw [if_pos c2] at H
        have c2b0 : decide (x9_1 < (l0.length : Int)) = true := decide_eq_true c2
        clear c2
        by_cases c3 : 0 ≤ x9_1
        · rw [if_pos c3] at H
          have c3b0 : decide (0 ≤ x9_1) = true := decide_eq_true c3
          clear c3
          by_cases c4 : x9_1 < (l0.length : Int)
          · rw [if_pos c4] at H
            have c4b0 : decide (x9_1 < (l0.length : Int)) = true := decide_eq_true c4
            clear c4
            by_cases c5 : ((rd_T28 l0 x9_1).f0) > x4_1
            · rw [if_pos c5] at H
              have c5b0 : decide (x4_1 < ((rd_T28 l0 x9_1).f0)) = true := decide_eq_true c5
              clear c5
              by_cases c6 : x3_1.length < 17592186044416
              · rw [if_pos c6] at H
                have LMc6 := Aside0.mk c6
                clear c6
                obtain ⟨y123, hy123⟩ : ∃ y_ : List (S28), y_ = (x3_1 ++ [(⟨x4_1, wrap32 (((rd_T28 l0 x9_1).f0) - 1)⟩ : S28)]) := ⟨_, rfl⟩
                replace H : (class_Class_Not.l0 k1 y123 (wrap32 (((rd_T28 l0 x9_1).f1) + 1)) l0 (l0.length : Int) (wrap64 (x9_1 + 1))) = some r := by first | (rw [hy123]; with_reducible exact H) | (have H2_ := (Option.bind_some _ _).symm.trans H; rw [hy123]; with_reducible exact H2_) | (have H2_ := (Option.bind_some _ _).symm.trans H; with_reducible exact H2_) | with_reducible exact H | (rw [hy123]; exact H) | exact H
                have Ny123 := Aside0.mk hy123
                clear hy123
                have H' := Aside0.mk H
                clear H
                have p121 : 0 ≤ (x9_1 : Int) := of_decide_eq_true (by first | (with_reducible assumption) | assumption)
                have q121 : x9_1 < (l0.length : Int) := of_decide_eq_true (by first | (with_reducible assumption) | assumption)
                obtain ⟨ad121, e121, hx121_0, hx121_1⟩ := at_T28 HR0.out x9_1 p121 q121
                cases e121
                replace hx121_0 := (HB.out.cell (World.block_lt_of_cell? w _ hx121_0)).trans hx121_0
                replace hx121_1 := (HB.out.cell (World.block_lt_of_cell? w _ hx121_1)).trans hx121_1
                replace p121 := eq_true p121
                replace q121 := eq_true q121
                go_wp2_with (first | ((with_reducible refine gate_dst (N := 6) rfl ?_); refine be_ 6 #[.int .i32 0, .int .i32 0] 28 ?_; intro gb122 hg w7 hbox hb; have BK122 := Aside0.mk (hbox); have GW122 := sz_ HB hg; have GE122 := sz_ HB hg; replace HO_3 := Aside0.mk (Kd.R_below (Kd.R_elderB (kr_ HO_3) gb122 (Nat.le_of_eq hg.symm)) hb); replace HB := Aside0.mk (below_step (bl_ HB).out hb); clear hb hbox hg; obtain ⟨hcz8_0, hcz8_1, hfz8_0, hfz8_1⟩ := bo2_ BK122) | ((with_reducible refine gate_builtin (b := .append) (xs := #[.tmp 17, .tmp 23]) rfl ?_); at_builtin; refine Kd.R_append k28 (w0 := w) w.heap.size rfl (.tmp 17) (.tmp 23) 25 28 (.agg #[(.int .i32 0), (.int .i32 0)]) 8 rfl Tryz.underlying25 info28 rfl (by decide) (by omega) u3 x3_1 (⟨x4_1, wrap32 (((rd_T28 l0 x9_1).f0) - 1)⟩ : S28) [.int .i32 x4_1, .int .i32 (wrap32 (((rd_T28 l0 x9_1).f0) - 1))] (fun k_ => k_ ≠ gb122) (fun _ => False) rfl (by first | (go_simp; done) | (go_simp; rfl)) ?aP (fun _ hk => hk.elim) ?aF ?aO ?aB ?aS ?aL ?_; (case aP => exact k28_mkM _ _ _ (⟨x4_1, wrap32 (((rd_T28 l0 x9_1).f0) - 1)⟩ : S28)); (case aB => exact (bl_ HB).out); (case aF => exact (fun k_ hk => Kd.freshB (g := gb122) (o := .cells #[.int .i32 ((rd_T28 l0 x9_1).f0), .int .i32 ((rd_T28 l0 x9_1).f1)] 28 (0, 0)) (by (with_reducible repeat (first | refine blk_drewN ?_ _ | refine blk_drew ?_ | refine blk_alloc ?_ _)); refine blk_put (cs := #[.int .i32 ((rd_T28 l0 x9_1).f0), .int .i32 0]) ?_ 1 _ rfl; (with_reducible repeat (first | refine blk_drewN ?_ _ | refine blk_drew ?_ | refine blk_alloc ?_ _)); refine blk_put (cs := #[.int .i32 0, .int .i32 0]) ?_ 0 _ rfl; (with_reducible repeat (first | refine blk_drewN ?_ _ | refine blk_drew ?_ | refine blk_alloc ?_ _)); exact BK122.out) k_ hk)); (case aO => exact (by (with_reducible repeat (first | apply Kd.R_alloc | apply Kd.R_drewN | apply Kd.R_drew)); exact Kd.R_mono (Kd.R_far (p := ⟨gb122, 1, none⟩) (Kd.R_far (p := ⟨gb122, 0, none⟩) (Kd.R_mono HO_3.out (fun k_ hk => (⟨hk, hk.2⟩ : _ ∧ k_ ≠ gb122))) (fun _ hk => hk.2) (.int .i32 ((rd_T28 l0 x9_1).f0))) (fun _ hk => hk.2) (.int .i32 ((rd_T28 l0 x9_1).f1))) (fun _ hk => hk.1.2))); (case aS => exact (below_size (bl_ HB).out)); (case aL => have := LMc6.out; omega); intro v124 w9 ho hb hg hat; rw [← Ny123.out] at ho; have n0_ := Aside0.mk (blk_grown (g := gb122) (o := .cells #[.int .i32 ((rd_T28 l0 x9_1).f0), .int .i32 ((rd_T28 l0 x9_1).f1)] 28 (0, 0)) (by (with_reducible repeat (first | refine blk_drewN ?_ _ | refine blk_drew ?_ | refine blk_alloc ?_ _)); refine blk_put (cs := #[.int .i32 ((rd_T28 l0 x9_1).f0), .int .i32 0]) ?_ 1 _ rfl; (with_reducible repeat (first | refine blk_drewN ?_ _ | refine blk_drew ?_ | refine blk_alloc ?_ _)); refine blk_put (cs := #[.int .i32 0, .int .i32 0]) ?_ 0 _ rfl; (with_reducible repeat (first | refine blk_drewN ?_ _ | refine blk_drew ?_ | refine blk_alloc ?_ _)); exact BK122.out) hg (Kd.R_away HO_3.out (fun _ hk => hk.2))); have n1_ := Aside0.mk (hb); have n2_ := Aside0.mk (ho); clear BK122; clear HB; clear HO_3; have BK122 := n0_; have HB := n1_; have HO125 := n2_; clear n0_ n1_ n2_; clear ho hb hg hat; obtain ⟨hcz10_0, hcz10_1, hfz10_0, hfz10_1⟩ := bo2_ BK122))
                go_roundg k1
                case measure => have := HK1.out; omega
                case rel => exact ⟨(y123), (wrap32 (((rd_T28 l0 x9_1).f1) + 1)), (wrap64 (x9_1 + 1)), eq_, eq_, H', ⟨by have := HK1.out; omega⟩, ⟨by (with_reducible repeat (first | apply Kd.R_alloc | apply Kd.R_drewN | apply Kd.R_drew)); exact Kd.R_mono HO125.out (fun _ hk => trivial)⟩, (bl_ HB)⟩
              · rw [if_neg c6] at H
                exact absurd H (by simp)
            · rw [if_neg c5] at H
              have c5b0 : decide (x4_1 < ((rd_T28 l0 x9_1).f0)) = false := decide_eq_false c5
              clear c5
              have H' := Aside0.mk H
              clear H
              have p121 : 0 ≤ (x9_1 : Int) := of_decide_eq_true (by first | (with_reducible assumption) | assumption)
              have q121 : x9_1 < (l0.length : Int) := of_decide_eq_true (by first | (with_reducible assumption) | assumption)
              obtain ⟨ad121, e121, hx121_0, hx121_1⟩ := at_T28 HR0.out x9_1 p121 q121
              cases e121
              replace hx121_0 := (HB.out.cell (World.block_lt_of_cell? w _ hx121_0)).trans hx121_0
              replace hx121_1 := (HB.out.cell (World.block_lt_of_cell? w _ hx121_1)).trans hx121_1
              replace p121 := eq_true p121
              replace q121 := eq_true q121
              go_wp2_with (first | ((with_reducible refine gate_dst (N := 6) rfl ?_); refine be_ 6 #[.int .i32 0, .int .i32 0] 28 ?_; intro gb122 hg w11 hbox hb; have BK122 := Aside0.mk (hbox); have GW122 := sz_ HB hg; have GE122 := sz_ HB hg; replace HO_3 := Aside0.mk (Kd.R_below (Kd.R_elderB (kr_ HO_3) gb122 (Nat.le_of_eq hg.symm)) hb); replace HB := Aside0.mk (below_step (bl_ HB).out hb); clear hb hbox hg; obtain ⟨hcz12_0, hcz12_1, hfz12_0, hfz12_1⟩ := bo2_ BK122))
              go_roundg k1
              case measure => have := HK1.out; omega
              case rel => exact ⟨(x3_1), (wrap32 (((rd_T28 l0 x9_1).f1) + 1)), (wrap64 (x9_1 + 1)), eq_, eq_, H', ⟨by have := HK1.out; omega⟩, ⟨by (with_reducible repeat (first | apply Kd.R_alloc | apply Kd.R_drewN | apply Kd.R_drew)); exact Kd.R_mono (Kd.R_far (p := ⟨gb122, 1, none⟩) (Kd.R_far (p := ⟨gb122, 0, none⟩) (Kd.R_mono HO_3.out (fun k_ hk => (⟨hk, hk.2⟩ : _ ∧ k_ ≠ gb122))) (fun _ hk => hk.2) (.int .i32 ((rd_T28 l0 x9_1).f0))) (fun _ hk => hk.2) (.int .i32 ((rd_T28 l0 x9_1).f1))) (fun _ hk => trivial)⟩, (bl_ HB)⟩
          · rw [if_neg c4] at H
            exact absurd H (by simp)
        · rw [if_neg c3] at H
          exact absurd H (by simp)
      · rw [if_neg c2] at H
        have c2b0 : decide (x9_1 < (l0.length : Int)) = false := decide_eq_false c2
        clear c2
        by_cases c13 : x4_1 ≤ 1114111
        · rw [if_pos c13] at H
          have c13b0 : decide (x4_1 ≤ 1114111) = true := decide_eq_true c13
          clear c13
          by_cases c14 : x3_1.length < 17592186044416
          · rw [if_pos c14] at H
            have LMc14 := Aside0.mk c14
            clear c14
            obtain ⟨y126, hy126⟩ : ∃ y_ : List (S28), y_ = (x3_1 ++ [(⟨x4_1, 1114111⟩ : S28)]) := ⟨_, rfl⟩
            replace H : (some y126) = some r := by first | (rw [hy126]; with_reducible exact H) | (have H2_ := (Option.bind_some _ _).symm.trans H; rw [hy126]; with_reducible exact H2_) | (have H2_ := (Option.bind_some _ _).symm.trans H; with_reducible exact H2_) | with_reducible exact H | (rw [hy126]; exact H) | exact H
            have Ny126 := Aside0.mk hy126
            clear hy126
            obtain rfl := Option.some.inj H
            go_wp2_with (first | ((with_reducible refine gate_builtin (b := .append) (xs := #[.tmp 31, .tmp 34]) rfl ?_); at_builtin; refine Kd.R_append k28 (w0 := w) w.heap.size rfl (.tmp 31) (.tmp 34) 25 28 (.agg #[(.int .i32 0), (.int .i32 0)]) 8 rfl Tryz.underlying25 info28 rfl (by decide) (by omega) u3 x3_1 (⟨x4_1, 1114111⟩ : S28) [.int .i32 x4_1, .int .i32 1114111] (fun _ => True) (fun _ => False) rfl rfl ?aP (fun _ hk => hk.elim) ?aF ?aO ?aB ?aS ?aL ?_; (case aP => exact k28_mkM _ _ _ (⟨x4_1, 1114111⟩ : S28)); (case aB => exact (bl_ HB).out); (case aF => exact (fun _ _ => trivial)); (case aO => exact (kr_ HO_3)); (case aS => exact (below_size (bl_ HB).out)); (case aL => have := LMc14.out; omega); intro v127 w15 ho hb hg hat; rw [← Ny126.out] at ho; have n0_ := Aside0.mk (hb); have n1_ := Aside0.mk (ho); clear HB; clear HO_3; have HB := n0_; have HO128 := n1_; clear n0_ n1_; clear ho hb hg hat))
            go_ret
            exact ⟨_, by first | rfl | (simp [errW_none, errW_some] <;> rfl) | (simp [*, errW_none, errW_some] <;> first | rfl | exact given_isEmpty _ | exact (given_isEmpty _).symm), by (with_reducible repeat (first | apply Kd.R_alloc | apply Kd.R_drewN | apply Kd.R_drew)); exact HO128.out, by repeat (first | (with_reducible first | exact HB.out | apply below_alloc | apply pw_below_drewN | apply below_drew1) | exact HB.out)⟩
          · rw [if_neg c14] at H
            exact absurd H (by simp)
        · rw [if_neg c13] at H
          have c13b0 : decide (x4_1 ≤ 1114111) = false := decide_eq_false c13
          clear c13
          obtain rfl := Option.some.inj H
          go_wp2
          go_ret
          exact ⟨_, by first | rfl | (simp [errW_none, errW_some] <;> rfl) | (simp [*, errW_none, errW_some] <;> first | rfl | exact given_isEmpty _ | exact (given_isEmpty _).symm), by (with_reducible repeat (first | apply Kd.R_alloc | apply Kd.R_drewN | apply Kd.R_drew)); exact HO_3.out, by repeat (first | (with_reducible first | exact HB.out | apply below_alloc | apply pw_below_drewN | apply below_drew1) | exact HB.out)⟩

end Go.Proofs.YtnpohgoacbpcjaaGreatDoor.P
