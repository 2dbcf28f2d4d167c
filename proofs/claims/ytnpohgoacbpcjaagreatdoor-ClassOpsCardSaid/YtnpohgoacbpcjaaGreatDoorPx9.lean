-- written by a program of this session (wip/p2)
import Derived.Test.YtnpohgoacbpcjaaGreatDoorPx0
namespace Go.Proofs.YtnpohgoacbpcjaaGreatDoor.P
open Go.RowKit Go.Proofs.YtnpohgoacbpcjaaGreatDoorW.PrintWords Go.Proofs.YtnpohgoacbpcjaaGreatDoorW.PrintLast Go.Proofs.YtnpohgoacbpcjaaGreatDoorW.PrintMore
attribute [local go_sem] max2_int min2_int max_two min_two max_three min_three max_four min_four   -- for this text's walks alone
set_option linter.unusedVariables false
set_option linter.unusedSimpArgs false

/-! ### florinlaw10_few: function 10 -/
def florinlaw10_few.l0 : Nat → List (List (S28)) → Int → Int → Option (Bool)
  | 0, _, _, _ => none
  | k + 1, x5, x6, x7 => if x7 < x6 then (if 0 ≤ x7 then (if x7 < (x5.length : Int) then (if ((rd_L2 x5 x7).length : Int) > 30 then (some false) else (florinlaw10_few.l0 k x5 x6 (wrap64 (x7 + 1)))) else (none)) else (none)) else (some true)
def florinlaw10_few.f (k : Nat) (l0 : List (List (S28))) : Option (Bool) := florinlaw10_few.l0 k l0 (l0.length : Int) 0
theorem florinlaw10_few.mono_l : ∀ k, (∀ y0 y1 y2, LeO (florinlaw10_few.l0 k y0 y1 y2) (florinlaw10_few.l0 (k + 1) y0 y1 y2))
  | 0 => fun _ _ _ r h => by simp [florinlaw10_few.l0] at h
  | k + 1 => by
    have ih0 := florinlaw10_few.mono_l k
    · intro y0 y1 y2
      unfold florinlaw10_few.l0
      repeat' first
      | (with_reducible exact ih0 _ _ _)
      | (with_reducible exact LeO.refl _)
      | (with_reducible exact LeO.none _)
      | (with_reducible refine LeO.ite ?_ ?_)
      | (with_reducible refine LeO.bind ?_ (fun _ => ?_))
      | exact ih0 _ _ _
      | exact LeO.none _
      | refine LeO.ite ?_ ?_
      | refine LeO.bind ?_ (fun _ => ?_)
theorem florinlaw10_few.mono : ∀ a0 k, LeO (florinlaw10_few.f k a0) (florinlaw10_few.f (k + 1) a0) := by
  intro a0 k
  have ih0 := florinlaw10_few.mono_l k
  unfold florinlaw10_few.f
  repeat' first
      | (with_reducible exact ih0 _ _ _)
      | (with_reducible exact LeO.refl _)
      | (with_reducible exact LeO.none _)
      | (with_reducible refine LeO.ite ?_ ?_)
      | (with_reducible refine LeO.bind ?_ (fun _ => ?_))
      | exact ih0 _ _ _
      | exact LeO.none _
      | refine LeO.ite ?_ ?_
      | refine LeO.bind ?_ (fun _ => ?_)
set_option maxHeartbeats 64000000 in
set_option maxRecDepth 100000 in
theorem florinlaw10_few.calls (k : Nat) (A0 : Option Addr) (c0 : Nat) (l0 : List (List (S28))) (r : Bool) (w : World) (hr0 : Kd.C (Kd.slice 28 k28) w A0 l0.length l0) (hc0 : l0.length ≤ c0) (h : florinlaw10_few.f k l0 = some r) :
    Calls Tryz.prog 10 #[.slice A0 l0.length c0] w fun e w' => e = .returned (.bool r) ∧ Drawn0 w w' := by
  have HR0 := Aside0.mk hr0
  have HC0 := Aside0.mk hc0
  clear hr0 hc0
  have H : (florinlaw10_few.l0 k l0 (l0.length : Int) 0) = some r := h
  clear h
  have H' := Aside0.mk H
  clear H
  go_enter Tryz.func10, Tryz.ntmps10
  go_wp2
  go_loopg [7] k (fun kq v7 w' => ∃ (x7_1 : Int), v7 = .int .i64 x7_1 ∧ Aside0 (florinlaw10_few.l0 kq l0 (l0.length : Int) x7_1 = some r) ∧ Aside0 (kq ≤ k) ∧ Drawn0 w w')
  case atStart => exact ⟨(0), eq_, H', ⟨Nat.le_refl _⟩, by repeat (first | exact Drawn0.refl _ | apply Drawn0.step)⟩
  case round =>
    clear H'
    try clear c1
    obtain ⟨x7_1, rfl, HA, HK1, ⟨m1, rfl⟩⟩ := hrel
    cases gk with
    | zero => exact absurd HA.out (by simp [florinlaw10_few.l0])
    | succ k1 =>
      have H := HA.out
      clear HA
      simp only [florinlaw10_few.l0] at H
      by_cases c2 : x7_1 < (l0.length : Int)
      · rw [if_pos c2] at H
        have c2b0 : decide (x7_1 < (l0.length : Int)) = true := decide_eq_true c2
        clear c2
        by_cases c3 : 0 ≤ x7_1
        · rw [if_pos c3] at H
          have c3b0 : decide (0 ≤ x7_1) = true := decide_eq_true c3
          clear c3
          by_cases c4 : x7_1 < (l0.length : Int)
          · rw [if_pos c4] at H
            have c4b0 : decide (x7_1 < (l0.length : Int)) = true := decide_eq_true c4
            clear c4
            by_cases c5 : ((rd_L2 l0 x7_1).length : Int) > 30
            · rw [if_pos c5] at H
              have c5b0 : decide (30 < ((rd_L2 l0 x7_1).length : Int)) = true := decide_eq_true c5
              have c5b1 : decide (30 < (rd_L2 l0 x7_1).length) = true := decide_eq_true (by omega)
              clear c5
              obtain rfl := Option.some.inj H
              have p261 : 0 ≤ (x7_1 : Int) := of_decide_eq_true (by first | (with_reducible assumption) | assumption)
              have q261 : x7_1 < (l0.length : Int) := of_decide_eq_true (by first | (with_reducible assumption) | assumption)
              obtain ⟨ad261, A261_0, c261_0, e261, hx261_0, hl261_0, hi261_0⟩ := at_L2 HR0.out x7_1 p261 q261
              cases e261
              have HR261_0 := Aside0.mk hi261_0
              have HC261_0 := Aside0.mk hl261_0
              clear hi261_0 hl261_0
              replace p261 := eq_true p261
              replace q261 := eq_true q261
              go_wp2
              go_ret
              exact ⟨by first | rfl | (simp; done) | (simp [*]; done) | (simp; first | exact given_isEmpty _ | exact (given_isEmpty _).symm) | (unfold wrap64; omega) | (congr 1; unfold wrap64; omega), by repeat (first | exact Drawn0.refl _ | apply Drawn0.step)⟩
            · rw [if_neg c5] at H
              have c5b0 : decide (30 < ((rd_L2 l0 x7_1).length : Int)) = false := decide_eq_false c5
              have c5b1 : decide (30 < (rd_L2 l0 x7_1).length) = false := decide_eq_false (by omega)
              clear c5
              have H' := Aside0.mk H
              clear H
              have p261 : 0 ≤ (x7_1 : Int) := of_decide_eq_true (by first | (with_reducible assumption) | assumption)
              have q261 : x7_1 < (l0.length : Int) := of_decide_eq_true (by first | (with_reducible assumption) | assumption)
              obtain ⟨ad261, A261_0, c261_0, e261, hx261_0, hl261_0, hi261_0⟩ := at_L2 HR0.out x7_1 p261 q261
              cases e261
              have HR261_0 := Aside0.mk hi261_0
              have HC261_0 := Aside0.mk hl261_0
              clear hi261_0 hl261_0
              replace p261 := eq_true p261
              replace q261 := eq_true q261
              go_wp2
              go_roundg k1
              case measure => have := HK1.out; omega
              case rel => exact ⟨(wrap64 (x7_1 + 1)), eq_, H', ⟨by have := HK1.out; omega⟩, by repeat (first | exact Drawn0.refl _ | apply Drawn0.step)⟩
          · rw [if_neg c4] at H
            exact absurd H (by simp)
        · rw [if_neg c3] at H
          exact absurd H (by simp)
      · rw [if_neg c2] at H
        have c2b0 : decide (x7_1 < (l0.length : Int)) = false := decide_eq_false c2
        clear c2
        obtain rfl := Option.some.inj H
        go_wp2
        go_ret
        exact ⟨by first | rfl | (simp; done) | (simp [*]; done) | (simp; first | exact given_isEmpty _ | exact (given_isEmpty _).symm) | (unfold wrap64; omega) | (congr 1; unfold wrap64; omega), by repeat (first | exact Drawn0.refl _ | apply Drawn0.step)⟩

/-! ### florinlaw10_bounds: function 12 -/
mutual
def florinlaw10_bounds.l0 : Nat → List Int → List (List (S28)) → Int → Int → Option (List Int)
  | 0, _, _, _, _ => none
  | k + 1, x3, x12, x13, x14 => if x14 < x13 then (if 0 ≤ x14 then (if x14 < (x12.length : Int) then (florinlaw10_bounds.l1 k x3 x12 x13 x14 (rd_L2 x12 x14) ((rd_L2 x12 x14).length : Int) 0) else (none)) else (none)) else (some x3)
def florinlaw10_bounds.l1 : Nat → List Int → List (List (S28)) → Int → Int → List (S28) → Int → Int → Option (List Int)
  | 0, _, _, _, _, _, _, _ => none
  | k + 1, x3, x12, x13, x14, x18, x19, x20 => if x20 < x19 then (if 0 ≤ x20 then (if x20 < (x18.length : Int) then (florinlaw10_bounds.l2 k x3 (-1) x12 x13 x14 x18 x19 x20 ((rd_T28 x18 x20).f0) ((rd_T28 x18 x20).f1)) else (none)) else (none)) else (florinlaw10_bounds.l0 k x3 x12 x13 (wrap64 (x14 + 1)))
def florinlaw10_bounds.l2 : Nat → List Int → Int → List (List (S28)) → Int → Int → List (S28) → Int → Int → Int → Int → Option (List Int)
  | 0, _, _, _, _, _, _, _, _, _, _ => none
  | k + 1, x3, x8, x12, x13, x14, x18, x19, x20, x268000, x268001 => if x8 ≤ 1 then ((some (([wrap32 ((mn (mx x268000 (-1)) 1114112) + x8), wrap32 ((mn (mx x268001 (-1)) 1114112) + x8)] : List Int) : List Int)).bind fun y268 => (if x3.length + y268.length < 35184372088832 then (florinlaw10_bounds.l2 k (x3 ++ y268) (wrap32 (x8 + 1)) x12 x13 x14 x18 x19 x20 x268000 x268001) else (none))) else (florinlaw10_bounds.l1 k x3 x12 x13 x14 x18 x19 (wrap64 (x20 + 1)))
end
def florinlaw10_bounds.f (k : Nat) (l0 : List (List (S28))) : Option (List Int) := florinlaw10_bounds.l0 k (([(-1), 0, 1, 97, 1114110, 1114111, 1114112] : List Int)) l0 (l0.length : Int) 0
theorem florinlaw10_bounds.mono_l : ∀ k, (∀ y0 y1 y2 y3, LeO (florinlaw10_bounds.l0 k y0 y1 y2 y3) (florinlaw10_bounds.l0 (k + 1) y0 y1 y2 y3)) ∧ (∀ y0 y1 y2 y3 y4 y5 y6, LeO (florinlaw10_bounds.l1 k y0 y1 y2 y3 y4 y5 y6) (florinlaw10_bounds.l1 (k + 1) y0 y1 y2 y3 y4 y5 y6)) ∧ (∀ y0 y1 y2 y3 y4 y5 y6 y7 y8 y9, LeO (florinlaw10_bounds.l2 k y0 y1 y2 y3 y4 y5 y6 y7 y8 y9) (florinlaw10_bounds.l2 (k + 1) y0 y1 y2 y3 y4 y5 y6 y7 y8 y9))
  | 0 => ⟨fun _ _ _ _ r h => by simp [florinlaw10_bounds.l0] at h, fun _ _ _ _ _ _ _ r h => by simp [florinlaw10_bounds.l1] at h, fun _ _ _ _ _ _ _ _ _ _ r h => by simp [florinlaw10_bounds.l2] at h⟩
  | k + 1 => by
    obtain ⟨ih0, ih1, ih2⟩ := florinlaw10_bounds.mono_l k
    refine ⟨?_, ?_, ?_⟩
    · intro y0 y1 y2 y3
      unfold florinlaw10_bounds.l0
      repeat' first
      | (with_reducible exact ih0 _ _ _ _)
      | (with_reducible exact ih1 _ _ _ _ _ _ _)
      | (with_reducible exact ih2 _ _ _ _ _ _ _ _ _ _)
      | (with_reducible exact LeO.refl _)
      | (with_reducible exact LeO.none _)
      | (with_reducible refine LeO.ite ?_ ?_)
      | (with_reducible refine LeO.bind ?_ (fun _ => ?_))
      | exact ih0 _ _ _ _
      | exact ih1 _ _ _ _ _ _ _
      | exact ih2 _ _ _ _ _ _ _ _ _ _
      | exact LeO.none _
      | refine LeO.ite ?_ ?_
      | refine LeO.bind ?_ (fun _ => ?_)
    · intro y0 y1 y2 y3 y4 y5 y6
      unfold florinlaw10_bounds.l1
      repeat' first
      | (with_reducible exact ih0 _ _ _ _)
      | (with_reducible exact ih1 _ _ _ _ _ _ _)
      | (with_reducible exact ih2 _ _ _ _ _ _ _ _ _ _)
      | (with_reducible exact LeO.refl _)
      | (with_reducible exact LeO.none _)
      | (with_reducible refine LeO.ite ?_ ?_)
      | (with_reducible refine LeO.bind ?_ (fun _ => ?_))
      | exact ih0 _ _ _ _
      | exact ih1 _ _ _ _ _ _ _
      | exact ih2 _ _ _ _ _ _ _ _ _ _
      | exact LeO.none _
      | refine LeO.ite ?_ ?_
      | refine LeO.bind ?_ (fun _ => ?_)
    · intro y0 y1 y2 y3 y4 y5 y6 y7 y8 y9
      unfold florinlaw10_bounds.l2
      repeat' first
      | (with_reducible exact ih0 _ _ _ _)
      | (with_reducible exact ih1 _ _ _ _ _ _ _)
      | (with_reducible exact ih2 _ _ _ _ _ _ _ _ _ _)
      | (with_reducible exact LeO.refl _)
      | (with_reducible exact LeO.none _)
      | (with_reducible refine LeO.ite ?_ ?_)
      | (with_reducible refine LeO.bind ?_ (fun _ => ?_))
      | exact ih0 _ _ _ _
      | exact ih1 _ _ _ _ _ _ _
      | exact ih2 _ _ _ _ _ _ _ _ _ _
      | exact LeO.none _
      | refine LeO.ite ?_ ?_
      | refine LeO.bind ?_ (fun _ => ?_)
theorem florinlaw10_bounds.mono : ∀ a0 k, LeO (florinlaw10_bounds.f k a0) (florinlaw10_bounds.f (k + 1) a0) := by
  intro a0 k
  obtain ⟨ih0, ih1, ih2⟩ := florinlaw10_bounds.mono_l k
  unfold florinlaw10_bounds.f
  repeat' first
      | (with_reducible exact ih0 _ _ _ _)
      | (with_reducible exact ih1 _ _ _ _ _ _ _)
      | (with_reducible exact ih2 _ _ _ _ _ _ _ _ _ _)
      | (with_reducible exact LeO.refl _)
      | (with_reducible exact LeO.none _)
      | (with_reducible refine LeO.ite ?_ ?_)
      | (with_reducible refine LeO.bind ?_ (fun _ => ?_))
      | exact ih0 _ _ _ _
      | exact ih1 _ _ _ _ _ _ _
      | exact ih2 _ _ _ _ _ _ _ _ _ _
      | exact LeO.none _
      | refine LeO.ite ?_ ?_
      | refine LeO.bind ?_ (fun _ => ?_)
set_option maxHeartbeats 64000000 in
set_option maxRecDepth 100000 in
theorem florinlaw10_bounds.calls (k : Nat) (A0 : Option Addr) (c0 : Nat) (l0 : List (List (S28))) (r : List Int) (w : World) (hr0 : Kd.C (Kd.slice 28 k28) w A0 l0.length l0) (hc0 : l0.length ≤ c0) (h : florinlaw10_bounds.f k l0 = some r) :
    Calls Tryz.prog 12 #[.slice A0 l0.length c0] w fun e w' => ∃ v0_ : Value, e = .returned (v0_) ∧ Kd.R (Kd.int .i32) 21 w' w.heap.size (fun _ => True) v0_ r ∧ Below w.heap.size w w' := by
  have hu28 := Tryz.underlying28
  have HR0 := Aside0.mk hr0
  have HC0 := Aside0.mk hc0
  clear hr0 hc0
  have HB := Aside0.mk (Below.refl w.heap.size w)
  have H : (florinlaw10_bounds.l0 k (([(-1), 0, 1, 97, 1114110, 1114111, 1114112] : List Int)) l0 (l0.length : Int) 0) = some r := h
  clear h
  obtain ⟨y262, hy262⟩ : ∃ y_ : List Int, y_ = (([(-1), 0, 1, 97, 1114110, 1114111, 1114112] : List Int)) := ⟨_, rfl⟩
  replace H : (florinlaw10_bounds.l0 k y262 l0 (l0.length : Int) 0) = some r := by first | (rw [hy262]; with_reducible exact H) | (have H2_ := (Option.bind_some _ _).symm.trans H; rw [hy262]; with_reducible exact H2_) | (have H2_ := (Option.bind_some _ _).symm.trans H; with_reducible exact H2_) | with_reducible exact H | (rw [hy262]; exact H) | exact H
  have Ny262 := Aside0.mk hy262
  clear hy262
  have H' := Aside0.mk H
  clear H
  go_enter Tryz.func12, Tryz.ntmps12
  go_wp2_with (first | ((with_reducible refine gate_dst (N := 11) rfl ?_); refine Kd.R_lit (Kd.int .i32) _ 21 ?hg (N := 11) ?hd (xs := ([(-1), 0, 1, 97, 1114110, 1114111, 1114112] : List Int)) (inner := [.int .i32 (-1), .int .i32 0, .int .i32 1, .int .i32 97, .int .i32 1114110, .int .i32 1114111, .int .i32 1114112]) (ok := fun _ => True) (okp := fun _ => True) ?hr ?hp (fun _ hk => hk) trivial (Below.refl _ _) (Nat.le_refl _) (by simp) ?_; (case hd => rfl); (case hg => rfl); (case hr => first | (go_simp; done) | (go_simp; rfl)); (case hp => exact (Reps.one (show Kd.M (Kd.int .i32) _ _ _ (-1) [.int .i32 (-1)] from rfl) (Reps.one (show Kd.M (Kd.int .i32) _ _ _ 0 [.int .i32 0] from rfl) (Reps.one (show Kd.M (Kd.int .i32) _ _ _ 1 [.int .i32 1] from rfl) (Reps.one (show Kd.M (Kd.int .i32) _ _ _ 97 [.int .i32 97] from rfl) (Reps.one (show Kd.M (Kd.int .i32) _ _ _ 1114110 [.int .i32 1114110] from rfl) (Reps.one (show Kd.M (Kd.int .i32) _ _ _ 1114111 [.int .i32 1114111] from rfl) (Reps.one (show Kd.M (Kd.int .i32) _ _ _ 1114112 [.int .i32 1114112] from rfl) (Reps.none _ _))))))))); intro v263 w2 ho3 hb hg_ hnew_; clear hg_ hnew_; (first | rw [← Ny262.out] at ho3 | (simp only [Int.reduceToNat] at ho3; rw [← Ny262.out] at ho3)); have HO264 := Aside0.mk (Kd.R_lower ho3 (below_size (bl_ HB).out)); replace HB := Aside0.mk (below_step (bl_ HB).out hb); clear hb ho3))
  go_loopg [3, 14] k (fun kq v3 v14 w' => ∃ (x3_1 : List Int) (x14_1 : Int), v14 = .int .i64 x14_1 ∧ Aside0 (florinlaw10_bounds.l0 kq x3_1 l0 (l0.length : Int) x14_1 = some r) ∧ Aside0 (kq ≤ k) ∧ Aside0 (Kd.R (Kd.int .i32) 21 w' w.heap.size (fun _ => True) v3 x3_1) ∧ Aside0 (Below w.heap.size w w'))
  case atStart => exact ⟨(y262), (0), eq_, H', ⟨Nat.le_refl _⟩, ⟨by (with_reducible repeat (first | apply Kd.R_alloc | apply Kd.R_drewN | apply Kd.R_drew)); exact HO264.out⟩, (bl_ HB)⟩
  case round =>
    clear H'
    try clear c1
    try clear p2
    obtain ⟨x3_1, x14_1, rfl, HA, HK1, HO_3, HB⟩ := hrel
    cases gk with
    | zero => exact absurd HA.out (by simp [florinlaw10_bounds.l0])
    | succ k1 =>
      have H := HA.out
      clear HA
      simp only [florinlaw10_bounds.l0] at H
      by_cases c4 : x14_1 < (l0.length : Int)
      · rw [if_pos c4] at H
        have c4b0 : decide (x14_1 < (l0.length : Int)) = true := decide_eq_true c4
        clear c4
        by_cases c5 : 0 ≤ x14_1
        · rw [if_pos c5] at H
          have c5b0 : decide (0 ≤ x14_1) = true := decide_eq_true c5
          clear c5
          by_cases c6 : x14_1 < (l0.length : Int)
          · rw [if_pos c6] at H
            have c6b0 : decide (x14_1 < (l0.length : Int)) = true := decide_eq_true c6
            clear c6
            have H' := Aside0.mk H
            clear H
            have p265 : 0 ≤ (x14_1 : Int) := of_decide_eq_true (by first | (with_reducible assumption) | assumption)
            have q265 : x14_1 < (l0.length : Int) := of_decide_eq_true (by first | (with_reducible assumption) | assumption)
            obtain ⟨ad265, A265_0, c265_0, e265, hx265_0, hl265_0, hi265_0⟩ := at_L2 HR0.out x14_1 p265 q265
            cases e265
            replace hx265_0 := (HB.out.cell (World.block_lt_of_cell? w _ hx265_0)).trans hx265_0
            have HR265_0 := Aside0.mk hi265_0
            have HC265_0 := Aside0.mk hl265_0
            clear hi265_0 hl265_0
            replace p265 := eq_true p265
            replace q265 := eq_true q265
            go_wp2
            go_loopg [3, 20] k1 (fun kq v3 v20 w' => ∃ (x3_2 : List Int) (x20_2 : Int), v20 = .int .i64 x20_2 ∧ Aside0 (florinlaw10_bounds.l1 kq x3_2 l0 (l0.length : Int) x14_1 (rd_L2 l0 x14_1) ((rd_L2 l0 x14_1).length : Int) x20_2 = some r) ∧ Aside0 (kq ≤ k1) ∧ Aside0 (Kd.R (Kd.int .i32) 21 w' w.heap.size (fun _ => True) v3 x3_2) ∧ Aside0 (Below w.heap.size w w'))
            case atStart => exact ⟨(x3_1), (0), eq_, H', ⟨Nat.le_refl _⟩, ⟨by (with_reducible repeat (first | apply Kd.R_alloc | apply Kd.R_drewN | apply Kd.R_drew)); exact HO_3.out⟩, (bl_ HB)⟩
            case round =>
              clear H'
              try clear c1
              try clear c2
              try clear p2
              try clear q2
              try clear hx2
              try clear c4
              try clear c4b0
              try clear c5
              try clear c5b0
              try clear c6
              try clear c6b0
              try clear p6
              try clear hx265_0
              try clear p2
              try clear p265
              try clear q265
              obtain ⟨x3_2, x20_2, rfl, HA, HK2, HO_3, HB⟩ := hrel
              cases gk with
              | zero => exact absurd HA.out (by simp [florinlaw10_bounds.l1])
              | succ k2 =>
                have H := HA.out
                clear HA
                simp only [florinlaw10_bounds.l1] at H
                by_cases c7 : x20_2 < ((rd_L2 l0 x14_1).length : Int)
                · rw [if_pos c7] at H
                  have c7b0 : decide (x20_2 < ((rd_L2 l0 x14_1).length : Int)) = true := decide_eq_true c7
                  clear c7
                  by_cases c8 : 0 ≤ x20_2
                  · rw [if_pos c8] at H
                    have c8b0 : decide (0 ≤ x20_2) = true := decide_eq_true c8
                    clear c8
                    by_cases c9 : x20_2 < ((rd_L2 l0 x14_1).length : Int)
                    · rw [if_pos c9] at H
                      have c9b0 : decide (x20_2 < ((rd_L2 l0 x14_1).length : Int)) = true := decide_eq_true c9
                      clear c9
                      have H' := Aside0.mk H
                      clear H
                      have p266 : 0 ≤ (x20_2 : Int) := of_decide_eq_true (by first | (with_reducible assumption) | assumption)
                      have q266 : x20_2 < ((rd_L2 l0 x14_1).length : Int) := of_decide_eq_true (by first | (with_reducible assumption) | assumption)
                      obtain ⟨ad266, e266, hx266_0, hx266_1⟩ := at_T28 HR265_0.out x20_2 p266 q266
                      cases e266
                      replace hx266_0 := (HB.out.cell (World.block_lt_of_cell? w _ hx266_0)).trans hx266_0
                      replace hx266_1 := (HB.out.cell (World.block_lt_of_cell? w _ hx266_1)).trans hx266_1
                      replace p266 := eq_true p266
                      replace q266 := eq_true q266
                      go_wp2_with (first | ((with_reducible refine gate_dst (N := 7) rfl ?_); refine be_ 7 #[.int .i32 0, .int .i32 0] 28 ?_; intro gb267 hg w10 hbox hb; have BK267 := Aside0.mk (hbox); have GW267 := sz_ HB hg; have GE267 := sz_ HB hg; replace HO_3 := kb_ HO_3 hb; replace HB := Aside0.mk (below_step (bl_ HB).out hb); clear hb hbox hg; obtain ⟨hcz11_0, hcz11_1, hfz11_0, hfz11_1⟩ := bo2_ BK267))
                      go_loopg [3, 8] k2 (fun kq v3 v8 w' => ∃ (x3_3 : List Int) (x8_3 : Int), v8 = .int .i32 x8_3 ∧ Aside0 (florinlaw10_bounds.l2 kq x3_3 x8_3 l0 (l0.length : Int) x14_1 (rd_L2 l0 x14_1) ((rd_L2 l0 x14_1).length : Int) x20_2 ((rd_T28 (rd_L2 l0 x14_1) x20_2).f0) ((rd_T28 (rd_L2 l0 x14_1) x20_2).f1) = some r) ∧ Aside0 (kq ≤ k2) ∧ Aside0 (Kd.R (Kd.int .i32) 21 w' w.heap.size (fun _ => True) v3 x3_3) ∧ Aside0 (w'.heap[gb267]? = some (.cells #[.int .i32 ((rd_T28 (rd_L2 l0 x14_1) x20_2).f0), .int .i32 ((rd_T28 (rd_L2 l0 x14_1) x20_2).f1)] 28 (0, 0))) ∧ Aside0 (Below w.heap.size w w'))
                      case atStart => exact ⟨(x3_2), ((-1)), eq_, H', ⟨Nat.le_refl _⟩, ⟨by (with_reducible repeat (first | apply Kd.R_alloc | apply Kd.R_drewN | apply Kd.R_drew)); exact Kd.R_mono (Kd.R_far (p := ⟨gb267, 1, none⟩) (Kd.R_far (p := ⟨gb267, 0, none⟩) (Kd.R_types HO_3.out BK267.out (by decide)) (fun _ hk => hk.2) (.int .i32 ((rd_T28 (rd_L2 l0 x14_1) x20_2).f0))) (fun _ hk => hk.2) (.int .i32 ((rd_T28 (rd_L2 l0 x14_1) x20_2).f1))) (fun _ hk => trivial)⟩, ⟨by (with_reducible repeat (first | refine blk_drewN ?_ _ | refine blk_drew ?_ | refine blk_alloc ?_ _)); refine blk_put (cs := #[.int .i32 ((rd_T28 (rd_L2 l0 x14_1) x20_2).f0), .int .i32 0]) ?_ 1 _ rfl; (with_reducible repeat (first | refine blk_drewN ?_ _ | refine blk_drew ?_ | refine blk_alloc ?_ _)); refine blk_put (cs := #[.int .i32 0, .int .i32 0]) ?_ 0 _ rfl; (with_reducible repeat (first | refine blk_drewN ?_ _ | refine blk_drew ?_ | refine blk_alloc ?_ _)); exact BK267.out⟩, (bl_ HB)⟩
                      case round =>
                        clear H'
                        try clear c1
                        try clear c2
                        try clear p2
                        try clear q2
                        try clear hx2
                        try clear c4
                        try clear c4b0
                        try clear c5
                        try clear c5b0
                        try clear c6
                        try clear c6b0
                        try clear p6
                        try clear c7
                        try clear c7b0
                        try clear c8
                        try clear c8b0
                        try clear c9
                        try clear c9b0
                        try clear hcz11_0
                        try clear hcz11_1
                        try clear hfz11_0
                        try clear hfz11_1
                        try clear hx265_0
                        try clear hx266_0
                        try clear hx266_1
                        try clear p2
                        try clear p265
                        try clear p266
                        try clear p6
                        try clear q2
                        try clear q265
                        try clear q266
                        obtain ⟨x3_3, x8_3, rfl, HA, HK3, HO_3, BK267, HB⟩ := hrel
                        cases gk with
                        | zero => exact absurd HA.out (by simp [florinlaw10_bounds.l2])
                        | succ k3 =>
                          have H := HA.out
                          clear HA
                          simp only [florinlaw10_bounds.l2] at H
                          by_cases c12 : x8_3 ≤ 1
                          · rw [if_pos c12] at H
                            have c12b0 : decide (x8_3 ≤ 1) = true := decide_eq_true c12
                            clear c12
                            obtain ⟨ji13, hji13⟩ : ∃ j_ : Int, (mx ((rd_T28 (rd_L2 l0 x14_1) x20_2).f0) (-1)) = j_ := ⟨_, rfl⟩
                            replace H : ((some (([wrap32 ((mn (ji13) 1114112) + x8_3), wrap32 ((mn (mx ((rd_T28 (rd_L2 l0 x14_1) x20_2).f1) (-1)) 1114112) + x8_3)] : List Int) : List Int)).bind fun y268 => (if x3_3.length + y268.length < 35184372088832 then (florinlaw10_bounds.l2 k3 (x3_3 ++ y268) (wrap32 (x8_3 + 1)) l0 (l0.length : Int) x14_1 (rd_L2 l0 x14_1) ((rd_L2 l0 x14_1).length : Int) x20_2 ((rd_T28 (rd_L2 l0 x14_1) x20_2).f0) ((rd_T28 (rd_L2 l0 x14_1) x20_2).f1)) else (none))) = some r := by first | (rw [hji13] at H; exact H) | (simp only [hji13] at H ⊢; exact H)
                            have hji13_ : (if ((rd_T28 (rd_L2 l0 x14_1) x20_2).f0) < (-1) then (-1) else ((rd_T28 (rd_L2 l0 x14_1) x20_2).f0)) = ji13 := hji13
                            obtain ⟨ji14, hji14⟩ : ∃ j_ : Int, (mn (ji13) 1114112) = j_ := ⟨_, rfl⟩
                            replace H : ((some (([wrap32 ((ji14) + x8_3), wrap32 ((mn (mx ((rd_T28 (rd_L2 l0 x14_1) x20_2).f1) (-1)) 1114112) + x8_3)] : List Int) : List Int)).bind fun y268 => (if x3_3.length + y268.length < 35184372088832 then (florinlaw10_bounds.l2 k3 (x3_3 ++ y268) (wrap32 (x8_3 + 1)) l0 (l0.length : Int) x14_1 (rd_L2 l0 x14_1) ((rd_L2 l0 x14_1).length : Int) x20_2 ((rd_T28 (rd_L2 l0 x14_1) x20_2).f0) ((rd_T28 (rd_L2 l0 x14_1) x20_2).f1)) else (none))) = some r := by first | (rw [hji14] at H; exact H) | (simp only [hji14] at H ⊢; exact H)
                            have hji14_ : (if 1114112 < (ji13) then 1114112 else (ji13)) = ji14 := hji14
                            obtain ⟨ji15, hji15⟩ : ∃ j_ : Int, (mx ((rd_T28 (rd_L2 l0 x14_1) x20_2).f1) (-1)) = j_ := ⟨_, rfl⟩
                            replace H : ((some (([wrap32 ((ji14) + x8_3), wrap32 ((mn (ji15) 1114112) + x8_3)] : List Int) : List Int)).bind fun y268 => (if x3_3.length + y268.length < 35184372088832 then (florinlaw10_bounds.l2 k3 (x3_3 ++ y268) (wrap32 (x8_3 + 1)) l0 (l0.length : Int) x14_1 (rd_L2 l0 x14_1) ((rd_L2 l0 x14_1).length : Int) x20_2 ((rd_T28 (rd_L2 l0 x14_1) x20_2).f0) ((rd_T28 (rd_L2 l0 x14_1) x20_2).f1)) else (none))) = some r := by first | (rw [hji15] at H; exact H) | (simp only [hji15] at H ⊢; exact H)
                            have hji15_ : (if ((rd_T28 (rd_L2 l0 x14_1) x20_2).f1) < (-1) then (-1) else ((rd_T28 (rd_L2 l0 x14_1) x20_2).f1)) = ji15 := hji15
                            obtain ⟨ji16, hji16⟩ : ∃ j_ : Int, (mn (ji15) 1114112) = j_ := ⟨_, rfl⟩
                            replace H : ((some (([wrap32 ((ji14) + x8_3), wrap32 ((ji16) + x8_3)] : List Int) : List Int)).bind fun y268 => (if x3_3.length + y268.length < 35184372088832 then (florinlaw10_bounds.l2 k3 (x3_3 ++ y268) (wrap32 (x8_3 + 1)) l0 (l0.length : Int) x14_1 (rd_L2 l0 x14_1) ((rd_L2 l0 x14_1).length : Int) x20_2 ((rd_T28 (rd_L2 l0 x14_1) x20_2).f0) ((rd_T28 (rd_L2 l0 x14_1) x20_2).f1)) else (none))) = some r := by first | (rw [hji16] at H; exact H) | (simp only [hji16] at H ⊢; exact H)
                            have hji16_ : (if 1114112 < (ji15) then 1114112 else (ji15)) = ji16 := hji16
                            obtain ⟨y268, hy268⟩ : ∃ y_ : List Int, y_ = (([wrap32 ((ji14) + x8_3), wrap32 ((ji16) + x8_3)] : List Int)) := ⟨_, rfl⟩
                            replace H : (if x3_3.length + y268.length < 35184372088832 then (florinlaw10_bounds.l2 k3 (x3_3 ++ y268) (wrap32 (x8_3 + 1)) l0 (l0.length : Int) x14_1 (rd_L2 l0 x14_1) ((rd_L2 l0 x14_1).length : Int) x20_2 ((rd_T28 (rd_L2 l0 x14_1) x20_2).f0) ((rd_T28 (rd_L2 l0 x14_1) x20_2).f1)) else (none)) = some r := by first | (rw [hy268]; with_reducible exact H) | (have H2_ := (Option.bind_some _ _).symm.trans H; rw [hy268]; with_reducible exact H2_) | (have H2_ := (Option.bind_some _ _).symm.trans H; with_reducible exact H2_) | with_reducible exact H | (rw [hy268]; exact H) | exact H
                            have Ny268 := Aside0.mk hy268
                            clear hy268
                            by_cases c17 : x3_3.length + y268.length < 35184372088832
                            · rw [if_pos c17] at H
                              have LMc17 := Aside0.mk c17
                              clear c17
                              obtain ⟨y271, hy271⟩ : ∃ y_ : List Int, y_ = (x3_3 ++ y268) := ⟨_, rfl⟩
                              replace H : (florinlaw10_bounds.l2 k3 y271 (wrap32 (x8_3 + 1)) l0 (l0.length : Int) x14_1 (rd_L2 l0 x14_1) ((rd_L2 l0 x14_1).length : Int) x20_2 ((rd_T28 (rd_L2 l0 x14_1) x20_2).f0) ((rd_T28 (rd_L2 l0 x14_1) x20_2).f1)) = some r := by first | (rw [hy271]; with_reducible exact H) | (have H2_ := (Option.bind_some _ _).symm.trans H; rw [hy271]; with_reducible exact H2_) | (have H2_ := (Option.bind_some _ _).symm.trans H; with_reducible exact H2_) | with_reducible exact H | (rw [hy271]; exact H) | exact H
                              have Ny271 := Aside0.mk hy271
                              clear hy271
                              have H' := Aside0.mk H
                              clear H
                              obtain ⟨hcz18_0, hcz18_1, hfz18_0, hfz18_1⟩ := bo2_ BK267
                              go_wp2_with (first | ((with_reducible refine gate_dst (N := 43) rfl ?_); refine Kd.R_lit (Kd.int .i32) _ 21 ?hg (N := 43) ?hd (xs := ([wrap32 ((ji14) + x8_3), wrap32 ((ji16) + x8_3)] : List Int)) (inner := [.int .i32 (wrap32 ((ji14) + x8_3)), .int .i32 (wrap32 ((ji16) + x8_3))]) (ok := fun _ => True) (okp := fun _ => True) ?hr ?hp (fun _ hk => hk) trivial (Below.refl _ _) (Nat.le_refl _) (by simp) ?_; (case hd => rfl); (case hg => rfl); (case hr => first | (go_simp; done) | (go_simp; rfl)); (case hp => exact (Reps.one (show Kd.M (Kd.int .i32) _ _ _ (wrap32 ((ji14) + x8_3)) [.int .i32 (wrap32 ((ji14) + x8_3))] from rfl) (Reps.one (show Kd.M (Kd.int .i32) _ _ _ (wrap32 ((ji16) + x8_3)) [.int .i32 (wrap32 ((ji16) + x8_3))] from rfl) (Reps.none _ _)))); intro v269 w19 ho20 hb hg_ hnew_; clear hg_ hnew_; (first | rw [← Ny268.out] at ho20 | (simp only [Int.reduceToNat] at ho20; rw [← Ny268.out] at ho20)); have HO270 := Aside0.mk (Kd.R_lower (Kd.R_new' ho20 (kx_ HO_3)) (below_size (bl_ HB).out)); replace HO_3 := ke_ HO_3 ho20 hb; replace BK267 := bb_ BK267 hb; replace HB := Aside0.mk (below_step (bl_ HB).out hb); clear hb ho20; obtain ⟨Ao22, co22, eo22⟩ := Kd.R_slice HO270.out; subst eo22) | ((with_reducible refine gate_builtin (b := .append) (xs := #[.tmp 36, .tmp 43]) rfl ?_); at_builtin; refine Kd.R_append_rows (Kd.int .i32) (w0 := w) w.heap.size rfl (.tmp 36) (.tmp 43) 29 21 (.int .i32 0) 4 rfl Tryz.underlying29 info21 rfl (by decide) (by omega) u3 x3_3 y268 _ _ _ (fun k_ => some k_ ≠ (.slice Ao22 y268.length co22 : Value).ownBlock) (fun _ => False) rfl rfl ?aO ?aR (fun _ _ h => h) (fun _ h => h.elim) ?aF ?aB ?aS ?aL ?_; (case aR => repeat (first | exact (Kd.R_reads' HO270.out).2.2 | (with_reducible refine Kd.C_alloc ?_ _) | (with_reducible refine Kd.C_drewN ?_ _) | (with_reducible refine Kd.C_drew ?_))); (case aB => exact (bl_ HB).out); (case aF => exact (fun k_ hk => Kd.fresh' (kx_ HO270) k_ hk)); (case aO => exact (by (with_reducible repeat (first | apply Kd.R_alloc | apply Kd.R_drewN | apply Kd.R_drew)); exact Kd.R_mono HO_3.out (fun _ hk => hk.2))); (case aS => exact (below_size (bl_ HB).out)); (case aL => have := LMc17.out; omega); intro v272 w21 ho hb hg hat; rw [← Ny271.out] at ho; have n0_ := Aside0.mk (blk_grown (g := gb267) (o := .cells #[.int .i32 ((rd_T28 (rd_L2 l0 x14_1) x20_2).f0), .int .i32 ((rd_T28 (rd_L2 l0 x14_1) x20_2).f1)] 28 (0, 0)) (by (with_reducible repeat (first | refine blk_drewN ?_ _ | refine blk_drew ?_ | refine blk_alloc ?_ _)); exact BK267.out) hg (Kd.R_ne HO_3.out BK267.out (by decide))); have n1_ := Aside0.mk (Kd.R_after (ok := (fun _ => True)) (kr_ HO270) hg hat); have n2_ := Aside0.mk (hb); have n3_ := Aside0.mk (ho); clear BK267; clear HO270; clear HB; clear HO_3; have BK267 := n0_; have HO270 := n1_; have HB := n2_; have HO273 := n3_; clear n0_ n1_ n2_ n3_; clear ho hb hg hat))
                              go_roundg k3
                              case measure => have := HK1.out; have := HK2.out; have := HK3.out; omega
                              case rel => exact ⟨(y271), (wrap32 (x8_3 + 1)), eq_, H', ⟨by have := HK1.out; have := HK2.out; have := HK3.out; omega⟩, ⟨by (with_reducible repeat (first | apply Kd.R_alloc | apply Kd.R_drewN | apply Kd.R_drew)); exact Kd.R_mono HO273.out (fun _ hk => trivial)⟩, (bk_ BK267), (bl_ HB)⟩
                            · rw [if_neg c17] at H
                              exact absurd H (by simp)
                          · rw [if_neg c12] at H
                            have c12b0 : decide (x8_3 ≤ 1) = false := decide_eq_false c12
                            clear c12
                            have H' := Aside0.mk H
                            clear H
                            go_wp2
                            go_roundg k3
                            case measure => have := HK1.out; have := HK2.out; have := HK3.out; omega
                            case rel => exact ⟨(x3_3), (wrap64 (x20_2 + 1)), eq_, H', ⟨by have := HK1.out; have := HK2.out; have := HK3.out; omega⟩, ⟨by (with_reducible repeat (first | apply Kd.R_alloc | apply Kd.R_drewN | apply Kd.R_drew)); exact HO_3.out⟩, (bl_ HB)⟩
                    · rw [if_neg c9] at H
                      exact absurd H (by simp)
                  · rw [if_neg c8] at H
                    exact absurd H (by simp)
                · rw [if_neg c7] at H
                  have c7b0 : decide (x20_2 < ((rd_L2 l0 x14_1).length : Int)) = false := decide_eq_false c7
                  clear c7
                  have H' := Aside0.mk H
                  clear H
                  go_wp2
                  go_roundg k2
                  case measure => have := HK1.out; have := HK2.out; omega
                  case rel => exact ⟨(x3_2), (wrap64 (x14_1 + 1)), eq_, H', ⟨by have := HK1.out; have := HK2.out; omega⟩, ⟨by (with_reducible repeat (first | apply Kd.R_alloc | apply Kd.R_drewN | apply Kd.R_drew)); exact HO_3.out⟩, (bl_ HB)⟩
          · rw [if_neg c6] at H
            exact absurd H (by simp)
        · rw [if_neg c5] at H
          exact absurd H (by simp)
      · rw [if_neg c4] at H
        have c4b0 : decide (x14_1 < (l0.length : Int)) = false := decide_eq_false c4
        clear c4
        obtain rfl := Option.some.inj H
        go_wp2
        go_ret
        exact ⟨_, by first | rfl | (simp [errW_none, errW_some] <;> rfl) | (simp [*, errW_none, errW_some] <;> first | rfl | exact given_isEmpty _ | exact (given_isEmpty _).symm), by (with_reducible repeat (first | apply Kd.R_alloc | apply Kd.R_drewN | apply Kd.R_drew)); exact HO_3.out, by repeat (first | (with_reducible first | exact HB.out | apply below_alloc | apply pw_below_drewN | apply below_drew1) | exact HB.out)⟩

/-! ### florinlaw10_in: function 14 -/
def florinlaw10_in.l0 : Nat → Int → List (S28) → Int → Int → Option (Bool)
  | 0, _, _, _, _ => none
  | k + 1, x1, x7, x8, x9 => if x9 < x8 then (if 0 ≤ x9 then (if x9 < (x7.length : Int) then (if x1 ≥ ((rd_T28 x7 x9).f0) then (if x1 ≤ ((rd_T28 x7 x9).f1) then (if x1 ≥ 0 then (if x1 ≤ 1114111 then (some true) else (florinlaw10_in.l0 k x1 x7 x8 (wrap64 (x9 + 1)))) else (florinlaw10_in.l0 k x1 x7 x8 (wrap64 (x9 + 1)))) else (florinlaw10_in.l0 k x1 x7 x8 (wrap64 (x9 + 1)))) else (florinlaw10_in.l0 k x1 x7 x8 (wrap64 (x9 + 1)))) else (none)) else (none)) else (some false)
def florinlaw10_in.f (k : Nat) (l0 : List (S28)) (a1 : Int) : Option (Bool) := florinlaw10_in.l0 k a1 l0 (l0.length : Int) 0
theorem florinlaw10_in.mono_l : ∀ k, (∀ y0 y1 y2 y3, LeO (florinlaw10_in.l0 k y0 y1 y2 y3) (florinlaw10_in.l0 (k + 1) y0 y1 y2 y3))
  | 0 => fun _ _ _ _ r h => by simp [florinlaw10_in.l0] at h
  | k + 1 => by
    have ih0 := florinlaw10_in.mono_l k
    · intro y0 y1 y2 y3
      unfold florinlaw10_in.l0
      repeat' first
      | (with_reducible exact ih0 _ _ _ _)
      | (with_reducible exact LeO.refl _)
      | (with_reducible exact LeO.none _)
      | (with_reducible refine LeO.ite ?_ ?_)
      | (with_reducible refine LeO.bind ?_ (fun _ => ?_))
      | exact ih0 _ _ _ _
      | exact LeO.none _
      | refine LeO.ite ?_ ?_
      | refine LeO.bind ?_ (fun _ => ?_)
theorem florinlaw10_in.mono : ∀ a0 a1 k, LeO (florinlaw10_in.f k a0 a1) (florinlaw10_in.f (k + 1) a0 a1) := by
  intro a0 a1 k
  have ih0 := florinlaw10_in.mono_l k
  unfold florinlaw10_in.f
  repeat' first
      | (with_reducible exact ih0 _ _ _ _)
      | (with_reducible exact LeO.refl _)
      | (with_reducible exact LeO.none _)
      | (with_reducible refine LeO.ite ?_ ?_)
      | (with_reducible refine LeO.bind ?_ (fun _ => ?_))
      | exact ih0 _ _ _ _
      | exact LeO.none _
      | refine LeO.ite ?_ ?_
      | refine LeO.bind ?_ (fun _ => ?_)
set_option maxHeartbeats 64000000 in
set_option maxRecDepth 100000 in
theorem florinlaw10_in.calls (k : Nat) (A0 : Option Addr) (c0 : Nat) (l0 : List (S28)) (a1 : Int) (r : Bool) (w : World) (hr0 : Kd.C k28 w A0 l0.length l0) (hc0 : l0.length ≤ c0) (h : florinlaw10_in.f k l0 a1 = some r) :
    Calls Tryz.prog 14 #[.slice A0 l0.length c0, .int .i32 a1] w fun e w' => e = .returned (.bool r) ∧ Below w.heap.size w w' := by
  have hu28 := Tryz.underlying28
  have HR0 := Aside0.mk hr0
  have HC0 := Aside0.mk hc0
  clear hr0 hc0
  have HB := Aside0.mk (Below.refl w.heap.size w)
  have H : (florinlaw10_in.l0 k a1 l0 (l0.length : Int) 0) = some r := h
  clear h
  have H' := Aside0.mk H
  clear H
  go_enter Tryz.func14, Tryz.ntmps14
  go_wp2
  go_loopg [9] k (fun kq v9 w' => ∃ (x9_1 : Int), v9 = .int .i64 x9_1 ∧ Aside0 (florinlaw10_in.l0 kq a1 l0 (l0.length : Int) x9_1 = some r) ∧ Aside0 (kq ≤ k) ∧ Aside0 (Below w.heap.size w w'))
  case atStart => exact ⟨(0), eq_, H', ⟨Nat.le_refl _⟩, (bl_ HB)⟩
  case round =>
    clear H'
    try clear c1
    try clear p2
    obtain ⟨x9_1, rfl, HA, HK1, HB⟩ := hrel
    cases gk with
    | zero => exact absurd HA.out (by simp [florinlaw10_in.l0])
    | succ k1 =>
      have H := HA.out
      clear HA
      simp only [florinlaw10_in.l0] at H
      by_cases c3 : x9_1 < (l0.length : Int)
      · rw [if_pos c3] at H
        have c3b0 : decide (x9_1 < (l0.length : Int)) = true := decide_eq_true c3
        clear c3
        by_cases c4 : 0 ≤ x9_1
        · rw [if_pos c4] at H
          have c4b0 : decide (0 ≤ x9_1) = true := decide_eq_true c4
          clear c4
          by_cases c5 : x9_1 < (l0.length : Int)
          · rw [if_pos c5] at H
            have c5b0 : decide (x9_1 < (l0.length : Int)) = true := decide_eq_true c5
            clear c5
            by_cases c6 : a1 ≥ ((rd_T28 l0 x9_1).f0)
            · rw [if_pos c6] at H
              have c6b0 : decide (((rd_T28 l0 x9_1).f0) ≤ a1) = true := decide_eq_true c6
              clear c6
              by_cases c7 : a1 ≤ ((rd_T28 l0 x9_1).f1)
              · rw [if_pos c7] at H
                have c7b0 : decide (a1 ≤ ((rd_T28 l0 x9_1).f1)) = true := decide_eq_true c7
                clear c7
                by_cases c8 : a1 ≥ 0
                · rw [if_pos c8] at H
                  have c8b0 : decide (0 ≤ a1) = true := decide_eq_true c8
                  clear c8
                  by_cases c9 : a1 ≤ 1114111
                  · rw [if_pos c9] at H
                    have c9b0 : decide (a1 ≤ 1114111) = true := decide_eq_true c9
                    clear c9
                    obtain rfl := Option.some.inj H
                    have p274 : 0 ≤ (x9_1 : Int) := of_decide_eq_true (by first | (with_reducible assumption) | assumption)
                    have q274 : x9_1 < (l0.length : Int) := of_decide_eq_true (by first | (with_reducible assumption) | assumption)
                    obtain ⟨ad274, e274, hx274_0, hx274_1⟩ := at_T28 HR0.out x9_1 p274 q274
                    cases e274
                    replace hx274_0 := (HB.out.cell (World.block_lt_of_cell? w _ hx274_0)).trans hx274_0
                    replace hx274_1 := (HB.out.cell (World.block_lt_of_cell? w _ hx274_1)).trans hx274_1
                    replace p274 := eq_true p274
                    replace q274 := eq_true q274
                    go_wp2_with (first | ((with_reducible refine gate_dst (N := 6) rfl ?_); refine be_ 6 #[.int .i32 0, .int .i32 0] 28 ?_; intro gb275 hg w10 hbox hb; have BK275 := Aside0.mk (hbox); have GW275 := sz_ HB hg; have GE275 := sz_ HB hg; replace HB := Aside0.mk (below_step (bl_ HB).out hb); clear hb hbox hg; obtain ⟨hcz11_0, hcz11_1, hfz11_0, hfz11_1⟩ := bo2_ BK275))
                    go_ret
                    exact ⟨ew_, (bl_ HB).out⟩
                  · rw [if_neg c9] at H
                    have c9b0 : decide (a1 ≤ 1114111) = false := decide_eq_false c9
                    clear c9
                    have H' := Aside0.mk H
                    clear H
                    have p274 : 0 ≤ (x9_1 : Int) := of_decide_eq_true (by first | (with_reducible assumption) | assumption)
                    have q274 : x9_1 < (l0.length : Int) := of_decide_eq_true (by first | (with_reducible assumption) | assumption)
                    obtain ⟨ad274, e274, hx274_0, hx274_1⟩ := at_T28 HR0.out x9_1 p274 q274
                    cases e274
                    replace hx274_0 := (HB.out.cell (World.block_lt_of_cell? w _ hx274_0)).trans hx274_0
                    replace hx274_1 := (HB.out.cell (World.block_lt_of_cell? w _ hx274_1)).trans hx274_1
                    replace p274 := eq_true p274
                    replace q274 := eq_true q274
                    go_wp2_with (first | ((with_reducible refine gate_dst (N := 6) rfl ?_); refine be_ 6 #[.int .i32 0, .int .i32 0] 28 ?_; intro gb275 hg w12 hbox hb; have BK275 := Aside0.mk (hbox); have GW275 := sz_ HB hg; have GE275 := sz_ HB hg; replace HB := Aside0.mk (below_step (bl_ HB).out hb); clear hb hbox hg; obtain ⟨hcz13_0, hcz13_1, hfz13_0, hfz13_1⟩ := bo2_ BK275))
                    go_roundg k1
                    case measure => have := HK1.out; omega
                    case rel => exact ⟨(wrap64 (x9_1 + 1)), eq_, H', ⟨by have := HK1.out; omega⟩, (bl_ HB)⟩
                · rw [if_neg c8] at H
                  have c8b0 : decide (0 ≤ a1) = false := decide_eq_false c8
                  clear c8
                  have H' := Aside0.mk H
                  clear H
                  have p274 : 0 ≤ (x9_1 : Int) := of_decide_eq_true (by first | (with_reducible assumption) | assumption)
                  have q274 : x9_1 < (l0.length : Int) := of_decide_eq_true (by first | (with_reducible assumption) | assumption)
                  obtain ⟨ad274, e274, hx274_0, hx274_1⟩ := at_T28 HR0.out x9_1 p274 q274
                  cases e274
                  replace hx274_0 := (HB.out.cell (World.block_lt_of_cell? w _ hx274_0)).trans hx274_0
                  replace hx274_1 := (HB.out.cell (World.block_lt_of_cell? w _ hx274_1)).trans hx274_1
                  replace p274 := eq_true p274
                  replace q274 := eq_true q274
                  go_wp2_with (first | ((with_reducible refine gate_dst (N := 6) rfl ?_); refine be_ 6 #[.int .i32 0, .int .i32 0] 28 ?_; intro gb275 hg w14 hbox hb; have BK275 := Aside0.mk (hbox); have GW275 := sz_ HB hg; have GE275 := sz_ HB hg; replace HB := Aside0.mk (below_step (bl_ HB).out hb); clear hb hbox hg; obtain ⟨hcz15_0, hcz15_1, hfz15_0, hfz15_1⟩ := bo2_ BK275))
                  go_roundg k1
                  case measure => have := HK1.out; omega
                  case rel => exact ⟨(wrap64 (x9_1 + 1)), eq_, H', ⟨by have := HK1.out; omega⟩, (bl_ HB)⟩
              · rw [if_neg c7] at H
                have c7b0 : decide (a1 ≤ ((rd_T28 l0 x9_1).f1)) = false := decide_eq_false c7
                clear c7
                have H' := Aside0.mk H
                clear H
                have p274 : 0 ≤ (x9_1 : Int) := of_decide_eq_true (by first | (with_reducible assumption) | assumption)
                have q274 : x9_1 < (l0.length : Int) := of_decide_eq_true (by first | (with_reducible assumption) | assumption)
                obtain ⟨ad274, e274, hx274_0, hx274_1⟩ := at_T28 HR0.out x9_1 p274 q274
                cases e274
                replace hx274_0 := (HB.out.cell (World.block_lt_of_cell? w _ hx274_0)).trans hx274_0
                replace hx274_1 := (HB.out.cell (World.block_lt_of_cell? w _ hx274_1)).trans hx274_1
                replace p274 := eq_true p274
                replace q274 := eq_true q274
                go_wp2_with (first | ((with_reducible refine gate_dst (N := 6) rfl ?_); refine be_ 6 #[.int .i32 0, .int .i32 0] 28 ?_; intro gb275 hg w16 hbox hb; have BK275 := Aside0.mk (hbox); have GW275 := sz_ HB hg; have GE275 := sz_ HB hg; replace HB := Aside0.mk (below_step (bl_ HB).out hb); clear hb hbox hg; obtain ⟨hcz17_0, hcz17_1, hfz17_0, hfz17_1⟩ := bo2_ BK275))
                go_roundg k1
                case measure => have := HK1.out; omega
                case rel => exact ⟨(wrap64 (x9_1 + 1)), eq_, H', ⟨by have := HK1.out; omega⟩, (bl_ HB)⟩
            · rw [if_neg c6] at H
              have c6b0 : decide (((rd_T28 l0 x9_1).f0) ≤ a1) = false := decide_eq_false c6
              clear c6
              have H' := Aside0.mk H
              clear H
              have p274 : 0 ≤ (x9_1 : Int) := of_decide_eq_true (by first | (with_reducible assumption) | assumption)
              have q274 : x9_1 < (l0.length : Int) := of_decide_eq_true (by first | (with_reducible assumption) | assumption)
              obtain ⟨ad274, e274, hx274_0, hx274_1⟩ := at_T28 HR0.out x9_1 p274 q274
              cases e274
              replace hx274_0 := (HB.out.cell (World.block_lt_of_cell? w _ hx274_0)).trans hx274_0
              replace hx274_1 := (HB.out.cell (World.block_lt_of_cell? w _ hx274_1)).trans hx274_1
              replace p274 := eq_true p274
              replace q274 := eq_true q274
              go_wp2_with (first | ((with_reducible refine gate_dst (N := 6) rfl ?_); refine be_ 6 #[.int .i32 0, .int .i32 0] 28 ?_; intro gb275 hg w18 hbox hb; have BK275 := Aside0.mk (hbox); have GW275 := sz_ HB hg; have GE275 := sz_ HB hg; replace HB := Aside0.mk (below_step (bl_ HB).out hb); clear hb hbox hg; obtain ⟨hcz19_0, hcz19_1, hfz19_0, hfz19_1⟩ := bo2_ BK275))
              go_roundg k1
              case measure => have := HK1.out; omega
              case rel => exact ⟨(wrap64 (x9_1 + 1)), eq_, H', ⟨by have := HK1.out; omega⟩, (bl_ HB)⟩
          · rw [if_neg c5] at H
            exact absurd H (by simp)
        · rw [if_neg c4] at H
          exact absurd H (by simp)
      · rw [if_neg c3] at H
        have c3b0 : decide (x9_1 < (l0.length : Int)) = false := decide_eq_false c3
        clear c3
        obtain rfl := Option.some.inj H
        go_wp2
        go_ret
        exact ⟨ew_, (bl_ HB).out⟩

/-! ### florinlaw10_settled: function 15 -/
def florinlaw10_settled.l0 : Nat → List (S28) → List (S28) → Int → Int → Option (Bool)
  | 0, _, _, _, _ => none
  | k + 1, x0, x5, x6, x7 => if x7 < x6 then (if 0 ≤ x7 then (if x7 < (x5.length : Int) then (if ((rd_T28 x5 x7).f0) < 0 then (some false) else (if ((rd_T28 x5 x7).f1) > 1114111 then (some false) else (if ((rd_T28 x5 x7).f0) > ((rd_T28 x5 x7).f1) then (some false) else (if x7 > 0 then (if 0 ≤ (wrap64 (x7 - 1)) then (if (wrap64 (x7 - 1)) < (x0.length : Int) then (if ((rd_T28 x5 x7).f0) ≤ (wrap32 (((rd_T28 x0 (wrap64 (x7 - 1))).f1) + 1)) then (some false) else (florinlaw10_settled.l0 k x0 x5 x6 (wrap64 (x7 + 1)))) else (none)) else (none)) else (florinlaw10_settled.l0 k x0 x5 x6 (wrap64 (x7 + 1))))))) else (none)) else (none)) else (some true)
def florinlaw10_settled.f (k : Nat) (l0 : List (S28)) : Option (Bool) := florinlaw10_settled.l0 k l0 l0 (l0.length : Int) 0
theorem florinlaw10_settled.mono_l : ∀ k, (∀ y0 y1 y2 y3, LeO (florinlaw10_settled.l0 k y0 y1 y2 y3) (florinlaw10_settled.l0 (k + 1) y0 y1 y2 y3))
  | 0 => fun _ _ _ _ r h => by simp [florinlaw10_settled.l0] at h
  | k + 1 => by
    have ih0 := florinlaw10_settled.mono_l k
    · intro y0 y1 y2 y3
      unfold florinlaw10_settled.l0
      repeat' first
      | (with_reducible exact ih0 _ _ _ _)
      | (with_reducible exact LeO.refl _)
      | (with_reducible exact LeO.none _)
      | (with_reducible refine LeO.ite ?_ ?_)
      | (with_reducible refine LeO.bind ?_ (fun _ => ?_))
      | exact ih0 _ _ _ _
      | exact LeO.none _
      | refine LeO.ite ?_ ?_
      | refine LeO.bind ?_ (fun _ => ?_)
theorem florinlaw10_settled.mono : ∀ a0 k, LeO (florinlaw10_settled.f k a0) (florinlaw10_settled.f (k + 1) a0) := by
  intro a0 k
  have ih0 := florinlaw10_settled.mono_l k
  unfold florinlaw10_settled.f
  repeat' first
      | (with_reducible exact ih0 _ _ _ _)
      | (with_reducible exact LeO.refl _)
      | (with_reducible exact LeO.none _)
      | (with_reducible refine LeO.ite ?_ ?_)
      | (with_reducible refine LeO.bind ?_ (fun _ => ?_))
      | exact ih0 _ _ _ _
      | exact LeO.none _
      | refine LeO.ite ?_ ?_
      | refine LeO.bind ?_ (fun _ => ?_)
set_option maxHeartbeats 64000000 in
set_option maxRecDepth 100000 in
theorem florinlaw10_settled.calls (k : Nat) (A0 : Option Addr) (c0 : Nat) (l0 : List (S28)) (r : Bool) (w : World) (hr0 : Kd.C k28 w A0 l0.length l0) (hc0 : l0.length ≤ c0) (h : florinlaw10_settled.f k l0 = some r) :
    Calls Tryz.prog 15 #[.slice A0 l0.length c0] w fun e w' => e = .returned (.bool r) ∧ Below w.heap.size w w' := by
  have hu28 := Tryz.underlying28
  have HR0 := Aside0.mk hr0
  have HC0 := Aside0.mk hc0
  clear hr0 hc0
  have HB := Aside0.mk (Below.refl w.heap.size w)
  have H : (florinlaw10_settled.l0 k l0 l0 (l0.length : Int) 0) = some r := h
  clear h
  have H' := Aside0.mk H
  clear H
  go_enter Tryz.func15, Tryz.ntmps15
  go_wp2
  repeat (go_quiet (fail); try go_wp2)
  go_loopg [7] k (fun kq v7 w' => ∃ (x7_1 : Int), v7 = .int .i64 x7_1 ∧ Aside0 (florinlaw10_settled.l0 kq l0 l0 (l0.length : Int) x7_1 = some r) ∧ Aside0 (kq ≤ k) ∧ Aside0 (Below w.heap.size w w'))
  case atStart => exact ⟨(0), eq_, H', ⟨Nat.le_refl _⟩, (bl_ HB)⟩
  case round =>
    clear H'
    try clear c1
    obtain ⟨x7_1, rfl, HA, HK1, HB⟩ := hrel
    cases gk with
    | zero => exact absurd HA.out (by simp [florinlaw10_settled.l0])
    | succ k1 =>
      have H := HA.out
      clear HA
      simp only [florinlaw10_settled.l0] at H
      by_cases c2 : x7_1 < (l0.length : Int)
      · rw [if_pos c2] at H
        have c2b0 : decide (x7_1 < (l0.length : Int)) = true := decide_eq_true c2
        clear c2
        by_cases c3 : 0 ≤ x7_1
        · rw [if_pos c3] at H
          have c3b0 : decide (0 ≤ x7_1) = true := decide_eq_true c3
          clear c3
          by_cases c4 : x7_1 < (l0.length : Int)
          · rw [if_pos c4] at H
            have c4b0 : decide (x7_1 < (l0.length : Int)) = true := decide_eq_true c4
            clear c4
            by_cases c5 : ((rd_T28 l0 x7_1).f0) < 0
            · rw [if_pos c5] at H
              have c5b0 : decide (((rd_T28 l0 x7_1).f0) < 0) = true := decide_eq_true c5
              clear c5
              obtain rfl := Option.some.inj H
              have p276 : 0 ≤ (x7_1 : Int) := of_decide_eq_true (by first | (with_reducible assumption) | assumption)
              have q276 : x7_1 < (l0.length : Int) := of_decide_eq_true (by first | (with_reducible assumption) | assumption)
              obtain ⟨ad276, e276, hx276_0, hx276_1⟩ := at_T28 HR0.out x7_1 p276 q276
              cases e276
              replace hx276_0 := (HB.out.cell (World.block_lt_of_cell? w _ hx276_0)).trans hx276_0
              replace hx276_1 := (HB.out.cell (World.block_lt_of_cell? w _ hx276_1)).trans hx276_1
              replace p276 := eq_true p276
              replace q276 := eq_true q276
              go_wp2_with (first | ((with_reducible refine gate_dst (N := 4) rfl ?_); refine be_ 4 #[.int .i32 0, .int .i32 0] 28 ?_; intro gb277 hg w6 hbox hb; have BK277 := Aside0.mk (hbox); have GW277 := sz_ HB hg; have GE277 := sz_ HB hg; replace HB := Aside0.mk (below_step (bl_ HB).out hb); clear hb hbox hg; obtain ⟨hcz7_0, hcz7_1, hfz7_0, hfz7_1⟩ := bo2_ BK277))
              repeat (go_quiet (first | ((with_reducible refine gate_dst (N := 4) rfl ?_); refine be_ 4 #[.int .i32 0, .int .i32 0] 28 ?_; intro gb277 hg w6 hbox hb; have BK277 := Aside0.mk (hbox); have GW277 := sz_ HB hg; have GE277 := sz_ HB hg; replace HB := Aside0.mk (below_step (bl_ HB).out hb); clear hb hbox hg; obtain ⟨hcz7_0, hcz7_1, hfz7_0, hfz7_1⟩ := bo2_ BK277)); try go_wp2_with (first | ((with_reducible refine gate_dst (N := 4) rfl ?_); refine be_ 4 #[.int .i32 0, .int .i32 0] 28 ?_; intro gb277 hg w6 hbox hb; have BK277 := Aside0.mk (hbox); have GW277 := sz_ HB hg; have GE277 := sz_ HB hg; replace HB := Aside0.mk (below_step (bl_ HB).out hb); clear hb hbox hg; obtain ⟨hcz7_0, hcz7_1, hfz7_0, hfz7_1⟩ := bo2_ BK277)))
              go_ret
              exact ⟨ew_, (bl_ HB).out⟩
            · rw [if_neg c5] at H
              have c5b0 : decide (((rd_T28 l0 x7_1).f0) < 0) = false := decide_eq_false c5
              clear c5
              by_cases c8 : ((rd_T28 l0 x7_1).f1) > 1114111
              · rw [if_pos c8] at H
                have c8b0 : decide (1114111 < ((rd_T28 l0 x7_1).f1)) = true := decide_eq_true c8
                clear c8
                obtain rfl := Option.some.inj H
                have p276 : 0 ≤ (x7_1 : Int) := of_decide_eq_true (by first | (with_reducible assumption) | assumption)
                have q276 : x7_1 < (l0.length : Int) := of_decide_eq_true (by first | (with_reducible assumption) | assumption)
                obtain ⟨ad276, e276, hx276_0, hx276_1⟩ := at_T28 HR0.out x7_1 p276 q276
                cases e276
                replace hx276_0 := (HB.out.cell (World.block_lt_of_cell? w _ hx276_0)).trans hx276_0
                replace hx276_1 := (HB.out.cell (World.block_lt_of_cell? w _ hx276_1)).trans hx276_1
                replace p276 := eq_true p276
                replace q276 := eq_true q276
                go_wp2_with (first | ((with_reducible refine gate_dst (N := 4) rfl ?_); refine be_ 4 #[.int .i32 0, .int .i32 0] 28 ?_; intro gb277 hg w9 hbox hb; have BK277 := Aside0.mk (hbox); have GW277 := sz_ HB hg; have GE277 := sz_ HB hg; replace HB := Aside0.mk (below_step (bl_ HB).out hb); clear hb hbox hg; obtain ⟨hcz10_0, hcz10_1, hfz10_0, hfz10_1⟩ := bo2_ BK277))
                repeat (go_quiet (first | ((with_reducible refine gate_dst (N := 4) rfl ?_); refine be_ 4 #[.int .i32 0, .int .i32 0] 28 ?_; intro gb277 hg w9 hbox hb; have BK277 := Aside0.mk (hbox); have GW277 := sz_ HB hg; have GE277 := sz_ HB hg; replace HB := Aside0.mk (below_step (bl_ HB).out hb); clear hb hbox hg; obtain ⟨hcz10_0, hcz10_1, hfz10_0, hfz10_1⟩ := bo2_ BK277)); try go_wp2_with (first | ((with_reducible refine gate_dst (N := 4) rfl ?_); refine be_ 4 #[.int .i32 0, .int .i32 0] 28 ?_; intro gb277 hg w9 hbox hb; have BK277 := Aside0.mk (hbox); have GW277 := sz_ HB hg; have GE277 := sz_ HB hg; replace HB := Aside0.mk (below_step (bl_ HB).out hb); clear hb hbox hg; obtain ⟨hcz10_0, hcz10_1, hfz10_0, hfz10_1⟩ := bo2_ BK277)))
                go_ret
                exact ⟨ew_, (bl_ HB).out⟩
              · rw [if_neg c8] at H
                have c8b0 : decide (1114111 < ((rd_T28 l0 x7_1).f1)) = false := decide_eq_false c8
                clear c8
                by_cases c11 : ((rd_T28 l0 x7_1).f0) > ((rd_T28 l0 x7_1).f1)
                · rw [if_pos c11] at H
                  have c11b0 : decide (((rd_T28 l0 x7_1).f1) < ((rd_T28 l0 x7_1).f0)) = true := decide_eq_true c11
                  clear c11
                  obtain rfl := Option.some.inj H
                  have p276 : 0 ≤ (x7_1 : Int) := of_decide_eq_true (by first | (with_reducible assumption) | assumption)
                  have q276 : x7_1 < (l0.length : Int) := of_decide_eq_true (by first | (with_reducible assumption) | assumption)
                  obtain ⟨ad276, e276, hx276_0, hx276_1⟩ := at_T28 HR0.out x7_1 p276 q276
                  cases e276
                  replace hx276_0 := (HB.out.cell (World.block_lt_of_cell? w _ hx276_0)).trans hx276_0
                  replace hx276_1 := (HB.out.cell (World.block_lt_of_cell? w _ hx276_1)).trans hx276_1
                  replace p276 := eq_true p276
                  replace q276 := eq_true q276
                  go_wp2_with (first | ((with_reducible refine gate_dst (N := 4) rfl ?_); refine be_ 4 #[.int .i32 0, .int .i32 0] 28 ?_; intro gb277 hg w12 hbox hb; have BK277 := Aside0.mk (hbox); have GW277 := sz_ HB hg; have GE277 := sz_ HB hg; replace HB := Aside0.mk (below_step (bl_ HB).out hb); clear hb hbox hg; obtain ⟨hcz13_0, hcz13_1, hfz13_0, hfz13_1⟩ := bo2_ BK277))
                  repeat (go_quiet (first | ((with_reducible refine gate_dst (N := 4) rfl ?_); refine be_ 4 #[.int .i32 0, .int .i32 0] 28 ?_; intro gb277 hg w12 hbox hb; have BK277 := Aside0.mk (hbox); have GW277 := sz_ HB hg; have GE277 := sz_ HB hg; replace HB := Aside0.mk (below_step (bl_ HB).out hb); clear hb hbox hg; obtain ⟨hcz13_0, hcz13_1, hfz13_0, hfz13_1⟩ := bo2_ BK277)); try go_wp2_with (first | ((with_reducible refine gate_dst (N := 4) rfl ?_); refine be_ 4 #[.int .i32 0, .int .i32 0] 28 ?_; intro gb277 hg w12 hbox hb; have BK277 := Aside0.mk (hbox); have GW277 := sz_ HB hg; have GE277 := sz_ HB hg; replace HB := Aside0.mk (below_step (bl_ HB).out hb); clear hb hbox hg; obtain ⟨hcz13_0, hcz13_1, hfz13_0, hfz13_1⟩ := bo2_ BK277)))
                  go_ret
                  exact ⟨ew_, (bl_ HB).out⟩
                · rw [if_neg c11] at H
                  have c11b0 : decide (((rd_T28 l0 x7_1).f1) < ((rd_T28 l0 x7_1).f0)) = false := decide_eq_false c11
                  clear c11
                  by_cases c14 : x7_1 > 0
                  · rw [if_pos c14] at H
                    have c14b0 : decide (0 < x7_1) = true := decide_eq_true c14
                    clear c14
                    obtain ⟨ji15, hji15⟩ : ∃ j_ : Int, (wrap64 (x7_1 - 1)) = j_ := ⟨_, rfl⟩
                    replace H : (if 0 ≤ (ji15) then (if (ji15) < (l0.length : Int) then (if ((rd_T28 l0 x7_1).f0) ≤ (wrap32 (((rd_T28 l0 (ji15)).f1) + 1)) then (some false) else (florinlaw10_settled.l0 k1 l0 l0 (l0.length : Int) (wrap64 (x7_1 + 1)))) else (none)) else (none)) = some r := by first | (rw [hji15] at H; exact H) | (simp only [hji15] at H ⊢; exact H)
                    have hji15w : (IntKind.i64.wrap (x7_1 - 1)) = ji15 := (i64_w _).trans hji15
                    by_cases c16 : 0 ≤ (ji15)
                    · rw [if_pos c16] at H
                      have c16b0 : decide (0 ≤ (ji15)) = true := decide_eq_true c16
                      clear c16
                      by_cases c17 : (ji15) < (l0.length : Int)
                      · rw [if_pos c17] at H
                        have c17b0 : decide ((ji15) < (l0.length : Int)) = true := decide_eq_true c17
                        clear c17
                        by_cases c18 : ((rd_T28 l0 x7_1).f0) ≤ (wrap32 (((rd_T28 l0 (ji15)).f1) + 1))
                        · rw [if_pos c18] at H
                          have c18b0 : decide (((rd_T28 l0 x7_1).f0) ≤ (wrap32 (((rd_T28 l0 (ji15)).f1) + 1))) = true := decide_eq_true c18
                          clear c18
                          obtain rfl := Option.some.inj H
                          have p276 : 0 ≤ (x7_1 : Int) := of_decide_eq_true (by first | (with_reducible assumption) | assumption)
                          have q276 : x7_1 < (l0.length : Int) := of_decide_eq_true (by first | (with_reducible assumption) | assumption)
                          obtain ⟨ad276, e276, hx276_0, hx276_1⟩ := at_T28 HR0.out x7_1 p276 q276
                          cases e276
                          replace hx276_0 := (HB.out.cell (World.block_lt_of_cell? w _ hx276_0)).trans hx276_0
                          replace hx276_1 := (HB.out.cell (World.block_lt_of_cell? w _ hx276_1)).trans hx276_1
                          replace p276 := eq_true p276
                          replace q276 := eq_true q276
                          go_wp2_with (first | ((with_reducible refine gate_dst (N := 4) rfl ?_); refine be_ 4 #[.int .i32 0, .int .i32 0] 28 ?_; intro gb277 hg w19 hbox hb; have BK277 := Aside0.mk (hbox); have GW277 := sz_ HB hg; have GE277 := sz_ HB hg; replace HB := Aside0.mk (below_step (bl_ HB).out hb); clear hb hbox hg; obtain ⟨hcz20_0, hcz20_1, hfz20_0, hfz20_1⟩ := bo2_ BK277; have p278 : 0 ≤ ((ji15) : Int) := of_decide_eq_true (by first | (with_reducible assumption) | assumption); have q278 : (ji15) < (l0.length : Int) := of_decide_eq_true (by first | (with_reducible assumption) | assumption); obtain ⟨ad278, e278, hx278_0, hx278_1⟩ := at_T28 HR0.out (ji15) p278 q278; obtain rfl : ad276 = ad278 := (by injection e278); have hn278_0 : ad276.block ≠ gb277 := Nat.ne_of_lt (Nat.lt_of_lt_of_le (by have := World.block_lt_of_cell? _ _ hx278_0; first | rwa [add_block] at this | exact this) GW277.out); have hn278_1 : ad276.block ≠ gb277 := Nat.ne_of_lt (Nat.lt_of_lt_of_le (by have := World.block_lt_of_cell? _ _ hx278_0; first | rwa [add_block] at this | exact this) GW277.out); replace hx278_0 := (HB.out.cell (World.block_lt_of_cell? w _ hx278_0)).trans hx278_0; replace hx278_1 := (HB.out.cell (World.block_lt_of_cell? w _ hx278_1)).trans hx278_1; replace hx278_0 := (cell_far (p := ⟨gb277, 0, none⟩) (by first | (rw [add_block]; exact hn278_0) | (show (Addr.add _ _).block ≠ _; rw [add_block]; exact hn278_0) | exact hn278_0) (.int .i32 ((rd_T28 l0 x7_1).f0))).trans hx278_0; replace hx278_1 := (cell_far (p := ⟨gb277, 0, none⟩) (by first | (rw [add_block]; exact hn278_0) | (show (Addr.add _ _).block ≠ _; rw [add_block]; exact hn278_0) | exact hn278_0) (.int .i32 ((rd_T28 l0 x7_1).f0))).trans hx278_1; replace hx278_0 := (cell_far (p := ⟨gb277, 1, none⟩) (by first | (rw [add_block]; exact hn278_1) | (show (Addr.add _ _).block ≠ _; rw [add_block]; exact hn278_1) | exact hn278_1) (.int .i32 ((rd_T28 l0 x7_1).f1))).trans hx278_0; replace hx278_1 := (cell_far (p := ⟨gb277, 1, none⟩) (by first | (rw [add_block]; exact hn278_1) | (show (Addr.add _ _).block ≠ _; rw [add_block]; exact hn278_1) | exact hn278_1) (.int .i32 ((rd_T28 l0 x7_1).f1))).trans hx278_1; (try have hy278_0 := fun (n_ : Nat) => (show ((((w19.drewN n_).setCell ⟨gb277, 0, none⟩ (.int .i32 ((rd_T28 l0 x7_1).f0))).setCell ⟨gb277, 1, none⟩ (.int .i32 ((rd_T28 l0 x7_1).f1)))).cell? _ = some _ from hx278_0)); (try have hy278_1 := fun (n_ : Nat) => (show ((((w19.drewN n_).setCell ⟨gb277, 0, none⟩ (.int .i32 ((rd_T28 l0 x7_1).f0))).setCell ⟨gb277, 1, none⟩ (.int .i32 ((rd_T28 l0 x7_1).f1)))).cell? _ = some _ from hx278_1)); clear hn278_0; clear hn278_1; replace p278 := eq_true p278; replace q278 := eq_true q278))
                          repeat (go_quiet (first | ((with_reducible refine gate_dst (N := 4) rfl ?_); refine be_ 4 #[.int .i32 0, .int .i32 0] 28 ?_; intro gb277 hg w19 hbox hb; have BK277 := Aside0.mk (hbox); have GW277 := sz_ HB hg; have GE277 := sz_ HB hg; replace HB := Aside0.mk (below_step (bl_ HB).out hb); clear hb hbox hg; obtain ⟨hcz20_0, hcz20_1, hfz20_0, hfz20_1⟩ := bo2_ BK277; have p278 : 0 ≤ ((ji15) : Int) := of_decide_eq_true (by first | (with_reducible assumption) | assumption); have q278 : (ji15) < (l0.length : Int) := of_decide_eq_true (by first | (with_reducible assumption) | assumption); obtain ⟨ad278, e278, hx278_0, hx278_1⟩ := at_T28 HR0.out (ji15) p278 q278; obtain rfl : ad276 = ad278 := (by injection e278); have hn278_0 : ad276.block ≠ gb277 := Nat.ne_of_lt (Nat.lt_of_lt_of_le (by have := World.block_lt_of_cell? _ _ hx278_0; first | rwa [add_block] at this | exact this) GW277.out); have hn278_1 : ad276.block ≠ gb277 := Nat.ne_of_lt (Nat.lt_of_lt_of_le (by have := World.block_lt_of_cell? _ _ hx278_0; first | rwa [add_block] at this | exact this) GW277.out); replace hx278_0 := (HB.out.cell (World.block_lt_of_cell? w _ hx278_0)).trans hx278_0; replace hx278_1 := (HB.out.cell (World.block_lt_of_cell? w _ hx278_1)).trans hx278_1; replace hx278_0 := (cell_far (p := ⟨gb277, 0, none⟩) (by first | (rw [add_block]; exact hn278_0) | (show (Addr.add _ _).block ≠ _; rw [add_block]; exact hn278_0) | exact hn278_0) (.int .i32 ((rd_T28 l0 x7_1).f0))).trans hx278_0; replace hx278_1 := (cell_far (p := ⟨gb277, 0, none⟩) (by first | (rw [add_block]; exact hn278_0) | (show (Addr.add _ _).block ≠ _; rw [add_block]; exact hn278_0) | exact hn278_0) (.int .i32 ((rd_T28 l0 x7_1).f0))).trans hx278_1; replace hx278_0 := (cell_far (p := ⟨gb277, 1, none⟩) (by first | (rw [add_block]; exact hn278_1) | (show (Addr.add _ _).block ≠ _; rw [add_block]; exact hn278_1) | exact hn278_1) (.int .i32 ((rd_T28 l0 x7_1).f1))).trans hx278_0; replace hx278_1 := (cell_far (p := ⟨gb277, 1, none⟩) (by first | (rw [add_block]; exact hn278_1) | (show (Addr.add _ _).block ≠ _; rw [add_block]; exact hn278_1) | exact hn278_1) (.int .i32 ((rd_T28 l0 x7_1).f1))).trans hx278_1; (try have hy278_0 := fun (n_ : Nat) => (show ((((w19.drewN n_).setCell ⟨gb277, 0, none⟩ (.int .i32 ((rd_T28 l0 x7_1).f0))).setCell ⟨gb277, 1, none⟩ (.int .i32 ((rd_T28 l0 x7_1).f1)))).cell? _ = some _ from hx278_0)); (try have hy278_1 := fun (n_ : Nat) => (show ((((w19.drewN n_).setCell ⟨gb277, 0, none⟩ (.int .i32 ((rd_T28 l0 x7_1).f0))).setCell ⟨gb277, 1, none⟩ (.int .i32 ((rd_T28 l0 x7_1).f1)))).cell? _ = some _ from hx278_1)); clear hn278_0; clear hn278_1; replace p278 := eq_true p278; replace q278 := eq_true q278)); try go_wp2_with (first | ((with_reducible refine gate_dst (N := 4) rfl ?_); refine be_ 4 #[.int .i32 0, .int .i32 0] 28 ?_; intro gb277 hg w19 hbox hb; have BK277 := Aside0.mk (hbox); have GW277 := sz_ HB hg; have GE277 := sz_ HB hg; replace HB := Aside0.mk (below_step (bl_ HB).out hb); clear hb hbox hg; obtain ⟨hcz20_0, hcz20_1, hfz20_0, hfz20_1⟩ := bo2_ BK277; have p278 : 0 ≤ ((ji15) : Int) := of_decide_eq_true (by first | (with_reducible assumption) | assumption); have q278 : (ji15) < (l0.length : Int) := of_decide_eq_true (by first | (with_reducible assumption) | assumption); obtain ⟨ad278, e278, hx278_0, hx278_1⟩ := at_T28 HR0.out (ji15) p278 q278; obtain rfl : ad276 = ad278 := (by injection e278); have hn278_0 : ad276.block ≠ gb277 := Nat.ne_of_lt (Nat.lt_of_lt_of_le (by have := World.block_lt_of_cell? _ _ hx278_0; first | rwa [add_block] at this | exact this) GW277.out); have hn278_1 : ad276.block ≠ gb277 := Nat.ne_of_lt (Nat.lt_of_lt_of_le (by have := World.block_lt_of_cell? _ _ hx278_0; first | rwa [add_block] at this | exact this) GW277.out); replace hx278_0 := (HB.out.cell (World.block_lt_of_cell? w _ hx278_0)).trans hx278_0; replace hx278_1 := (HB.out.cell (World.block_lt_of_cell? w _ hx278_1)).trans hx278_1; replace hx278_0 := (cell_far (p := ⟨gb277, 0, none⟩) (by first | (rw [add_block]; exact hn278_0) | (show (Addr.add _ _).block ≠ _; rw [add_block]; exact hn278_0) | exact hn278_0) (.int .i32 ((rd_T28 l0 x7_1).f0))).trans hx278_0; replace hx278_1 := (cell_far (p := ⟨gb277, 0, none⟩) (by first | (rw [add_block]; exact hn278_0) | (show (Addr.add _ _).block ≠ _; rw [add_block]; exact hn278_0) | exact hn278_0) (.int .i32 ((rd_T28 l0 x7_1).f0))).trans hx278_1; replace hx278_0 := (cell_far (p := ⟨gb277, 1, none⟩) (by first | (rw [add_block]; exact hn278_1) | (show (Addr.add _ _).block ≠ _; rw [add_block]; exact hn278_1) | exact hn278_1) (.int .i32 ((rd_T28 l0 x7_1).f1))).trans hx278_0; replace hx278_1 := (cell_far (p := ⟨gb277, 1, none⟩) (by first | (rw [add_block]; exact hn278_1) | (show (Addr.add _ _).block ≠ _; rw [add_block]; exact hn278_1) | exact hn278_1) (.int .i32 ((rd_T28 l0 x7_1).f1))).trans hx278_1; (try have hy278_0 := fun (n_ : Nat) => (show ((((w19.drewN n_).setCell ⟨gb277, 0, none⟩ (.int .i32 ((rd_T28 l0 x7_1).f0))).setCell ⟨gb277, 1, none⟩ (.int .i32 ((rd_T28 l0 x7_1).f1)))).cell? _ = some _ from hx278_0)); (try have hy278_1 := fun (n_ : Nat) => (show ((((w19.drewN n_).setCell ⟨gb277, 0, none⟩ (.int .i32 ((rd_T28 l0 x7_1).f0))).setCell ⟨gb277, 1, none⟩ (.int .i32 ((rd_T28 l0 x7_1).f1)))).cell? _ = some _ from hx278_1)); clear hn278_0; clear hn278_1; replace p278 := eq_true p278; replace q278 := eq_true q278)))
                          go_ret
                          exact ⟨by first | rfl | (simp [errW_none, errW_some] <;> rfl) | (simp only [← hji15]; first | rfl | (simp [errW_none, errW_some] <;> rfl)) | (simp [*, errW_none, errW_some] <;> first | rfl | exact given_isEmpty _ | exact (given_isEmpty _).symm), by repeat (first | (with_reducible first | exact HB.out | apply below_alloc | apply pw_below_drewN | apply below_drew1 | refine below_set ?_ GE277.out) | exact HB.out)⟩
                        · rw [if_neg c18] at H
                          have c18b0 : decide (((rd_T28 l0 x7_1).f0) ≤ (wrap32 (((rd_T28 l0 (ji15)).f1) + 1))) = false := decide_eq_false c18
                          clear c18
                          have H' := Aside0.mk H
                          clear H
                          have p276 : 0 ≤ (x7_1 : Int) := of_decide_eq_true (by first | (with_reducible assumption) | assumption)
                          have q276 : x7_1 < (l0.length : Int) := of_decide_eq_true (by first | (with_reducible assumption) | assumption)
                          obtain ⟨ad276, e276, hx276_0, hx276_1⟩ := at_T28 HR0.out x7_1 p276 q276
                          cases e276
                          replace hx276_0 := (HB.out.cell (World.block_lt_of_cell? w _ hx276_0)).trans hx276_0
                          replace hx276_1 := (HB.out.cell (World.block_lt_of_cell? w _ hx276_1)).trans hx276_1
                          replace p276 := eq_true p276
                          replace q276 := eq_true q276
                          go_wp2_with (first | ((with_reducible refine gate_dst (N := 4) rfl ?_); refine be_ 4 #[.int .i32 0, .int .i32 0] 28 ?_; intro gb277 hg w21 hbox hb; have BK277 := Aside0.mk (hbox); have GW277 := sz_ HB hg; have GE277 := sz_ HB hg; replace HB := Aside0.mk (below_step (bl_ HB).out hb); clear hb hbox hg; obtain ⟨hcz22_0, hcz22_1, hfz22_0, hfz22_1⟩ := bo2_ BK277; have p278 : 0 ≤ ((ji15) : Int) := of_decide_eq_true (by first | (with_reducible assumption) | assumption); have q278 : (ji15) < (l0.length : Int) := of_decide_eq_true (by first | (with_reducible assumption) | assumption); obtain ⟨ad278, e278, hx278_0, hx278_1⟩ := at_T28 HR0.out (ji15) p278 q278; obtain rfl : ad276 = ad278 := (by injection e278); have hn278_0 : ad276.block ≠ gb277 := Nat.ne_of_lt (Nat.lt_of_lt_of_le (by have := World.block_lt_of_cell? _ _ hx278_0; first | rwa [add_block] at this | exact this) GW277.out); have hn278_1 : ad276.block ≠ gb277 := Nat.ne_of_lt (Nat.lt_of_lt_of_le (by have := World.block_lt_of_cell? _ _ hx278_0; first | rwa [add_block] at this | exact this) GW277.out); replace hx278_0 := (HB.out.cell (World.block_lt_of_cell? w _ hx278_0)).trans hx278_0; replace hx278_1 := (HB.out.cell (World.block_lt_of_cell? w _ hx278_1)).trans hx278_1; replace hx278_0 := (cell_far (p := ⟨gb277, 0, none⟩) (by first | (rw [add_block]; exact hn278_0) | (show (Addr.add _ _).block ≠ _; rw [add_block]; exact hn278_0) | exact hn278_0) (.int .i32 ((rd_T28 l0 x7_1).f0))).trans hx278_0; replace hx278_1 := (cell_far (p := ⟨gb277, 0, none⟩) (by first | (rw [add_block]; exact hn278_0) | (show (Addr.add _ _).block ≠ _; rw [add_block]; exact hn278_0) | exact hn278_0) (.int .i32 ((rd_T28 l0 x7_1).f0))).trans hx278_1; replace hx278_0 := (cell_far (p := ⟨gb277, 1, none⟩) (by first | (rw [add_block]; exact hn278_1) | (show (Addr.add _ _).block ≠ _; rw [add_block]; exact hn278_1) | exact hn278_1) (.int .i32 ((rd_T28 l0 x7_1).f1))).trans hx278_0; replace hx278_1 := (cell_far (p := ⟨gb277, 1, none⟩) (by first | (rw [add_block]; exact hn278_1) | (show (Addr.add _ _).block ≠ _; rw [add_block]; exact hn278_1) | exact hn278_1) (.int .i32 ((rd_T28 l0 x7_1).f1))).trans hx278_1; (try have hy278_0 := fun (n_ : Nat) => (show ((((w21.drewN n_).setCell ⟨gb277, 0, none⟩ (.int .i32 ((rd_T28 l0 x7_1).f0))).setCell ⟨gb277, 1, none⟩ (.int .i32 ((rd_T28 l0 x7_1).f1)))).cell? _ = some _ from hx278_0)); (try have hy278_1 := fun (n_ : Nat) => (show ((((w21.drewN n_).setCell ⟨gb277, 0, none⟩ (.int .i32 ((rd_T28 l0 x7_1).f0))).setCell ⟨gb277, 1, none⟩ (.int .i32 ((rd_T28 l0 x7_1).f1)))).cell? _ = some _ from hx278_1)); clear hn278_0; clear hn278_1; replace p278 := eq_true p278; replace q278 := eq_true q278))
                          repeat (go_quiet (first | ((with_reducible refine gate_dst (N := 4) rfl ?_); refine be_ 4 #[.int .i32 0, .int .i32 0] 28 ?_; intro gb277 hg w21 hbox hb; have BK277 := Aside0.mk (hbox); have GW277 := sz_ HB hg; have GE277 := sz_ HB hg; replace HB := Aside0.mk (below_step (bl_ HB).out hb); clear hb hbox hg; obtain ⟨hcz22_0, hcz22_1, hfz22_0, hfz22_1⟩ := bo2_ BK277; have p278 : 0 ≤ ((ji15) : Int) := of_decide_eq_true (by first | (with_reducible assumption) | assumption); have q278 : (ji15) < (l0.length : Int) := of_decide_eq_true (by first | (with_reducible assumption) | assumption); obtain ⟨ad278, e278, hx278_0, hx278_1⟩ := at_T28 HR0.out (ji15) p278 q278; obtain rfl : ad276 = ad278 := (by injection e278); have hn278_0 : ad276.block ≠ gb277 := Nat.ne_of_lt (Nat.lt_of_lt_of_le (by have := World.block_lt_of_cell? _ _ hx278_0; first | rwa [add_block] at this | exact this) GW277.out); have hn278_1 : ad276.block ≠ gb277 := Nat.ne_of_lt (Nat.lt_of_lt_of_le (by have := World.block_lt_of_cell? _ _ hx278_0; first | rwa [add_block] at this | exact this) GW277.out); replace hx278_0 := (HB.out.cell (World.block_lt_of_cell? w _ hx278_0)).trans hx278_0; replace hx278_1 := (HB.out.cell (World.block_lt_of_cell? w _ hx278_1)).trans hx278_1; replace hx278_0 := (cell_far (p := ⟨gb277, 0, none⟩) (by first | (rw [add_block]; exact hn278_0) | (show (Addr.add _ _).block ≠ _; rw [add_block]; exact hn278_0) | exact hn278_0) (.int .i32 ((rd_T28 l0 x7_1).f0))).trans hx278_0; replace hx278_1 := (cell_far (p := ⟨gb277, 0, none⟩) (by first | (rw [add_block]; exact hn278_0) | (show (Addr.add _ _).block ≠ _; rw [add_block]; exact hn278_0) | exact hn278_0) (.int .i32 ((rd_T28 l0 x7_1).f0))).trans hx278_1; replace hx278_0 := (cell_far (p := ⟨gb277, 1, none⟩) (by first | (rw [add_block]; exact hn278_1) | (show (Addr.add _ _).block ≠ _; rw [add_block]; exact hn278_1) | exact hn278_1) (.int .i32 ((rd_T28 l0 x7_1).f1))).trans hx278_0; replace hx278_1 := (cell_far (p := ⟨gb277, 1, none⟩) (by first | (rw [add_block]; exact hn278_1) | (show (Addr.add _ _).block ≠ _; rw [add_block]; exact hn278_1) | exact hn278_1) (.int .i32 ((rd_T28 l0 x7_1).f1))).trans hx278_1; (try have hy278_0 := fun (n_ : Nat) => (show ((((w21.drewN n_).setCell ⟨gb277, 0, none⟩ (.int .i32 ((rd_T28 l0 x7_1).f0))).setCell ⟨gb277, 1, none⟩ (.int .i32 ((rd_T28 l0 x7_1).f1)))).cell? _ = some _ from hx278_0)); (try have hy278_1 := fun (n_ : Nat) => (show ((((w21.drewN n_).setCell ⟨gb277, 0, none⟩ (.int .i32 ((rd_T28 l0 x7_1).f0))).setCell ⟨gb277, 1, none⟩ (.int .i32 ((rd_T28 l0 x7_1).f1)))).cell? _ = some _ from hx278_1)); clear hn278_0; clear hn278_1; replace p278 := eq_true p278; replace q278 := eq_true q278)); try go_wp2_with (first | ((with_reducible refine gate_dst (N := 4) rfl ?_); refine be_ 4 #[.int .i32 0, .int .i32 0] 28 ?_; intro gb277 hg w21 hbox hb; have BK277 := Aside0.mk (hbox); have GW277 := sz_ HB hg; have GE277 := sz_ HB hg; replace HB := Aside0.mk (below_step (bl_ HB).out hb); clear hb hbox hg; obtain ⟨hcz22_0, hcz22_1, hfz22_0, hfz22_1⟩ := bo2_ BK277; have p278 : 0 ≤ ((ji15) : Int) := of_decide_eq_true (by first | (with_reducible assumption) | assumption); have q278 : (ji15) < (l0.length : Int) := of_decide_eq_true (by first | (with_reducible assumption) | assumption); obtain ⟨ad278, e278, hx278_0, hx278_1⟩ := at_T28 HR0.out (ji15) p278 q278; obtain rfl : ad276 = ad278 := (by injection e278); have hn278_0 : ad276.block ≠ gb277 := Nat.ne_of_lt (Nat.lt_of_lt_of_le (by have := World.block_lt_of_cell? _ _ hx278_0; first | rwa [add_block] at this | exact this) GW277.out); have hn278_1 : ad276.block ≠ gb277 := Nat.ne_of_lt (Nat.lt_of_lt_of_le (by have := World.block_lt_of_cell? _ _ hx278_0; first | rwa [add_block] at this | exact this) GW277.out); replace hx278_0 := (HB.out.cell (World.block_lt_of_cell? w _ hx278_0)).trans hx278_0; replace hx278_1 := (HB.out.cell (World.block_lt_of_cell? w _ hx278_1)).trans hx278_1; replace hx278_0 := (cell_far (p := ⟨gb277, 0, none⟩) (by first | (rw [add_block]; exact hn278_0) | (show (Addr.add _ _).block ≠ _; rw [add_block]; exact hn278_0) | exact hn278_0) (.int .i32 ((rd_T28 l0 x7_1).f0))).trans hx278_0; replace hx278_1 := (cell_far (p := ⟨gb277, 0, none⟩) (by first | (rw [add_block]; exact hn278_0) | (show (Addr.add _ _).block ≠ _; rw [add_block]; exact hn278_0) | exact hn278_0) (.int .i32 ((rd_T28 l0 x7_1).f0))).trans hx278_1; replace hx278_0 := (cell_far (p := ⟨gb277, 1, none⟩) (by first | (rw [add_block]; exact hn278_1) | (show (Addr.add _ _).block ≠ _; rw [add_block]; exact hn278_1) | exact hn278_1) (.int .i32 ((rd_T28 l0 x7_1).f1))).trans hx278_0; replace hx278_1 := (cell_far (p := ⟨gb277, 1, none⟩) (by first | (rw [add_block]; exact hn278_1) | (show (Addr.add _ _).block ≠ _; rw [add_block]; exact hn278_1) | exact hn278_1) (.int .i32 ((rd_T28 l0 x7_1).f1))).trans hx278_1; (try have hy278_0 := fun (n_ : Nat) => (show ((((w21.drewN n_).setCell ⟨gb277, 0, none⟩ (.int .i32 ((rd_T28 l0 x7_1).f0))).setCell ⟨gb277, 1, none⟩ (.int .i32 ((rd_T28 l0 x7_1).f1)))).cell? _ = some _ from hx278_0)); (try have hy278_1 := fun (n_ : Nat) => (show ((((w21.drewN n_).setCell ⟨gb277, 0, none⟩ (.int .i32 ((rd_T28 l0 x7_1).f0))).setCell ⟨gb277, 1, none⟩ (.int .i32 ((rd_T28 l0 x7_1).f1)))).cell? _ = some _ from hx278_1)); clear hn278_0; clear hn278_1; replace p278 := eq_true p278; replace q278 := eq_true q278)))
                          go_roundg k1
                          case measure => have := HK1.out; omega
                          case rel => exact ⟨(wrap64 (x7_1 + 1)), eq_, H', ⟨by have := HK1.out; omega⟩, (bl_ HB)⟩
                      · rw [if_neg c17] at H
                        exact absurd H (by simp)
                    · rw [if_neg c16] at H
                      exact absurd H (by simp)
                  · rw [if_neg c14] at H
                    have c14b0 : decide (0 < x7_1) = false := decide_eq_false c14
                    clear c14
                    have H' := Aside0.mk H
                    clear H
                    have p276 : 0 ≤ (x7_1 : Int) := of_decide_eq_true (by first | (with_reducible assumption) | assumption)
                    have q276 : x7_1 < (l0.length : Int) := of_decide_eq_true (by first | (with_reducible assumption) | assumption)
                    obtain ⟨ad276, e276, hx276_0, hx276_1⟩ := at_T28 HR0.out x7_1 p276 q276
                    cases e276
                    replace hx276_0 := (HB.out.cell (World.block_lt_of_cell? w _ hx276_0)).trans hx276_0
                    replace hx276_1 := (HB.out.cell (World.block_lt_of_cell? w _ hx276_1)).trans hx276_1
                    replace p276 := eq_true p276
                    replace q276 := eq_true q276
                    go_wp2_with (first | ((with_reducible refine gate_dst (N := 4) rfl ?_); refine be_ 4 #[.int .i32 0, .int .i32 0] 28 ?_; intro gb277 hg w23 hbox hb; have BK277 := Aside0.mk (hbox); have GW277 := sz_ HB hg; have GE277 := sz_ HB hg; replace HB := Aside0.mk (below_step (bl_ HB).out hb); clear hb hbox hg; obtain ⟨hcz24_0, hcz24_1, hfz24_0, hfz24_1⟩ := bo2_ BK277))
                    repeat (go_quiet (first | ((with_reducible refine gate_dst (N := 4) rfl ?_); refine be_ 4 #[.int .i32 0, .int .i32 0] 28 ?_; intro gb277 hg w23 hbox hb; have BK277 := Aside0.mk (hbox); have GW277 := sz_ HB hg; have GE277 := sz_ HB hg; replace HB := Aside0.mk (below_step (bl_ HB).out hb); clear hb hbox hg; obtain ⟨hcz24_0, hcz24_1, hfz24_0, hfz24_1⟩ := bo2_ BK277)); try go_wp2_with (first | ((with_reducible refine gate_dst (N := 4) rfl ?_); refine be_ 4 #[.int .i32 0, .int .i32 0] 28 ?_; intro gb277 hg w23 hbox hb; have BK277 := Aside0.mk (hbox); have GW277 := sz_ HB hg; have GE277 := sz_ HB hg; replace HB := Aside0.mk (below_step (bl_ HB).out hb); clear hb hbox hg; obtain ⟨hcz24_0, hcz24_1, hfz24_0, hfz24_1⟩ := bo2_ BK277)))
                    go_roundg k1
                    case measure => have := HK1.out; omega
                    case rel => exact ⟨(wrap64 (x7_1 + 1)), eq_, H', ⟨by have := HK1.out; omega⟩, (bl_ HB)⟩
          · rw [if_neg c4] at H
            exact absurd H (by simp)
        · rw [if_neg c3] at H
          exact absurd H (by simp)
      · rw [if_neg c2] at H
        have c2b0 : decide (x7_1 < (l0.length : Int)) = false := decide_eq_false c2
        clear c2
        obtain rfl := Option.some.inj H
        go_wp2
        repeat (go_quiet (fail); try go_wp2)
        go_ret
        exact ⟨ew_, (bl_ HB).out⟩

end Go.Proofs.YtnpohgoacbpcjaaGreatDoor.P
