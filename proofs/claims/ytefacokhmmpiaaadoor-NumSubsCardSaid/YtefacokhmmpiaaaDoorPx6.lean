-- written by a program of this session (wip/p2)
import Derived.Test.YtefacokhmmpiaaaDoorPx0
import Derived.Test.YtefacokhmmpiaaaDoorPx1
import Derived.Test.YtefacokhmmpiaaaDoorPx2
import Derived.Test.YtefacokhmmpiaaaDoorPx4
namespace Go.Proofs.YtefacokhmmpiaaaDoor.P
open Go.RowKit Go.Proofs.YtefacokhmmpiaaaDoorW.PrintWords Go.Proofs.YtefacokhmmpiaaaDoorW.PrintLast Go.Proofs.YtefacokhmmpiaaaDoorW.PrintMore
attribute [local go_sem] max2_int min2_int max_two min_two max_three min_three max_four min_four   -- for this text's walks alone
set_option linter.unusedVariables false
set_option linter.unusedSimpArgs false

/-! ### florinlaw01_NumSubs: function 7 -/
mutual
def florinlaw01_NumSubs.j0 : Nat → List Int → List Int → Bool → Option (Bool)
  | 0, _, _, _ => none
  | k + 1, x0, x1, x21 => if x21 = true then (some true) else ((florinlaw01_Digits.f k x0).bind fun t218 => ((florinlaw01_Digits.f k x1).bind fun t219 => ((num_Sub.f k t218 t219).bind fun bt220 => ((num_Sub.f k t219 t218).bind fun bt222 => ((num_Cmp.f k t218 t219).bind fun t224 => ((num_Cmp.f k t219 t218).bind fun t225 => (if t224 = (wrap64 (-t225)) then (if (bt220.2 != (decide (t224 ≥ 0))) = true then (florinlaw01_NumSubs.j1 k t218 t219 bt220.1 bt220.2 bt222.1 bt222.2 t224 true) else (florinlaw01_NumSubs.j1 k t218 t219 bt220.1 bt220.2 bt222.1 bt222.2 t224 (bt222.2 != (decide (t224 ≤ 0))))) else (florinlaw01_NumSubs.j1 k t218 t219 bt220.1 bt220.2 bt222.1 bt222.2 t224 true))))))))
def florinlaw01_NumSubs.j1 : Nat → ByteArray → ByteArray → ByteArray → Bool → ByteArray → Bool → Int → Bool → Option (Bool)
  | 0, _, _, _, _, _, _, _, _ => none
  | k + 1, x5, x6, x7, x8, x9, x10, x11, x58 => if x58 = true then (some false) else (if x8 = true then ((num_Add.f k x7 x6).bind fun t226 => ((florinlaw01_bare.f k x5).bind fun t227 => (if t226.toList = t227.toList then (if x10 = true then ((num_Add.f k x9 x5).bind fun t228 => ((florinlaw01_bare.f k x6).bind fun t229 => (if t228.toList = t229.toList then (some ((x11 == 0) == (t227.toList == t229.toList))) else (some false)))) else (if x9.toList = ([] : List UInt8) then ((florinlaw01_bare.f k x6).bind fun t230 => (some ((x11 == 0) == (t227.toList == t230.toList)))) else (some false))) else (some false)))) else (if x7.toList = ([] : List UInt8) then (if x10 = true then ((num_Add.f k x9 x5).bind fun t231 => ((florinlaw01_bare.f k x6).bind fun t232 => (if t231.toList = t232.toList then ((florinlaw01_bare.f k x5).bind fun t233 => (some ((x11 == 0) == (t233.toList == t232.toList)))) else (some false)))) else (if x9.toList = ([] : List UInt8) then ((florinlaw01_bare.f k x5).bind fun t234 => ((florinlaw01_bare.f k x6).bind fun t235 => (some ((x11 == 0) == (t234.toList == t235.toList))))) else (some false))) else (some false)))
end
def florinlaw01_NumSubs.f (k : Nat) (l0 : List Int) (l1 : List Int) : Option (Bool) := (florinlaw01_head.f k).bind fun t217 => (if t217 = true then (if (l0.length : Int) > 200 then (florinlaw01_NumSubs.j0 k l0 l1 true) else (florinlaw01_NumSubs.j0 k l0 l1 (decide ((l1.length : Int) > 200)))) else (some false))
theorem florinlaw01_NumSubs.mono_l : ∀ k, (∀ y0 y1 y2, LeO (florinlaw01_NumSubs.j0 k y0 y1 y2) (florinlaw01_NumSubs.j0 (k + 1) y0 y1 y2)) ∧ (∀ y0 y1 y2 y3 y4 y5 y6 y7, LeO (florinlaw01_NumSubs.j1 k y0 y1 y2 y3 y4 y5 y6 y7) (florinlaw01_NumSubs.j1 (k + 1) y0 y1 y2 y3 y4 y5 y6 y7))
  | 0 => ⟨fun _ _ _ r h => by simp [florinlaw01_NumSubs.j0] at h, fun _ _ _ _ _ _ _ _ r h => by simp [florinlaw01_NumSubs.j1] at h⟩
  | k + 1 => by
    obtain ⟨ih0, ih1⟩ := florinlaw01_NumSubs.mono_l k
    refine ⟨?_, ?_⟩
    · intro y0 y1 y2
      unfold florinlaw01_NumSubs.j0
      repeat' first
      | (with_reducible exact ih0 _ _ _)
      | (with_reducible exact ih1 _ _ _ _ _ _ _ _)
      | (with_reducible exact florinlaw01_Digits.mono _ _)
      | (with_reducible exact florinlaw01_bare.mono _ _)
      | (with_reducible exact florinlaw01_head.mono _)
      | (with_reducible exact num_Add.mono _ _ _)
      | (with_reducible exact num_Cmp.mono _ _ _)
      | (with_reducible exact num_Sub.mono _ _ _)
      | (with_reducible exact LeO.refl _)
      | (with_reducible exact LeO.none _)
      | (with_reducible refine LeO.ite ?_ ?_)
      | (with_reducible refine LeO.bind ?_ (fun _ => ?_))
      | exact ih0 _ _ _
      | exact ih1 _ _ _ _ _ _ _ _
      | exact florinlaw01_Digits.mono _ _
      | exact florinlaw01_bare.mono _ _
      | exact florinlaw01_head.mono _
      | exact num_Add.mono _ _ _
      | exact num_Cmp.mono _ _ _
      | exact num_Sub.mono _ _ _
      | exact LeO.none _
      | refine LeO.ite ?_ ?_
      | refine LeO.bind ?_ (fun _ => ?_)
    · intro y0 y1 y2 y3 y4 y5 y6 y7
      unfold florinlaw01_NumSubs.j1
      repeat' first
      | (with_reducible exact ih0 _ _ _)
      | (with_reducible exact ih1 _ _ _ _ _ _ _ _)
      | (with_reducible exact florinlaw01_Digits.mono _ _)
      | (with_reducible exact florinlaw01_bare.mono _ _)
      | (with_reducible exact florinlaw01_head.mono _)
      | (with_reducible exact num_Add.mono _ _ _)
      | (with_reducible exact num_Cmp.mono _ _ _)
      | (with_reducible exact num_Sub.mono _ _ _)
      | (with_reducible exact LeO.refl _)
      | (with_reducible exact LeO.none _)
      | (with_reducible refine LeO.ite ?_ ?_)
      | (with_reducible refine LeO.bind ?_ (fun _ => ?_))
      | exact ih0 _ _ _
      | exact ih1 _ _ _ _ _ _ _ _
      | exact florinlaw01_Digits.mono _ _
      | exact florinlaw01_bare.mono _ _
      | exact florinlaw01_head.mono _
      | exact num_Add.mono _ _ _
      | exact num_Cmp.mono _ _ _
      | exact num_Sub.mono _ _ _
      | exact LeO.none _
      | refine LeO.ite ?_ ?_
      | refine LeO.bind ?_ (fun _ => ?_)
theorem florinlaw01_NumSubs.mono : ∀ a0 a1 k, LeO (florinlaw01_NumSubs.f k a0 a1) (florinlaw01_NumSubs.f (k + 1) a0 a1) := by
  intro a0 a1 k
  obtain ⟨ih0, ih1⟩ := florinlaw01_NumSubs.mono_l k
  unfold florinlaw01_NumSubs.f
  repeat' first
      | (with_reducible exact ih0 _ _ _)
      | (with_reducible exact ih1 _ _ _ _ _ _ _ _)
      | (with_reducible exact florinlaw01_Digits.mono _ _)
      | (with_reducible exact florinlaw01_bare.mono _ _)
      | (with_reducible exact florinlaw01_head.mono _)
      | (with_reducible exact num_Add.mono _ _ _)
      | (with_reducible exact num_Cmp.mono _ _ _)
      | (with_reducible exact num_Sub.mono _ _ _)
      | (with_reducible exact LeO.refl _)
      | (with_reducible exact LeO.none _)
      | (with_reducible refine LeO.ite ?_ ?_)
      | (with_reducible refine LeO.bind ?_ (fun _ => ?_))
      | exact ih0 _ _ _
      | exact ih1 _ _ _ _ _ _ _ _
      | exact florinlaw01_Digits.mono _ _
      | exact florinlaw01_bare.mono _ _
      | exact florinlaw01_head.mono _
      | exact num_Add.mono _ _ _
      | exact num_Cmp.mono _ _ _
      | exact num_Sub.mono _ _ _
      | exact LeO.none _
      | refine LeO.ite ?_ ?_
      | refine LeO.bind ?_ (fun _ => ?_)
set_option maxHeartbeats 8000000 in
set_option maxRecDepth 100000 in
theorem florinlaw01_NumSubs.calls (k : Nat) (A0 : Option Addr) (c0 : Nat) (l0 : List Int) (A1 : Option Addr) (c1 : Nat) (l1 : List Int) (r : Bool) (w : World) (hr0 : Kd.C (Kd.int .u8) w A0 l0.length l0) (hc0 : l0.length ≤ c0) (hr1 : Kd.C (Kd.int .u8) w A1 l1.length l1) (hc1 : l1.length ≤ c1) (h : florinlaw01_NumSubs.f k l0 l1 = some r) :
    Calls Tryd.prog 7 #[.slice A0 l0.length c0, .slice A1 l1.length c1] w fun e w' => e = .returned (.bool r) ∧ Below w.heap.size w w' := by
  have HR0 := Aside0.mk hr0
  have HC0 := Aside0.mk hc0
  clear hr0 hc0
  have HR1 := Aside0.mk hr1
  have HC1 := Aside0.mk hc1
  clear hr1 hc1
  have HB := Aside0.mk (Below.refl w.heap.size w)
  have H : ((florinlaw01_head.f k).bind fun t217 => (if t217 = true then (if (l0.length : Int) > 200 then (florinlaw01_NumSubs.j0 k l0 l1 true) else (florinlaw01_NumSubs.j0 k l0 l1 (decide ((l1.length : Int) > 200)))) else (some false))) = some r := h
  clear h
  replace H := Option.bind_eq_some_iff.mp H
  obtain ⟨t217, A30, H⟩ := H
  replace H : (if t217 = true then (if (l0.length : Int) > 200 then (florinlaw01_NumSubs.j0 k l0 l1 true) else (florinlaw01_NumSubs.j0 k l0 l1 (decide ((l1.length : Int) > 200)))) else (some false)) = some r := H
  have A3 := Aside0.mk A30
  clear A30
  by_cases c4 : t217 = true
  · subst c4
    have H1 : (if (l0.length : Int) > 200 then (florinlaw01_NumSubs.j0 k l0 l1 true) else (florinlaw01_NumSubs.j0 k l0 l1 (decide ((l1.length : Int) > 200)))) = some r := by rw [if_pos rfl] at H; exact H
    clear H
    have H := H1
    clear H1
    have HC5 := Aside0.mk H
    clear H
    go_enter Tryd.func7, Tryd.ntmps7
    go_upto_region 3 with (first | ((with_reducible refine gate_callee (f := 12) rfl ?_); refine goesL_ (some 12) rfl rfl Tryd.func12 (by kernel_rfl) rfl #[] rfl (by (try simp only [List.map_toArray, List.map_cons, List.map_nil]); first | done | rfl | (simp only [List.length_drop, List.length_take]; rfl)) ?_; (with_reducible refine (florinlaw01_head.calls k  true _ A3.out).mono ?_); rintro e w6 ⟨rfl, hb⟩; refine ⟨_, rfl, ?_⟩; have n0_ := Aside0.mk (below_step (by repeat (first | (with_reducible first | exact HB.out | apply below_alloc | apply pw_below_drewN | apply below_drew1) | exact HB.out)) hb); clear HB; have HB := n0_; clear n0_; (try clear hb); (try clear hb2); (try clear hk); (try clear hi)))
    (try simp only [Act.put, List.setIfInBounds_toArray, List.set_cons_zero, List.set_cons_succ])
    go_cut [21] (fun v21 wc => ∃ (kq : Nat) (x21_4 : Bool), v21 = .bool x21_4 ∧ Aside0 (florinlaw01_NumSubs.j0 kq l0 l1 x21_4 = some r) ∧ Aside0 (kq ≤ k) ∧ Aside0 (Below w.heap.size w wc))
    case first =>
      have H := HC5.out
      clear HC5
      by_cases c7 : (l0.length : Int) > 200
      · rw [if_pos c7] at H
        have c7b0 : decide (200 < (l0.length : Int)) = true := decide_eq_true c7
        have c7b1 : decide (200 < l0.length) = true := decide_eq_true (by omega)
        clear c7
        (first | rw [c7b0] | (simp only [i64_w, i32_w]; rw [c7b0]) | skip)
        have H' := Aside0.mk H
        clear H
        go_wp2
        go_meet
        case rel => exact ⟨_, (true), (by first | rfl | (simp; done) | (simp [*]; done) | (simp; first | exact given_isEmpty _ | exact (given_isEmpty _).symm)), H', ⟨by first | omega | exact Nat.le_refl _⟩, ⟨by repeat (first | (with_reducible first | exact HB.out | apply below_alloc | apply pw_below_drewN | apply below_drew1) | exact HB.out)⟩⟩
      · rw [if_neg c7] at H
        have c7b0 : decide (200 < (l0.length : Int)) = false := decide_eq_false c7
        have c7b1 : decide (200 < l0.length) = false := decide_eq_false (by omega)
        clear c7
        (first | rw [c7b0] | (simp only [i64_w, i32_w]; rw [c7b0]) | skip)
        have H' := Aside0.mk H
        clear H
        go_wp2
        go_meet
        case rel => exact ⟨_, (decide ((l1.length : Int) > 200)), (by first | rfl | (simp; done) | (simp [*]; done) | (simp; first | exact given_isEmpty _ | exact (given_isEmpty _).symm)), H', ⟨by first | omega | exact Nat.le_refl _⟩, ⟨by repeat (first | (with_reducible first | exact HB.out | apply below_alloc | apply pw_below_drewN | apply below_drew1) | exact HB.out)⟩⟩
    case rest =>
      clear HC5
      try clear c1
      try clear p2
      try clear c4
      try clear c7
      try clear c7b0
      try clear c7b1
      obtain ⟨kq, x21_4, rfl, HA, HJ4, HB⟩ := hcut
      cases kq with
      | zero => exact absurd HA.out (by simp [florinlaw01_NumSubs.j0])
      | succ kj4 =>
        have H := HA.out
        clear HA
        simp only [florinlaw01_NumSubs.j0] at H
        by_cases c8 : x21_4 = true
        · subst c8
          have H1 : (some true) = some r := by rw [if_pos rfl] at H; exact H
          clear H
          have H := H1
          clear H1
          obtain rfl := Option.some.inj H
          go_wp2
          go_ret
          exact ⟨by first | rfl | (simp [errW_none, errW_some] <;> rfl) | (simp [*, errW_none, errW_some] <;> rfl), by repeat (first | (with_reducible first | exact HB.out | apply below_alloc | apply pw_below_drewN | apply below_drew1) | exact HB.out)⟩
        · replace c8 := Bool.eq_false_iff.mpr c8
          subst c8
          have H1 : ((florinlaw01_Digits.f kj4 l0).bind fun t218 => ((florinlaw01_Digits.f kj4 l1).bind fun t219 => ((num_Sub.f kj4 t218 t219).bind fun bt220 => ((num_Sub.f kj4 t219 t218).bind fun bt222 => ((num_Cmp.f kj4 t218 t219).bind fun t224 => ((num_Cmp.f kj4 t219 t218).bind fun t225 => (if t224 = (wrap64 (-t225)) then (if (bt220.2 != (decide (t224 ≥ 0))) = true then (florinlaw01_NumSubs.j1 kj4 t218 t219 bt220.1 bt220.2 bt222.1 bt222.2 t224 true) else (florinlaw01_NumSubs.j1 kj4 t218 t219 bt220.1 bt220.2 bt222.1 bt222.2 t224 (bt222.2 != (decide (t224 ≤ 0))))) else (florinlaw01_NumSubs.j1 kj4 t218 t219 bt220.1 bt220.2 bt222.1 bt222.2 t224 true)))))))) = some r := by rw [if_neg (show ¬ (false = true) by decide)] at H; exact H
          clear H
          have H := H1
          clear H1
          replace H := Option.bind_eq_some_iff.mp H
          obtain ⟨t218, A90, H⟩ := H
          replace H : ((florinlaw01_Digits.f kj4 l1).bind fun t219 => ((num_Sub.f kj4 t218 t219).bind fun bt220 => ((num_Sub.f kj4 t219 t218).bind fun bt222 => ((num_Cmp.f kj4 t218 t219).bind fun t224 => ((num_Cmp.f kj4 t219 t218).bind fun t225 => (if t224 = (wrap64 (-t225)) then (if (bt220.2 != (decide (t224 ≥ 0))) = true then (florinlaw01_NumSubs.j1 kj4 t218 t219 bt220.1 bt220.2 bt222.1 bt222.2 t224 true) else (florinlaw01_NumSubs.j1 kj4 t218 t219 bt220.1 bt220.2 bt222.1 bt222.2 t224 (bt222.2 != (decide (t224 ≤ 0))))) else (florinlaw01_NumSubs.j1 kj4 t218 t219 bt220.1 bt220.2 bt222.1 bt222.2 t224 true))))))) = some r := H
          have A9 := Aside0.mk A90
          clear A90
          replace H := Option.bind_eq_some_iff.mp H
          obtain ⟨t219, A100, H⟩ := H
          replace H : ((num_Sub.f kj4 t218 t219).bind fun bt220 => ((num_Sub.f kj4 t219 t218).bind fun bt222 => ((num_Cmp.f kj4 t218 t219).bind fun t224 => ((num_Cmp.f kj4 t219 t218).bind fun t225 => (if t224 = (wrap64 (-t225)) then (if (bt220.2 != (decide (t224 ≥ 0))) = true then (florinlaw01_NumSubs.j1 kj4 t218 t219 bt220.1 bt220.2 bt222.1 bt222.2 t224 true) else (florinlaw01_NumSubs.j1 kj4 t218 t219 bt220.1 bt220.2 bt222.1 bt222.2 t224 (bt222.2 != (decide (t224 ≤ 0))))) else (florinlaw01_NumSubs.j1 kj4 t218 t219 bt220.1 bt220.2 bt222.1 bt222.2 t224 true)))))) = some r := H
          have A10 := Aside0.mk A100
          clear A100
          replace H := Option.bind_eq_some_iff.mp H
          obtain ⟨⟨t220, t221⟩, A110, H⟩ := H
          replace H : ((num_Sub.f kj4 t219 t218).bind fun bt222 => ((num_Cmp.f kj4 t218 t219).bind fun t224 => ((num_Cmp.f kj4 t219 t218).bind fun t225 => (if t224 = (wrap64 (-t225)) then (if (t221 != (decide (t224 ≥ 0))) = true then (florinlaw01_NumSubs.j1 kj4 t218 t219 t220 t221 bt222.1 bt222.2 t224 true) else (florinlaw01_NumSubs.j1 kj4 t218 t219 t220 t221 bt222.1 bt222.2 t224 (bt222.2 != (decide (t224 ≤ 0))))) else (florinlaw01_NumSubs.j1 kj4 t218 t219 t220 t221 bt222.1 bt222.2 t224 true))))) = some r := H
          have A11 := Aside0.mk A110
          clear A110
          replace H := Option.bind_eq_some_iff.mp H
          obtain ⟨⟨t222, t223⟩, A120, H⟩ := H
          replace H : ((num_Cmp.f kj4 t218 t219).bind fun t224 => ((num_Cmp.f kj4 t219 t218).bind fun t225 => (if t224 = (wrap64 (-t225)) then (if (t221 != (decide (t224 ≥ 0))) = true then (florinlaw01_NumSubs.j1 kj4 t218 t219 t220 t221 t222 t223 t224 true) else (florinlaw01_NumSubs.j1 kj4 t218 t219 t220 t221 t222 t223 t224 (t223 != (decide (t224 ≤ 0))))) else (florinlaw01_NumSubs.j1 kj4 t218 t219 t220 t221 t222 t223 t224 true)))) = some r := H
          have A12 := Aside0.mk A120
          clear A120
          replace H := Option.bind_eq_some_iff.mp H
          obtain ⟨t224, A130, H⟩ := H
          replace H : ((num_Cmp.f kj4 t219 t218).bind fun t225 => (if t224 = (wrap64 (-t225)) then (if (t221 != (decide (t224 ≥ 0))) = true then (florinlaw01_NumSubs.j1 kj4 t218 t219 t220 t221 t222 t223 t224 true) else (florinlaw01_NumSubs.j1 kj4 t218 t219 t220 t221 t222 t223 t224 (t223 != (decide (t224 ≤ 0))))) else (florinlaw01_NumSubs.j1 kj4 t218 t219 t220 t221 t222 t223 t224 true))) = some r := H
          have A13 := Aside0.mk A130
          clear A130
          have HC14 := Aside0.mk H
          clear H
          go_upto_region 10 with (first | ((with_reducible refine gate_callee (f := 13) rfl ?_); refine goesL_ (some 23) rfl rfl Tryd.func13 (by kernel_rfl) rfl #[.slice A0 l0.length c0] rfl (by (try simp only [List.map_toArray, List.map_cons, List.map_nil]); first | done | rfl | (simp only [List.length_drop, List.length_take]; rfl)) ?_; (with_reducible refine (florinlaw01_Digits.calls kj4 _ _ l0 t218 _ ?side1 ?side2 A9.out).mono ?_); (case side1 => repeat (first | exact (Kd.C_below HR0.out HB.out) | (with_reducible refine Kd.C_alloc ?_ _) | (with_reducible refine Kd.C_drewN ?_ _) | (with_reducible refine Kd.C_drew ?_))); (case side2 => exact HC0.out); rintro e w15 ⟨rfl, hb⟩; refine ⟨_, rfl, ?_⟩; have n0_ := Aside0.mk (below_step (by repeat (first | (with_reducible first | exact HB.out | apply below_alloc | apply pw_below_drewN | apply below_drew1) | exact HB.out)) hb); clear HB; have HB := n0_; clear n0_; (try clear hb); (try clear hb2); (try clear hk); (try clear hi)) | ((with_reducible refine gate_callee (f := 13) rfl ?_); refine goesL_ (some 25) rfl rfl Tryd.func13 (by kernel_rfl) rfl #[.slice A1 l1.length c1] rfl (by (try simp only [List.map_toArray, List.map_cons, List.map_nil]); first | done | rfl | (simp only [List.length_drop, List.length_take]; rfl)) ?_; (with_reducible refine (florinlaw01_Digits.calls kj4 _ _ l1 t219 _ ?side1 ?side2 A10.out).mono ?_); (case side1 => repeat (first | exact (Kd.C_below HR1.out HB.out) | (with_reducible refine Kd.C_alloc ?_ _) | (with_reducible refine Kd.C_drewN ?_ _) | (with_reducible refine Kd.C_drew ?_))); (case side2 => exact HC1.out); rintro e w16 ⟨rfl, hb⟩; refine ⟨_, rfl, ?_⟩; have n0_ := Aside0.mk (below_step (by repeat (first | (with_reducible first | exact HB.out | apply below_alloc | apply pw_below_drewN | apply below_drew1) | exact HB.out)) hb); clear HB; have HB := n0_; clear n0_; (try clear hb); (try clear hb2); (try clear hk); (try clear hi)) | ((with_reducible refine gate_callee (f := 22) rfl ?_); refine goesL_ (some 29) rfl rfl Tryd.func22 (by kernel_rfl) rfl #[.string t218, .string t219] rfl (by (try simp only [List.map_toArray, List.map_cons, List.map_nil]); first | done | rfl | (simp only [List.length_drop, List.length_take]; rfl)) ?_; (with_reducible refine (num_Sub.calls kj4 t218 t219 t220 t221 _ A11.out).mono ?_); rintro e w17 ⟨rfl, hb⟩; refine ⟨_, rfl, ?_⟩; have n0_ := Aside0.mk (below_step (by repeat (first | (with_reducible first | exact HB.out | apply below_alloc | apply pw_below_drewN | apply below_drew1) | exact HB.out)) hb); clear HB; have HB := n0_; clear n0_; (try clear hb); (try clear hb2); (try clear hk); (try clear hi)) | ((with_reducible refine gate_callee (f := 22) rfl ?_); refine goesL_ (some 35) rfl rfl Tryd.func22 (by kernel_rfl) rfl #[.string t219, .string t218] rfl (by (try simp only [List.map_toArray, List.map_cons, List.map_nil]); first | done | rfl | (simp only [List.length_drop, List.length_take]; rfl)) ?_; (with_reducible refine (num_Sub.calls kj4 t219 t218 t222 t223 _ A12.out).mono ?_); rintro e w18 ⟨rfl, hb⟩; refine ⟨_, rfl, ?_⟩; have n0_ := Aside0.mk (below_step (by repeat (first | (with_reducible first | exact HB.out | apply below_alloc | apply pw_below_drewN | apply below_drew1) | exact HB.out)) hb); clear HB; have HB := n0_; clear n0_; (try clear hb); (try clear hb2); (try clear hk); (try clear hi)) | ((with_reducible refine gate_callee (f := 23) rfl ?_); refine goesL_ (some 40) rfl rfl Tryd.func23 (by kernel_rfl) rfl #[.string t218, .string t219] rfl (by (try simp only [List.map_toArray, List.map_cons, List.map_nil]); first | done | rfl | (simp only [List.length_drop, List.length_take]; rfl)) ?_; (with_reducible refine (num_Cmp.calls kj4 t218 t219 t224 _ A13.out).mono ?_); rintro e w19 ⟨rfl, hb⟩; refine ⟨_, rfl, ?_⟩; have n0_ := Aside0.mk (below_step (by repeat (first | (with_reducible first | exact HB.out | apply below_alloc | apply pw_below_drewN | apply below_drew1) | exact HB.out)) hb); clear HB; have HB := n0_; clear n0_; (try clear hb); (try clear hb2); (try clear hk); (try clear hi)))
          (try simp only [Act.put, List.setIfInBounds_toArray, List.set_cons_zero, List.set_cons_succ])
          go_cut [58] (fun v58 wc => ∃ (kq : Nat) (x58_13 : Bool), v58 = .bool x58_13 ∧ Aside0 (florinlaw01_NumSubs.j1 kq t218 t219 t220 t221 t222 t223 t224 x58_13 = some r) ∧ Aside0 (kq ≤ kj4) ∧ Aside0 (Below w.heap.size w wc))
          case first =>
            have H := HC14.out
            clear HC14
            replace H := Option.bind_eq_some_iff.mp H
            obtain ⟨t225, A200, H⟩ := H
            replace H : (if t224 = (wrap64 (-t225)) then (if (t221 != (decide (t224 ≥ 0))) = true then (florinlaw01_NumSubs.j1 kj4 t218 t219 t220 t221 t222 t223 t224 true) else (florinlaw01_NumSubs.j1 kj4 t218 t219 t220 t221 t222 t223 t224 (t223 != (decide (t224 ≤ 0))))) else (florinlaw01_NumSubs.j1 kj4 t218 t219 t220 t221 t222 t223 t224 true)) = some r := H
            have A20 := Aside0.mk A200
            clear A200
            by_cases c21 : t224 = (wrap64 (-t225))
            · rw [if_pos c21] at H
              have c21b0 : (t224 == (wrap64 (-t225))) = true := beq_iff_eq.mpr c21
              have c21b1 : (t224 != (wrap64 (-t225))) = false := bne_eq_false_iff_eq.mpr c21
              clear c21
              (first | rw [c21b0] | (simp only [i64_w, i32_w]; rw [c21b0]) | skip)
              by_cases c22 : (t221 != (decide (t224 ≥ 0))) = true
              · rw [if_pos c22] at H
                have c22b0 : (t221 != (decide (t224 ≥ 0))) = true := c22
                (try (have c22b1 : decide (t221 = (decide (t224 ≥ 0))) = false := by simpa using c22))
                (try (have c22b2 : (t221 == (decide (t224 ≥ 0))) = false := by simpa using c22))
                (try (have c22b3 : ¬ (t221 = (decide (t224 ≥ 0))) := by simpa using c22))
                clear c22
                have H' := Aside0.mk H
                clear H
                go_wp2_with (first | ((with_reducible refine gate_callee (f := 23) rfl ?_); refine goesL_ (some 44) rfl rfl Tryd.func23 (by kernel_rfl) rfl #[.string t219, .string t218] rfl (by (try simp only [List.map_toArray, List.map_cons, List.map_nil]); first | done | rfl | (simp only [List.length_drop, List.length_take]; rfl)) ?_; (with_reducible refine (num_Cmp.calls kj4 t219 t218 t225 _ A20.out).mono ?_); rintro e w23 ⟨rfl, hb⟩; refine ⟨_, rfl, ?_⟩; have n0_ := Aside0.mk (below_step (by repeat (first | (with_reducible first | exact HB.out | apply below_alloc | apply pw_below_drewN | apply below_drew1) | exact HB.out)) hb); clear HB; have HB := n0_; clear n0_; (try clear hb); (try clear hb2); (try clear hk); (try clear hi)))
                go_meet
                case rel => exact ⟨_, (true), (by first | rfl | (simp; done) | (simp [*]; done) | (simp; first | exact given_isEmpty _ | exact (given_isEmpty _).symm)), H', ⟨by have := HJ4.out; first | omega | exact Nat.le_refl _⟩, ⟨by repeat (first | (with_reducible first | exact HB.out | apply below_alloc | apply pw_below_drewN | apply below_drew1) | exact HB.out)⟩⟩
              · rw [if_neg c22] at H
                have c22b0 : (t221 != (decide (t224 ≥ 0))) = false := by simpa using c22
                (try (have c22b1 : decide (t221 = (decide (t224 ≥ 0))) = true := by simpa using c22))
                (try (have c22b2 : (t221 == (decide (t224 ≥ 0))) = true := by simpa using c22))
                clear c22
                have H' := Aside0.mk H
                clear H
                go_wp2_with (first | ((with_reducible refine gate_callee (f := 23) rfl ?_); refine goesL_ (some 44) rfl rfl Tryd.func23 (by kernel_rfl) rfl #[.string t219, .string t218] rfl (by (try simp only [List.map_toArray, List.map_cons, List.map_nil]); first | done | rfl | (simp only [List.length_drop, List.length_take]; rfl)) ?_; (with_reducible refine (num_Cmp.calls kj4 t219 t218 t225 _ A20.out).mono ?_); rintro e w24 ⟨rfl, hb⟩; refine ⟨_, rfl, ?_⟩; have n0_ := Aside0.mk (below_step (by repeat (first | (with_reducible first | exact HB.out | apply below_alloc | apply pw_below_drewN | apply below_drew1) | exact HB.out)) hb); clear HB; have HB := n0_; clear n0_; (try clear hb); (try clear hb2); (try clear hk); (try clear hi)))
                go_meet
                case rel => exact ⟨_, ((t223 != (decide (t224 ≤ 0)))), (by first | rfl | (simp; done) | (simp [*]; done) | (simp; first | exact given_isEmpty _ | exact (given_isEmpty _).symm)), H', ⟨by have := HJ4.out; first | omega | exact Nat.le_refl _⟩, ⟨by repeat (first | (with_reducible first | exact HB.out | apply below_alloc | apply pw_below_drewN | apply below_drew1) | exact HB.out)⟩⟩
            · rw [if_neg c21] at H
              have c21b0 : (t224 == (wrap64 (-t225))) = false := beq_eq_false_iff_ne.mpr c21
              have c21b1 : (t224 != (wrap64 (-t225))) = true := bne_iff_ne.mpr c21
              (first | rw [c21b0] | (simp only [i64_w, i32_w]; rw [c21b0]) | skip)
              have H' := Aside0.mk H
              clear H
              go_wp2_with (first | ((with_reducible refine gate_callee (f := 23) rfl ?_); refine goesL_ (some 44) rfl rfl Tryd.func23 (by kernel_rfl) rfl #[.string t219, .string t218] rfl (by (try simp only [List.map_toArray, List.map_cons, List.map_nil]); first | done | rfl | (simp only [List.length_drop, List.length_take]; rfl)) ?_; (with_reducible refine (num_Cmp.calls kj4 t219 t218 t225 _ A20.out).mono ?_); rintro e w25 ⟨rfl, hb⟩; refine ⟨_, rfl, ?_⟩; have n0_ := Aside0.mk (below_step (by repeat (first | (with_reducible first | exact HB.out | apply below_alloc | apply pw_below_drewN | apply below_drew1) | exact HB.out)) hb); clear HB; have HB := n0_; clear n0_; (try clear hb); (try clear hb2); (try clear hk); (try clear hi)))
              go_meet
              case rel => exact ⟨_, (true), (by first | rfl | (simp; done) | (simp [*]; done) | (simp; first | exact given_isEmpty _ | exact (given_isEmpty _).symm)), H', ⟨by have := HJ4.out; first | omega | exact Nat.le_refl _⟩, ⟨by repeat (first | (with_reducible first | exact HB.out | apply below_alloc | apply pw_below_drewN | apply below_drew1) | exact HB.out)⟩⟩
          case rest =>
            clear HC14
            try clear c1
            try clear c2
            try clear p2
            try clear c4
            try clear p6
            try clear c7
            try clear c7b0
            try clear c7b1
            try clear c8
            try clear c12
            try clear c13
            try clear c21
            try clear c21b0
            try clear c21b1
            try clear c22
            try clear c22b0
            try clear c22b1
            try clear c22b2
            try clear c23
            try clear p2
            obtain ⟨kq, x58_13, rfl, HA, HJ13, HB⟩ := hcut
            cases kq with
            | zero => exact absurd HA.out (by simp [florinlaw01_NumSubs.j1])
            | succ kj13 =>
              have H := HA.out
              clear HA
              simp only [florinlaw01_NumSubs.j1] at H
              by_cases c26 : x58_13 = true
              · subst c26
                have H1 : (some false) = some r := by rw [if_pos rfl] at H; exact H
                clear H
                have H := H1
                clear H1
                obtain rfl := Option.some.inj H
                go_wp2
                go_ret
                exact ⟨by first | rfl | (simp [errW_none, errW_some] <;> rfl) | (simp [*, errW_none, errW_some] <;> rfl), by repeat (first | (with_reducible first | exact HB.out | apply below_alloc | apply pw_below_drewN | apply below_drew1) | exact HB.out)⟩
              · replace c26 := Bool.eq_false_iff.mpr c26
                subst c26
                have H1 : (if t221 = true then ((num_Add.f kj13 t220 t219).bind fun t226 => ((florinlaw01_bare.f kj13 t218).bind fun t227 => (if t226.toList = t227.toList then (if t223 = true then ((num_Add.f kj13 t222 t218).bind fun t228 => ((florinlaw01_bare.f kj13 t219).bind fun t229 => (if t228.toList = t229.toList then (some ((t224 == 0) == (t227.toList == t229.toList))) else (some false)))) else (if t222.toList = ([] : List UInt8) then ((florinlaw01_bare.f kj13 t219).bind fun t230 => (some ((t224 == 0) == (t227.toList == t230.toList)))) else (some false))) else (some false)))) else (if t220.toList = ([] : List UInt8) then (if t223 = true then ((num_Add.f kj13 t222 t218).bind fun t231 => ((florinlaw01_bare.f kj13 t219).bind fun t232 => (if t231.toList = t232.toList then ((florinlaw01_bare.f kj13 t218).bind fun t233 => (some ((t224 == 0) == (t233.toList == t232.toList)))) else (some false)))) else (if t222.toList = ([] : List UInt8) then ((florinlaw01_bare.f kj13 t218).bind fun t234 => ((florinlaw01_bare.f kj13 t219).bind fun t235 => (some ((t224 == 0) == (t234.toList == t235.toList))))) else (some false))) else (some false))) = some r := by rw [if_neg (show ¬ (false = true) by decide)] at H; exact H
                clear H
                have H := H1
                clear H1
                by_cases c27 : t221 = true
                · subst c27
                  have H1 : ((num_Add.f kj13 t220 t219).bind fun t226 => ((florinlaw01_bare.f kj13 t218).bind fun t227 => (if t226.toList = t227.toList then (if t223 = true then ((num_Add.f kj13 t222 t218).bind fun t228 => ((florinlaw01_bare.f kj13 t219).bind fun t229 => (if t228.toList = t229.toList then (some ((t224 == 0) == (t227.toList == t229.toList))) else (some false)))) else (if t222.toList = ([] : List UInt8) then ((florinlaw01_bare.f kj13 t219).bind fun t230 => (some ((t224 == 0) == (t227.toList == t230.toList)))) else (some false))) else (some false)))) = some r := by rw [if_pos rfl] at H; exact H
                  clear H
                  have H := H1
                  clear H1
                  replace H := Option.bind_eq_some_iff.mp H
                  obtain ⟨t226, A280, H⟩ := H
                  replace H : ((florinlaw01_bare.f kj13 t218).bind fun t227 => (if t226.toList = t227.toList then (if t223 = true then ((num_Add.f kj13 t222 t218).bind fun t228 => ((florinlaw01_bare.f kj13 t219).bind fun t229 => (if t228.toList = t229.toList then (some ((t224 == 0) == (t227.toList == t229.toList))) else (some false)))) else (if t222.toList = ([] : List UInt8) then ((florinlaw01_bare.f kj13 t219).bind fun t230 => (some ((t224 == 0) == (t227.toList == t230.toList)))) else (some false))) else (some false))) = some r := H
                  have A28 := Aside0.mk A280
                  clear A280
                  replace H := Option.bind_eq_some_iff.mp H
                  obtain ⟨t227, A290, H⟩ := H
                  replace H : (if t226.toList = t227.toList then (if t223 = true then ((num_Add.f kj13 t222 t218).bind fun t228 => ((florinlaw01_bare.f kj13 t219).bind fun t229 => (if t228.toList = t229.toList then (some ((t224 == 0) == (t227.toList == t229.toList))) else (some false)))) else (if t222.toList = ([] : List UInt8) then ((florinlaw01_bare.f kj13 t219).bind fun t230 => (some ((t224 == 0) == (t227.toList == t230.toList)))) else (some false))) else (some false)) = some r := H
                  have A29 := Aside0.mk A290
                  clear A290
                  by_cases c30 : t226.toList = t227.toList
                  · rw [if_pos c30] at H
                    have c30b0 : (t226.toList == t227.toList) = true := beq_iff_eq.mpr c30
                    have c30b1 : (t226.toList != t227.toList) = false := bne_eq_false_iff_eq.mpr c30
                    clear c30
                    by_cases c31 : t223 = true
                    · subst c31
                      have H1 : ((num_Add.f kj13 t222 t218).bind fun t228 => ((florinlaw01_bare.f kj13 t219).bind fun t229 => (if t228.toList = t229.toList then (some ((t224 == 0) == (t227.toList == t229.toList))) else (some false)))) = some r := by rw [if_pos rfl] at H; exact H
                      clear H
                      have H := H1
                      clear H1
                      replace H := Option.bind_eq_some_iff.mp H
                      obtain ⟨t228, A320, H⟩ := H
                      replace H : ((florinlaw01_bare.f kj13 t219).bind fun t229 => (if t228.toList = t229.toList then (some ((t224 == 0) == (t227.toList == t229.toList))) else (some false))) = some r := H
                      have A32 := Aside0.mk A320
                      clear A320
                      replace H := Option.bind_eq_some_iff.mp H
                      obtain ⟨t229, A330, H⟩ := H
                      replace H : (if t228.toList = t229.toList then (some ((t224 == 0) == (t227.toList == t229.toList))) else (some false)) = some r := H
                      have A33 := Aside0.mk A330
                      clear A330
                      by_cases c34 : t228.toList = t229.toList
                      · rw [if_pos c34] at H
                        have c34b0 : (t228.toList == t229.toList) = true := beq_iff_eq.mpr c34
                        have c34b1 : (t228.toList != t229.toList) = false := bne_eq_false_iff_eq.mpr c34
                        clear c34
                        obtain rfl := Option.some.inj H
                        go_wp2_with (first | (go_at_call 16; (with_reducible refine (num_Add.calls kj13 t220 t219 t226 _ A28.out).mono ?_); rintro e w35 ⟨rfl, hb⟩; have n0_ := Aside0.mk (below_step (by repeat (first | (with_reducible first | exact HB.out | apply below_alloc | apply pw_below_drewN | apply below_drew1) | exact HB.out)) hb); clear HB; have HB := n0_; clear n0_; (try clear hb); (try clear hb2); (try clear hk); (try clear hi)) | (go_at_call 15; (with_reducible refine (florinlaw01_bare.calls kj13 t218 t227 _ A29.out).mono ?_); rintro e w' ⟨rfl, ⟨nd, rfl⟩⟩) | (go_at_call 16; (with_reducible refine (num_Add.calls kj13 t222 t218 t228 _ A32.out).mono ?_); rintro e w36 ⟨rfl, hb⟩; have n0_ := Aside0.mk (below_step (by repeat (first | (with_reducible first | exact HB.out | apply below_alloc | apply pw_below_drewN | apply below_drew1) | exact HB.out)) hb); clear HB; have HB := n0_; clear n0_; (try clear hb); (try clear hb2); (try clear hk); (try clear hi)) | (go_at_call 15; (with_reducible refine (florinlaw01_bare.calls kj13 t219 t229 _ A33.out).mono ?_); rintro e w' ⟨rfl, ⟨nd, rfl⟩⟩))
                        go_ret
                        exact ⟨by first | rfl | (simp [errW_none, errW_some] <;> rfl) | (simp [*, errW_none, errW_some] <;> rfl), by repeat (first | (with_reducible first | exact HB.out | apply below_alloc | apply pw_below_drewN | apply below_drew1) | exact HB.out)⟩
                      · rw [if_neg c34] at H
                        have c34b0 : (t228.toList == t229.toList) = false := beq_eq_false_iff_ne.mpr c34
                        have c34b1 : (t228.toList != t229.toList) = true := bne_iff_ne.mpr c34
                        obtain rfl := Option.some.inj H
                        go_wp2_with (first | (go_at_call 16; (with_reducible refine (num_Add.calls kj13 t220 t219 t226 _ A28.out).mono ?_); rintro e w37 ⟨rfl, hb⟩; have n0_ := Aside0.mk (below_step (by repeat (first | (with_reducible first | exact HB.out | apply below_alloc | apply pw_below_drewN | apply below_drew1) | exact HB.out)) hb); clear HB; have HB := n0_; clear n0_; (try clear hb); (try clear hb2); (try clear hk); (try clear hi)) | (go_at_call 15; (with_reducible refine (florinlaw01_bare.calls kj13 t218 t227 _ A29.out).mono ?_); rintro e w' ⟨rfl, ⟨nd, rfl⟩⟩) | (go_at_call 16; (with_reducible refine (num_Add.calls kj13 t222 t218 t228 _ A32.out).mono ?_); rintro e w38 ⟨rfl, hb⟩; have n0_ := Aside0.mk (below_step (by repeat (first | (with_reducible first | exact HB.out | apply below_alloc | apply pw_below_drewN | apply below_drew1) | exact HB.out)) hb); clear HB; have HB := n0_; clear n0_; (try clear hb); (try clear hb2); (try clear hk); (try clear hi)) | (go_at_call 15; (with_reducible refine (florinlaw01_bare.calls kj13 t219 t229 _ A33.out).mono ?_); rintro e w' ⟨rfl, ⟨nd, rfl⟩⟩))
                        go_ret
                        exact ⟨by first | rfl | (simp [errW_none, errW_some] <;> rfl) | (simp [*, errW_none, errW_some] <;> rfl), by repeat (first | (with_reducible first | exact HB.out | apply below_alloc | apply pw_below_drewN | apply below_drew1) | exact HB.out)⟩
                    · replace c31 := Bool.eq_false_iff.mpr c31
                      subst c31
                      have H1 : (if t222.toList = ([] : List UInt8) then ((florinlaw01_bare.f kj13 t219).bind fun t230 => (some ((t224 == 0) == (t227.toList == t230.toList)))) else (some false)) = some r := by rw [if_neg (show ¬ (false = true) by decide)] at H; exact H
                      clear H
                      have H := H1
                      clear H1
                      by_cases c39 : t222.toList = ([] : List UInt8)
                      · rw [if_pos c39] at H
                        have c39b0 : (t222.toList == ([] : List UInt8)) = true := beq_iff_eq.mpr c39
                        have c39b1 : (t222.toList != ([] : List UInt8)) = false := bne_eq_false_iff_eq.mpr c39
                        clear c39
                        replace H := Option.bind_eq_some_iff.mp H
                        obtain ⟨t230, A400, H⟩ := H
                        replace H : (some ((t224 == 0) == (t227.toList == t230.toList))) = some r := H
                        have A40 := Aside0.mk A400
                        clear A400
                        obtain rfl := Option.some.inj H
                        go_wp2_with (first | (go_at_call 16; (with_reducible refine (num_Add.calls kj13 t220 t219 t226 _ A28.out).mono ?_); rintro e w41 ⟨rfl, hb⟩; have n0_ := Aside0.mk (below_step (by repeat (first | (with_reducible first | exact HB.out | apply below_alloc | apply pw_below_drewN | apply below_drew1) | exact HB.out)) hb); clear HB; have HB := n0_; clear n0_; (try clear hb); (try clear hb2); (try clear hk); (try clear hi)) | (go_at_call 15; (with_reducible refine (florinlaw01_bare.calls kj13 t218 t227 _ A29.out).mono ?_); rintro e w' ⟨rfl, ⟨nd, rfl⟩⟩) | (go_at_call 15; (with_reducible refine (florinlaw01_bare.calls kj13 t219 t230 _ A40.out).mono ?_); rintro e w' ⟨rfl, ⟨nd, rfl⟩⟩))
                        go_ret
                        exact ⟨by first | rfl | (simp [errW_none, errW_some] <;> rfl) | (simp [*, errW_none, errW_some] <;> rfl), by repeat (first | (with_reducible first | exact HB.out | apply below_alloc | apply pw_below_drewN | apply below_drew1) | exact HB.out)⟩
                      · rw [if_neg c39] at H
                        have c39b0 : (t222.toList == ([] : List UInt8)) = false := beq_eq_false_iff_ne.mpr c39
                        have c39b1 : (t222.toList != ([] : List UInt8)) = true := bne_iff_ne.mpr c39
                        obtain rfl := Option.some.inj H
                        go_wp2_with (first | (go_at_call 16; (with_reducible refine (num_Add.calls kj13 t220 t219 t226 _ A28.out).mono ?_); rintro e w42 ⟨rfl, hb⟩; have n0_ := Aside0.mk (below_step (by repeat (first | (with_reducible first | exact HB.out | apply below_alloc | apply pw_below_drewN | apply below_drew1) | exact HB.out)) hb); clear HB; have HB := n0_; clear n0_; (try clear hb); (try clear hb2); (try clear hk); (try clear hi)) | (go_at_call 15; (with_reducible refine (florinlaw01_bare.calls kj13 t218 t227 _ A29.out).mono ?_); rintro e w' ⟨rfl, ⟨nd, rfl⟩⟩))
                        go_ret
                        exact ⟨by first | rfl | (simp [errW_none, errW_some] <;> rfl) | (simp [*, errW_none, errW_some] <;> rfl), by repeat (first | (with_reducible first | exact HB.out | apply below_alloc | apply pw_below_drewN | apply below_drew1) | exact HB.out)⟩
                  · rw [if_neg c30] at H
                    have c30b0 : (t226.toList == t227.toList) = false := beq_eq_false_iff_ne.mpr c30
                    have c30b1 : (t226.toList != t227.toList) = true := bne_iff_ne.mpr c30
                    obtain rfl := Option.some.inj H
                    go_wp2_with (first | (go_at_call 16; (with_reducible refine (num_Add.calls kj13 t220 t219 t226 _ A28.out).mono ?_); rintro e w43 ⟨rfl, hb⟩; have n0_ := Aside0.mk (below_step (by repeat (first | (with_reducible first | exact HB.out | apply below_alloc | apply pw_below_drewN | apply below_drew1) | exact HB.out)) hb); clear HB; have HB := n0_; clear n0_; (try clear hb); (try clear hb2); (try clear hk); (try clear hi)) | (go_at_call 15; (with_reducible refine (florinlaw01_bare.calls kj13 t218 t227 _ A29.out).mono ?_); rintro e w' ⟨rfl, ⟨nd, rfl⟩⟩))
                    go_ret
                    exact ⟨by first | rfl | (simp [errW_none, errW_some] <;> rfl) | (simp [*, errW_none, errW_some] <;> rfl), by repeat (first | (with_reducible first | exact HB.out | apply below_alloc | apply pw_below_drewN | apply below_drew1) | exact HB.out)⟩
                · replace c27 := Bool.eq_false_iff.mpr c27
                  subst c27
                  have H1 : (if t220.toList = ([] : List UInt8) then (if t223 = true then ((num_Add.f kj13 t222 t218).bind fun t231 => ((florinlaw01_bare.f kj13 t219).bind fun t232 => (if t231.toList = t232.toList then ((florinlaw01_bare.f kj13 t218).bind fun t233 => (some ((t224 == 0) == (t233.toList == t232.toList)))) else (some false)))) else (if t222.toList = ([] : List UInt8) then ((florinlaw01_bare.f kj13 t218).bind fun t234 => ((florinlaw01_bare.f kj13 t219).bind fun t235 => (some ((t224 == 0) == (t234.toList == t235.toList))))) else (some false))) else (some false)) = some r := by rw [if_neg (show ¬ (false = true) by decide)] at H; exact H
                  clear H
                  have H := H1
                  clear H1
                  by_cases c44 : t220.toList = ([] : List UInt8)
                  · rw [if_pos c44] at H
                    have c44b0 : (t220.toList == ([] : List UInt8)) = true := beq_iff_eq.mpr c44
                    have c44b1 : (t220.toList != ([] : List UInt8)) = false := bne_eq_false_iff_eq.mpr c44
                    clear c44
                    by_cases c45 : t223 = true
                    · subst c45
                      have H1 : ((num_Add.f kj13 t222 t218).bind fun t231 => ((florinlaw01_bare.f kj13 t219).bind fun t232 => (if t231.toList = t232.toList then ((florinlaw01_bare.f kj13 t218).bind fun t233 => (some ((t224 == 0) == (t233.toList == t232.toList)))) else (some false)))) = some r := by rw [if_pos rfl] at H; exact H
                      clear H
                      have H := H1
                      clear H1
                      replace H := Option.bind_eq_some_iff.mp H
                      obtain ⟨t231, A460, H⟩ := H
                      replace H : ((florinlaw01_bare.f kj13 t219).bind fun t232 => (if t231.toList = t232.toList then ((florinlaw01_bare.f kj13 t218).bind fun t233 => (some ((t224 == 0) == (t233.toList == t232.toList)))) else (some false))) = some r := H
                      have A46 := Aside0.mk A460
                      clear A460
                      replace H := Option.bind_eq_some_iff.mp H
                      obtain ⟨t232, A470, H⟩ := H
                      replace H : (if t231.toList = t232.toList then ((florinlaw01_bare.f kj13 t218).bind fun t233 => (some ((t224 == 0) == (t233.toList == t232.toList)))) else (some false)) = some r := H
                      have A47 := Aside0.mk A470
                      clear A470
                      by_cases c48 : t231.toList = t232.toList
                      · rw [if_pos c48] at H
                        have c48b0 : (t231.toList == t232.toList) = true := beq_iff_eq.mpr c48
                        have c48b1 : (t231.toList != t232.toList) = false := bne_eq_false_iff_eq.mpr c48
                        clear c48
                        replace H := Option.bind_eq_some_iff.mp H
                        obtain ⟨t233, A490, H⟩ := H
                        replace H : (some ((t224 == 0) == (t233.toList == t232.toList))) = some r := H
                        have A49 := Aside0.mk A490
                        clear A490
                        obtain rfl := Option.some.inj H
                        go_wp2_with (first | (go_at_call 16; (with_reducible refine (num_Add.calls kj13 t222 t218 t231 _ A46.out).mono ?_); rintro e w50 ⟨rfl, hb⟩; have n0_ := Aside0.mk (below_step (by repeat (first | (with_reducible first | exact HB.out | apply below_alloc | apply pw_below_drewN | apply below_drew1) | exact HB.out)) hb); clear HB; have HB := n0_; clear n0_; (try clear hb); (try clear hb2); (try clear hk); (try clear hi)) | (go_at_call 15; (with_reducible refine (florinlaw01_bare.calls kj13 t219 t232 _ A47.out).mono ?_); rintro e w' ⟨rfl, ⟨nd, rfl⟩⟩) | (go_at_call 15; (with_reducible refine (florinlaw01_bare.calls kj13 t218 t233 _ A49.out).mono ?_); rintro e w' ⟨rfl, ⟨nd, rfl⟩⟩))
                        go_ret
                        exact ⟨by first | rfl | (simp [errW_none, errW_some] <;> rfl) | (simp [*, errW_none, errW_some] <;> rfl), by repeat (first | (with_reducible first | exact HB.out | apply below_alloc | apply pw_below_drewN | apply below_drew1) | exact HB.out)⟩
                      · rw [if_neg c48] at H
                        have c48b0 : (t231.toList == t232.toList) = false := beq_eq_false_iff_ne.mpr c48
                        have c48b1 : (t231.toList != t232.toList) = true := bne_iff_ne.mpr c48
                        obtain rfl := Option.some.inj H
                        go_wp2_with (first | (go_at_call 16; (with_reducible refine (num_Add.calls kj13 t222 t218 t231 _ A46.out).mono ?_); rintro e w51 ⟨rfl, hb⟩; have n0_ := Aside0.mk (below_step (by repeat (first | (with_reducible first | exact HB.out | apply below_alloc | apply pw_below_drewN | apply below_drew1) | exact HB.out)) hb); clear HB; have HB := n0_; clear n0_; (try clear hb); (try clear hb2); (try clear hk); (try clear hi)) | (go_at_call 15; (with_reducible refine (florinlaw01_bare.calls kj13 t219 t232 _ A47.out).mono ?_); rintro e w' ⟨rfl, ⟨nd, rfl⟩⟩))
                        go_ret
                        exact ⟨by first | rfl | (simp [errW_none, errW_some] <;> rfl) | (simp [*, errW_none, errW_some] <;> rfl), by repeat (first | (with_reducible first | exact HB.out | apply below_alloc | apply pw_below_drewN | apply below_drew1) | exact HB.out)⟩
                    · replace c45 := Bool.eq_false_iff.mpr c45
                      subst c45
                      have H1 : (if t222.toList = ([] : List UInt8) then ((florinlaw01_bare.f kj13 t218).bind fun t234 => ((florinlaw01_bare.f kj13 t219).bind fun t235 => (some ((t224 == 0) == (t234.toList == t235.toList))))) else (some false)) = some r := by rw [if_neg (show ¬ (false = true) by decide)] at H; exact H
                      clear H
                      have H := H1
                      clear H1
                      by_cases c52 : t222.toList = ([] : List UInt8)
                      · rw [if_pos c52] at H
                        have c52b0 : (t222.toList == ([] : List UInt8)) = true := beq_iff_eq.mpr c52
                        have c52b1 : (t222.toList != ([] : List UInt8)) = false := bne_eq_false_iff_eq.mpr c52
                        clear c52
                        replace H := Option.bind_eq_some_iff.mp H
                        obtain ⟨t234, A530, H⟩ := H
                        replace H : ((florinlaw01_bare.f kj13 t219).bind fun t235 => (some ((t224 == 0) == (t234.toList == t235.toList)))) = some r := H
                        have A53 := Aside0.mk A530
                        clear A530
                        replace H := Option.bind_eq_some_iff.mp H
                        obtain ⟨t235, A540, H⟩ := H
                        replace H : (some ((t224 == 0) == (t234.toList == t235.toList))) = some r := H
                        have A54 := Aside0.mk A540
                        clear A540
                        obtain rfl := Option.some.inj H
                        go_wp2_with (first | (go_at_call 15; (with_reducible refine (florinlaw01_bare.calls kj13 t218 t234 _ A53.out).mono ?_); rintro e w' ⟨rfl, ⟨nd, rfl⟩⟩) | (go_at_call 15; (with_reducible refine (florinlaw01_bare.calls kj13 t219 t235 _ A54.out).mono ?_); rintro e w' ⟨rfl, ⟨nd, rfl⟩⟩))
                        go_ret
                        exact ⟨by first | rfl | (simp [errW_none, errW_some] <;> rfl) | (simp [*, errW_none, errW_some] <;> rfl), by repeat (first | (with_reducible first | exact HB.out | apply below_alloc | apply pw_below_drewN | apply below_drew1) | exact HB.out)⟩
                      · rw [if_neg c52] at H
                        have c52b0 : (t222.toList == ([] : List UInt8)) = false := beq_eq_false_iff_ne.mpr c52
                        have c52b1 : (t222.toList != ([] : List UInt8)) = true := bne_iff_ne.mpr c52
                        obtain rfl := Option.some.inj H
                        go_wp2
                        go_ret
                        exact ⟨by first | rfl | (simp [errW_none, errW_some] <;> rfl) | (simp [*, errW_none, errW_some] <;> rfl), by repeat (first | (with_reducible first | exact HB.out | apply below_alloc | apply pw_below_drewN | apply below_drew1) | exact HB.out)⟩
                  · rw [if_neg c44] at H
                    have c44b0 : (t220.toList == ([] : List UInt8)) = false := beq_eq_false_iff_ne.mpr c44
                    have c44b1 : (t220.toList != ([] : List UInt8)) = true := bne_iff_ne.mpr c44
                    obtain rfl := Option.some.inj H
                    go_wp2
                    go_ret
                    exact ⟨by first | rfl | (simp [errW_none, errW_some] <;> rfl) | (simp [*, errW_none, errW_some] <;> rfl), by repeat (first | (with_reducible first | exact HB.out | apply below_alloc | apply pw_below_drewN | apply below_drew1) | exact HB.out)⟩
  · replace c4 := Bool.eq_false_iff.mpr c4
    subst c4
    have H1 : (some false) = some r := by rw [if_neg (show ¬ (false = true) by decide)] at H; exact H
    clear H
    have H := H1
    clear H1
    obtain rfl := Option.some.inj H
    go_enter Tryd.func7, Tryd.ntmps7
    go_wp2_with (first | ((with_reducible refine gate_callee (f := 12) rfl ?_); refine goesL_ (some 12) rfl rfl Tryd.func12 (by kernel_rfl) rfl #[] rfl (by (try simp only [List.map_toArray, List.map_cons, List.map_nil]); first | done | rfl | (simp only [List.length_drop, List.length_take]; rfl)) ?_; (with_reducible refine (florinlaw01_head.calls k  false _ A3.out).mono ?_); rintro e w55 ⟨rfl, hb⟩; refine ⟨_, rfl, ?_⟩; have n0_ := Aside0.mk (below_step (by repeat (first | (with_reducible first | exact HB.out | apply below_alloc | apply pw_below_drewN | apply below_drew1) | exact HB.out)) hb); clear HB; have HB := n0_; clear n0_; (try clear hb); (try clear hb2); (try clear hk); (try clear hi)))
    go_ret
    exact ⟨by first | rfl | (simp [errW_none, errW_some] <;> rfl) | (simp [*, errW_none, errW_some] <;> rfl), by repeat (first | (with_reducible first | exact HB.out | apply below_alloc | apply pw_below_drewN | apply below_drew1) | exact HB.out)⟩

/-- THE ONE PURE STATEMENT of florinlaw01_NumSubs: yours. -/
def florinlaw01_NumSubs.Pure : Prop := ∀ (l0 : List Int) (l1 : List Int), l0.length ≤ maxLen → l0.length * 1 ≤ 140737488351232 → (∀ x ∈ l0, (Lit.int .u8 x).wf = true) → l1.length ≤ maxLen → l1.length * 1 ≤ 140737488351232 → (∀ x ∈ l1, (Lit.int .u8 x).wf = true) → ∃ k, florinlaw01_NumSubs.f k l0 l1 = some true
theorem florinlaw01_NumSubs.walk (P : florinlaw01_NumSubs.Pure) (a0 : Option Addr) (len0 cap0 : Nat) (z0 : List Int) (a1 : Option Addr) (len1 cap1 : Nat) (z1 : List Int) (w : World) (w0 : (a0 = none ∧ len0 = 0 ∧ cap0 = 0 ∧ z0 = []) ∨ ∃ x, a0 = some x ∧ len0 ≤ cap0 ∧ cap0 ≤ maxLen ∧ z0.length = cap0 ∧ (∀ i, i < z0.length → w.cell? (x.add i) = some (.int .u8 (z0.getD i 0))) ∧ ∀ n ∈ z0, (Lit.int .u8 n).wf = true) (y0 : len0 * 1 ≤ 140737488351232) (w1 : (a1 = none ∧ len1 = 0 ∧ cap1 = 0 ∧ z1 = []) ∨ ∃ x, a1 = some x ∧ len1 ≤ cap1 ∧ cap1 ≤ maxLen ∧ z1.length = cap1 ∧ (∀ i, i < z1.length → w.cell? (x.add i) = some (.int .u8 (z1.getD i 0))) ∧ ∀ n ∈ z1, (Lit.int .u8 n).wf = true) (y1 : len1 * 1 ≤ 140737488351232) :
    Calls Tryd.prog 7 #[.slice a0 len0 cap0, .slice a1 len1 cap1] w fun e w' => e = .returned (.bool true) ∧ Below w.heap.size w w' := by
  obtain ⟨l0, rfl, hr0, hm0, hw0, hc0⟩ := ReadsInt.ofRowC w0
  obtain ⟨l1, rfl, hr1, hm1, hw1, hc1⟩ := ReadsInt.ofRowC w1
  obtain ⟨k, h⟩ := P l0 l1 hm0 y0 hw0 hm1 y1 hw1
  refine (florinlaw01_NumSubs.calls k _ _ l0 _ _ l1 true w (Kd.C_of_reads (d := (0 : Int)) (h1 := fun _ => rfl) hr0) hc0 (Kd.C_of_reads (d := (0 : Int)) (h1 := fun _ => rfl) hr1) hc1 h).mono ?_
  rintro e w' ⟨rfl, hd⟩
  exact ⟨rfl, hd⟩

end Go.Proofs.YtefacokhmmpiaaaDoor.P
