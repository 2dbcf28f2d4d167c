-- written by a program of this session (wip/p2)
import Derived.Test.YtaifmgdhdnmjiaaDoorPx0
import Derived.Test.YtaifmgdhdnmjiaaDoorPx1
import Derived.Test.YtaifmgdhdnmjiaaDoorPx3
import Derived.Test.YtaifmgdhdnmjiaaDoorPx4
import Derived.Test.YtaifmgdhdnmjiaaDoorPx6
namespace Go.Proofs.YtaifmgdhdnmjiaaDoor.P
open Go.RowKit Go.Proofs.YtaifmgdhdnmjiaaDoorW.PrintWords Go.Proofs.YtaifmgdhdnmjiaaDoorW.PrintLast Go.Proofs.YtaifmgdhdnmjiaaDoorW.PrintMore
attribute [local go_sem] max2_int min2_int max_two min_two max_three min_three max_four min_four   -- for this text's walks alone
set_option linter.unusedVariables false
set_option linter.unusedSimpArgs false

attribute [local go_sem high] eqA24
/-! ### florinlaw05_OperandReads: function 5 -/
mutual
def florinlaw05_OperandReads.j0 : Nat → List Int → List Int → Bool → Int → Bool → Bool → Option (Bool)
  | 0, _, _, _, _, _, _ => none
  | k + 1, x0, x1, x2, x3, x4, x43 => if x43 = true then (some true) else ((florinlaw01_Digits.f k x0).bind fun t200 => (if x2 = true then ((florinlaw01_Digits.f k x1).bind fun t202 => (if t200.size + 1 ≤ 9223372036854775807 then (if (t200 ++ (⟨#[46]⟩ : ByteArray)).size + t202.size ≤ 9223372036854775807 then (florinlaw05_OperandReads.j1 k x3 x4 ((t200 ++ (⟨#[46]⟩ : ByteArray)) ++ t202) false t200 t202) else (none)) else (none))) else (florinlaw05_OperandReads.j1 k x3 x4 t200 false t200 (⟨#[]⟩ : ByteArray))))
def florinlaw05_OperandReads.j1 : Nat → Int → Bool → ByteArray → Bool → ByteArray → ByteArray → Option (Bool)
  | 0, _, _, _, _, _, _ => none
  | k + 1, x3, x4, x12, x202000, x202001, x202002 => if x3 ≥ 0 then (if x4 = true then ((num_Of.f k x3).bind fun t203 => (if t203.toList = ([] : List UInt8) then (if x12.size + 1 ≤ 9223372036854775807 then (if (x12 ++ (⟨#[101]⟩ : ByteArray)).size + 1 ≤ 9223372036854775807 then (florinlaw05_OperandReads.j2 k x3 ((x12 ++ (⟨#[101]⟩ : ByteArray)) ++ (⟨#[48]⟩ : ByteArray)) x202000 x202001 x202002) else (none)) else (none)) else (if x12.size + 1 ≤ 9223372036854775807 then (if (x12 ++ (⟨#[101]⟩ : ByteArray)).size + t203.size ≤ 9223372036854775807 then (florinlaw05_OperandReads.j2 k x3 ((x12 ++ (⟨#[101]⟩ : ByteArray)) ++ t203) x202000 x202001 x202002) else (none)) else (none)))) else ((num_Of.f k x3).bind fun t204 => (if t204.toList = ([] : List UInt8) then (if x12.size + 1 ≤ 9223372036854775807 then (if (x12 ++ (⟨#[99]⟩ : ByteArray)).size + 1 ≤ 9223372036854775807 then (florinlaw05_OperandReads.j2 k x3 ((x12 ++ (⟨#[99]⟩ : ByteArray)) ++ (⟨#[48]⟩ : ByteArray)) x202000 x202001 x202002) else (none)) else (none)) else (if x12.size + 1 ≤ 9223372036854775807 then (if (x12 ++ (⟨#[99]⟩ : ByteArray)).size + t204.size ≤ 9223372036854775807 then (florinlaw05_OperandReads.j2 k x3 ((x12 ++ (⟨#[99]⟩ : ByteArray)) ++ t204) x202000 x202001 x202002) else (none)) else (none))))) else (florinlaw05_OperandReads.j2 k x3 x12 x202000 x202001 x202002)
def florinlaw05_OperandReads.j2 : Nat → Int → ByteArray → Bool → ByteArray → ByteArray → Option (Bool)
  | 0, _, _, _, _, _ => none
  | k + 1, x3, x12, x202000, x202001, x202002 => (operand_Read.f k x12).bind fun bt205 => (if (wrap64 ((x202001.size : Int) + (x202002.size : Int))) > 1000 then (if bt205.2.2.2 = 2 then (some (bt205.1.toList == ([] : List UInt8) && (bt205.2.1.toList == ([] : List UInt8) && (bt205.2.2.1 == 0)))) else (some false)) else (if x3 > 10000 then (if bt205.2.2.2 = 2 then (some (bt205.1.toList == ([] : List UInt8) && (bt205.2.1.toList == ([] : List UInt8) && (bt205.2.2.1 == 0)))) else (some false)) else (if bt205.2.2.2 = 0 then ((operand_Of.f k x202000 x202001 x202002 (mx x3 0)).bind fun bt210 => (some (bt205.1.toList == bt210.1.toList && (bt205.2.1.toList == bt210.2.1.toList && (bt205.2.2.1 == bt210.2.2))))) else (some false))))
end
def florinlaw05_OperandReads.f (k : Nat) (l0 : List Int) (l1 : List Int) (a2 : Bool) (a3 : Int) (a4 : Bool) : Option (Bool) := (florinlaw05_head.f k).bind fun t199 => (if t199 = true then (if (l0.length : Int) > 1100 then (florinlaw05_OperandReads.j0 k l0 l1 a2 a3 a4 true) else (if (l1.length : Int) > 1100 then (florinlaw05_OperandReads.j0 k l0 l1 a2 a3 a4 true) else (if (l0.length : Int) = 0 then (florinlaw05_OperandReads.j0 k l0 l1 a2 a3 a4 true) else (if a2 = true then (if (l1.length : Int) = 0 then (florinlaw05_OperandReads.j0 k l0 l1 a2 a3 a4 true) else (florinlaw05_OperandReads.j0 k l0 l1 a2 a3 a4 (decide (a3 > 11000)))) else (florinlaw05_OperandReads.j0 k l0 l1 a2 a3 a4 (decide (a3 > 11000))))))) else (some false))
theorem florinlaw05_OperandReads.mono_l : ∀ k, (∀ y0 y1 y2 y3 y4 y5, LeO (florinlaw05_OperandReads.j0 k y0 y1 y2 y3 y4 y5) (florinlaw05_OperandReads.j0 (k + 1) y0 y1 y2 y3 y4 y5)) ∧ (∀ y0 y1 y2 y3 y4 y5, LeO (florinlaw05_OperandReads.j1 k y0 y1 y2 y3 y4 y5) (florinlaw05_OperandReads.j1 (k + 1) y0 y1 y2 y3 y4 y5)) ∧ (∀ y0 y1 y2 y3 y4, LeO (florinlaw05_OperandReads.j2 k y0 y1 y2 y3 y4) (florinlaw05_OperandReads.j2 (k + 1) y0 y1 y2 y3 y4))
  | 0 => ⟨fun _ _ _ _ _ _ r h => by simp [florinlaw05_OperandReads.j0] at h, fun _ _ _ _ _ _ r h => by simp [florinlaw05_OperandReads.j1] at h, fun _ _ _ _ _ r h => by simp [florinlaw05_OperandReads.j2] at h⟩
  | k + 1 => by
    obtain ⟨ih0, ih1, ih2⟩ := florinlaw05_OperandReads.mono_l k
    refine ⟨?_, ?_, ?_⟩
    · intro y0 y1 y2 y3 y4 y5
      unfold florinlaw05_OperandReads.j0
      repeat' first
      | (with_reducible exact ih0 _ _ _ _ _ _)
      | (with_reducible exact ih1 _ _ _ _ _ _)
      | (with_reducible exact ih2 _ _ _ _ _)
      | (with_reducible exact florinlaw01_Digits.mono _ _)
      | (with_reducible exact florinlaw05_head.mono _)
      | (with_reducible exact num_Of.mono _ _)
      | (with_reducible exact operand_Of.mono _ _ _ _ _)
      | (with_reducible exact operand_Read.mono _ _)
      | (with_reducible exact LeO.refl _)
      | (with_reducible exact LeO.none _)
      | (with_reducible refine LeO.ite ?_ ?_)
      | (with_reducible refine LeO.bind ?_ (fun _ => ?_))
      | exact ih0 _ _ _ _ _ _
      | exact ih1 _ _ _ _ _ _
      | exact ih2 _ _ _ _ _
      | exact florinlaw01_Digits.mono _ _
      | exact florinlaw05_head.mono _
      | exact num_Of.mono _ _
      | exact operand_Of.mono _ _ _ _ _
      | exact operand_Read.mono _ _
      | exact LeO.none _
      | refine LeO.ite ?_ ?_
      | refine LeO.bind ?_ (fun _ => ?_)
    · intro y0 y1 y2 y3 y4 y5
      unfold florinlaw05_OperandReads.j1
      repeat' first
      | (with_reducible exact ih0 _ _ _ _ _ _)
      | (with_reducible exact ih1 _ _ _ _ _ _)
      | (with_reducible exact ih2 _ _ _ _ _)
      | (with_reducible exact florinlaw01_Digits.mono _ _)
      | (with_reducible exact florinlaw05_head.mono _)
      | (with_reducible exact num_Of.mono _ _)
      | (with_reducible exact operand_Of.mono _ _ _ _ _)
      | (with_reducible exact operand_Read.mono _ _)
      | (with_reducible exact LeO.refl _)
      | (with_reducible exact LeO.none _)
      | (with_reducible refine LeO.ite ?_ ?_)
      | (with_reducible refine LeO.bind ?_ (fun _ => ?_))
      | exact ih0 _ _ _ _ _ _
      | exact ih1 _ _ _ _ _ _
      | exact ih2 _ _ _ _ _
      | exact florinlaw01_Digits.mono _ _
      | exact florinlaw05_head.mono _
      | exact num_Of.mono _ _
      | exact operand_Of.mono _ _ _ _ _
      | exact operand_Read.mono _ _
      | exact LeO.none _
      | refine LeO.ite ?_ ?_
      | refine LeO.bind ?_ (fun _ => ?_)
    · intro y0 y1 y2 y3 y4
      unfold florinlaw05_OperandReads.j2
      repeat' first
      | (with_reducible exact ih0 _ _ _ _ _ _)
      | (with_reducible exact ih1 _ _ _ _ _ _)
      | (with_reducible exact ih2 _ _ _ _ _)
      | (with_reducible exact florinlaw01_Digits.mono _ _)
      | (with_reducible exact florinlaw05_head.mono _)
      | (with_reducible exact num_Of.mono _ _)
      | (with_reducible exact operand_Of.mono _ _ _ _ _)
      | (with_reducible exact operand_Read.mono _ _)
      | (with_reducible exact LeO.refl _)
      | (with_reducible exact LeO.none _)
      | (with_reducible refine LeO.ite ?_ ?_)
      | (with_reducible refine LeO.bind ?_ (fun _ => ?_))
      | exact ih0 _ _ _ _ _ _
      | exact ih1 _ _ _ _ _ _
      | exact ih2 _ _ _ _ _
      | exact florinlaw01_Digits.mono _ _
      | exact florinlaw05_head.mono _
      | exact num_Of.mono _ _
      | exact operand_Of.mono _ _ _ _ _
      | exact operand_Read.mono _ _
      | exact LeO.none _
      | refine LeO.ite ?_ ?_
      | refine LeO.bind ?_ (fun _ => ?_)
theorem florinlaw05_OperandReads.mono : ∀ a0 a1 a2 a3 a4 k, LeO (florinlaw05_OperandReads.f k a0 a1 a2 a3 a4) (florinlaw05_OperandReads.f (k + 1) a0 a1 a2 a3 a4) := by
  intro a0 a1 a2 a3 a4 k
  obtain ⟨ih0, ih1, ih2⟩ := florinlaw05_OperandReads.mono_l k
  unfold florinlaw05_OperandReads.f
  repeat' first
      | (with_reducible exact ih0 _ _ _ _ _ _)
      | (with_reducible exact ih1 _ _ _ _ _ _)
      | (with_reducible exact ih2 _ _ _ _ _)
      | (with_reducible exact florinlaw01_Digits.mono _ _)
      | (with_reducible exact florinlaw05_head.mono _)
      | (with_reducible exact num_Of.mono _ _)
      | (with_reducible exact operand_Of.mono _ _ _ _ _)
      | (with_reducible exact operand_Read.mono _ _)
      | (with_reducible exact LeO.refl _)
      | (with_reducible exact LeO.none _)
      | (with_reducible refine LeO.ite ?_ ?_)
      | (with_reducible refine LeO.bind ?_ (fun _ => ?_))
      | exact ih0 _ _ _ _ _ _
      | exact ih1 _ _ _ _ _ _
      | exact ih2 _ _ _ _ _
      | exact florinlaw01_Digits.mono _ _
      | exact florinlaw05_head.mono _
      | exact num_Of.mono _ _
      | exact operand_Of.mono _ _ _ _ _
      | exact operand_Read.mono _ _
      | exact LeO.none _
      | refine LeO.ite ?_ ?_
      | refine LeO.bind ?_ (fun _ => ?_)
def florinlaw05_OperandReads.T21 : Bool × List (List Nat × List Nat) := (true, [([], []), ([0], [0]), ([1], [1]), ([2], [2]), ([2], [2]), ([2], [2]), ([5, 2], [2, 5]), ([4, 6, 2, 2], [2, 4, 6]), ([3, 7, 2], [2, 3, 7]), ([2, 8], [2, 8]), ([9, 7, 0, 1, 2, 3, 4, 5, 6, 7, 8, 9], [9])])
def florinlaw05_OperandReads.B21 : List Nat := [0, 1, 3, 7, 7, 7, 39, 119, 255, 511, 1023]
theorem florinlaw05_OperandReads.tab21 : rtab .any (opsOf Tryd.f5 21) = florinlaw05_OperandReads.T21 := by kernel_rfl
theorem florinlaw05_OperandReads.bits21 : waitsOk florinlaw05_OperandReads.T21.2 florinlaw05_OperandReads.B21 = true := by kernel_rfl
set_option maxHeartbeats 8000000 in
set_option maxRecDepth 100000 in
theorem florinlaw05_OperandReads.calls (k : Nat) (A0 : Option Addr) (c0 : Nat) (l0 : List Int) (A1 : Option Addr) (c1 : Nat) (l1 : List Int) (a2 : Bool) (a3 : Int) (a4 : Bool) (r : Bool) (w : World) (hr0 : Kd.C (Kd.int .u8) w A0 l0.length l0) (hc0 : l0.length ≤ c0) (hr1 : Kd.C (Kd.int .u8) w A1 l1.length l1) (hc1 : l1.length ≤ c1) (h : florinlaw05_OperandReads.f k l0 l1 a2 a3 a4 = some r) :
    Calls Tryd.prog 5 #[.slice A0 l0.length c0, .slice A1 l1.length c1, .bool a2, .int .i64 a3, .bool a4] w fun e w' => e = .returned (.bool r) ∧ Below w.heap.size w w' := by
  have hu31 := Tryd.underlying31
  have hu24 := Tryd.underlying24
  have HR0 := Aside0.mk hr0
  have HC0 := Aside0.mk hc0
  clear hr0 hc0
  have HR1 := Aside0.mk hr1
  have HC1 := Aside0.mk hc1
  clear hr1 hc1
  have HB := Aside0.mk (Below.refl w.heap.size w)
  have H : ((florinlaw05_head.f k).bind fun t199 => (if t199 = true then (if (l0.length : Int) > 1100 then (florinlaw05_OperandReads.j0 k l0 l1 a2 a3 a4 true) else (if (l1.length : Int) > 1100 then (florinlaw05_OperandReads.j0 k l0 l1 a2 a3 a4 true) else (if (l0.length : Int) = 0 then (florinlaw05_OperandReads.j0 k l0 l1 a2 a3 a4 true) else (if a2 = true then (if (l1.length : Int) = 0 then (florinlaw05_OperandReads.j0 k l0 l1 a2 a3 a4 true) else (florinlaw05_OperandReads.j0 k l0 l1 a2 a3 a4 (decide (a3 > 11000)))) else (florinlaw05_OperandReads.j0 k l0 l1 a2 a3 a4 (decide (a3 > 11000))))))) else (some false))) = some r := h
  clear h
  replace H := Option.bind_eq_some_iff.mp H
  obtain ⟨t199, A60, H⟩ := H
  replace H : (if t199 = true then (if (l0.length : Int) > 1100 then (florinlaw05_OperandReads.j0 k l0 l1 a2 a3 a4 true) else (if (l1.length : Int) > 1100 then (florinlaw05_OperandReads.j0 k l0 l1 a2 a3 a4 true) else (if (l0.length : Int) = 0 then (florinlaw05_OperandReads.j0 k l0 l1 a2 a3 a4 true) else (if a2 = true then (if (l1.length : Int) = 0 then (florinlaw05_OperandReads.j0 k l0 l1 a2 a3 a4 true) else (florinlaw05_OperandReads.j0 k l0 l1 a2 a3 a4 (decide (a3 > 11000)))) else (florinlaw05_OperandReads.j0 k l0 l1 a2 a3 a4 (decide (a3 > 11000))))))) else (some false)) = some r := H
  have A6 := Aside0.mk A60
  clear A60
  by_cases c7 : t199 = true
  · subst c7
    have H1 : (if (l0.length : Int) > 1100 then (florinlaw05_OperandReads.j0 k l0 l1 a2 a3 a4 true) else (if (l1.length : Int) > 1100 then (florinlaw05_OperandReads.j0 k l0 l1 a2 a3 a4 true) else (if (l0.length : Int) = 0 then (florinlaw05_OperandReads.j0 k l0 l1 a2 a3 a4 true) else (if a2 = true then (if (l1.length : Int) = 0 then (florinlaw05_OperandReads.j0 k l0 l1 a2 a3 a4 true) else (florinlaw05_OperandReads.j0 k l0 l1 a2 a3 a4 (decide (a3 > 11000)))) else (florinlaw05_OperandReads.j0 k l0 l1 a2 a3 a4 (decide (a3 > 11000))))))) = some r := by rw [if_pos rfl] at H; exact H
    clear H
    have H := H1
    clear H1
    have HC8 := Aside0.mk H
    clear H
    go_enter Tryd.func5, Tryd.ntmps5
    go_upto_region 3 with (first | ((with_reducible refine gate_callee (f := 8) rfl ?_); refine goesL_ (some 17) rfl rfl Tryd.func8 (by kernel_rfl) rfl #[] rfl (by (try simp only [List.map_toArray, List.map_cons, List.map_nil]); first | done | rfl | (simp only [List.length_drop, List.length_take]; rfl)) ?_; (with_reducible refine (florinlaw05_head.calls k  true _ A6.out).mono ?_); rintro e w9 ⟨rfl, hb⟩; refine ⟨_, rfl, ?_⟩; have n0_ := Aside0.mk (below_step (by repeat (first | (with_reducible first | exact HB.out | apply below_alloc | apply pw_below_drewN | apply below_drew1) | exact HB.out)) hb); clear HB; have HB := n0_; clear n0_; (try clear hb); (try clear hb2); (try clear hk); (try clear hi)))
    (try simp only [Act.put, List.setIfInBounds_toArray, List.set_cons_zero, List.set_cons_succ])
    go_cut [43] (fun v43 wc => ∃ (kq : Nat) (x43_7 : Bool), v43 = .bool x43_7 ∧ Aside0 (florinlaw05_OperandReads.j0 kq l0 l1 a2 a3 a4 x43_7 = some r) ∧ Aside0 (kq ≤ k) ∧ Aside0 (Below w.heap.size w wc))
    case first =>
      have H := HC8.out
      clear HC8
      by_cases c10 : (l0.length : Int) > 1100
      · rw [if_pos c10] at H
        have c10b0 : decide (1100 < (l0.length : Int)) = true := decide_eq_true c10
        have c10b1 : decide (1100 < l0.length) = true := decide_eq_true (by omega)
        clear c10
        (first | rw [c10b0] | (simp only [i64_w, i32_w]; rw [c10b0]) | skip)
        have H' := Aside0.mk H
        clear H
        go_wp2
        go_meet
        case rel => exact ⟨_, (true), (by first | rfl | (simp; done) | (simp [*]; done) | (simp; first | exact given_isEmpty _ | exact (given_isEmpty _).symm)), H', ⟨by first | omega | exact Nat.le_refl _⟩, ⟨by repeat (first | (with_reducible first | exact HB.out | apply below_alloc | apply pw_below_drewN | apply below_drew1) | exact HB.out)⟩⟩
      · rw [if_neg c10] at H
        have c10b0 : decide (1100 < (l0.length : Int)) = false := decide_eq_false c10
        have c10b1 : decide (1100 < l0.length) = false := decide_eq_false (by omega)
        clear c10
        (first | rw [c10b0] | (simp only [i64_w, i32_w]; rw [c10b0]) | skip)
        by_cases c11 : (l1.length : Int) > 1100
        · rw [if_pos c11] at H
          have c11b0 : decide (1100 < (l1.length : Int)) = true := decide_eq_true c11
          have c11b1 : decide (1100 < l1.length) = true := decide_eq_true (by omega)
          clear c11
          have H' := Aside0.mk H
          clear H
          go_wp2
          go_meet
          case rel => exact ⟨_, (true), (by first | rfl | (simp; done) | (simp [*]; done) | (simp; first | exact given_isEmpty _ | exact (given_isEmpty _).symm)), H', ⟨by first | omega | exact Nat.le_refl _⟩, ⟨by repeat (first | (with_reducible first | exact HB.out | apply below_alloc | apply pw_below_drewN | apply below_drew1) | exact HB.out)⟩⟩
        · rw [if_neg c11] at H
          have c11b0 : decide (1100 < (l1.length : Int)) = false := decide_eq_false c11
          have c11b1 : decide (1100 < l1.length) = false := decide_eq_false (by omega)
          clear c11
          by_cases c12 : (l0.length : Int) = 0
          · rw [if_pos c12] at H
            have c12b0 : ((l0.length : Int) == 0) = true := beq_iff_eq.mpr c12
            have c12b1 : ((l0.length : Int) != 0) = false := bne_eq_false_iff_eq.mpr c12
            clear c12
            have H' := Aside0.mk H
            clear H
            go_wp2
            go_meet
            case rel => exact ⟨_, (true), (by first | rfl | (simp; done) | (simp [*]; done) | (simp; first | exact given_isEmpty _ | exact (given_isEmpty _).symm)), H', ⟨by first | omega | exact Nat.le_refl _⟩, ⟨by repeat (first | (with_reducible first | exact HB.out | apply below_alloc | apply pw_below_drewN | apply below_drew1) | exact HB.out)⟩⟩
          · rw [if_neg c12] at H
            have c12b0 : ((l0.length : Int) == 0) = false := beq_eq_false_iff_ne.mpr c12
            have c12b1 : ((l0.length : Int) != 0) = true := bne_iff_ne.mpr c12
            have c12b2 : ¬ (l0 = []) := fun h_ => c12 (by rw [h_]; rfl)
            by_cases c13 : a2 = true
            · subst c13
              have H1 : (if (l1.length : Int) = 0 then (florinlaw05_OperandReads.j0 k l0 l1 true a3 a4 true) else (florinlaw05_OperandReads.j0 k l0 l1 true a3 a4 (decide (a3 > 11000)))) = some r := by rw [if_pos rfl] at H; exact H
              clear H
              have H := H1
              clear H1
              by_cases c14 : (l1.length : Int) = 0
              · rw [if_pos c14] at H
                have c14b0 : ((l1.length : Int) == 0) = true := beq_iff_eq.mpr c14
                have c14b1 : ((l1.length : Int) != 0) = false := bne_eq_false_iff_eq.mpr c14
                clear c14
                have H' := Aside0.mk H
                clear H
                go_wp2
                go_meet
                case rel => exact ⟨_, (true), (by first | rfl | (simp; done) | (simp [*]; done) | (simp; first | exact given_isEmpty _ | exact (given_isEmpty _).symm)), H', ⟨by first | omega | exact Nat.le_refl _⟩, ⟨by repeat (first | (with_reducible first | exact HB.out | apply below_alloc | apply pw_below_drewN | apply below_drew1) | exact HB.out)⟩⟩
              · rw [if_neg c14] at H
                have c14b0 : ((l1.length : Int) == 0) = false := beq_eq_false_iff_ne.mpr c14
                have c14b1 : ((l1.length : Int) != 0) = true := bne_iff_ne.mpr c14
                have c14b2 : ¬ (l1 = []) := fun h_ => c14 (by rw [h_]; rfl)
                have H' := Aside0.mk H
                clear H
                go_wp2
                go_meet
                case rel => exact ⟨_, (decide (a3 > 11000)), (by first | rfl | (simp; done) | (simp [*]; done) | (simp; first | exact given_isEmpty _ | exact (given_isEmpty _).symm)), H', ⟨by first | omega | exact Nat.le_refl _⟩, ⟨by repeat (first | (with_reducible first | exact HB.out | apply below_alloc | apply pw_below_drewN | apply below_drew1) | exact HB.out)⟩⟩
            · replace c13 := Bool.eq_false_iff.mpr c13
              subst c13
              have H1 : (florinlaw05_OperandReads.j0 k l0 l1 false a3 a4 (decide (a3 > 11000))) = some r := by rw [if_neg (show ¬ (false = true) by decide)] at H; exact H
              clear H
              have H := H1
              clear H1
              have H' := Aside0.mk H
              clear H
              go_wp2
              go_meet
              case rel => exact ⟨_, (decide (a3 > 11000)), (by first | rfl | (simp; done) | (simp [*]; done) | (simp; first | exact given_isEmpty _ | exact (given_isEmpty _).symm)), H', ⟨by first | omega | exact Nat.le_refl _⟩, ⟨by repeat (first | (with_reducible first | exact HB.out | apply below_alloc | apply pw_below_drewN | apply below_drew1) | exact HB.out)⟩⟩
    case rest =>
      clear HC8
      try clear c1
      try clear p2
      try clear c5
      try clear c7
      try clear c8
      try clear c10
      try clear c10b0
      try clear c10b1
      try clear c11
      try clear c11b0
      try clear c11b1
      try clear c12
      try clear c12b0
      try clear c12b1
      try clear c12b2
      try clear c13
      try clear c14
      try clear c14b0
      try clear c14b1
      try clear c14b2
      obtain ⟨kq, x43_7, rfl, HA, HJ7, HB⟩ := hcut
      cases kq with
      | zero => exact absurd HA.out (by simp [florinlaw05_OperandReads.j0])
      | succ kj7 =>
        have H := HA.out
        clear HA
        simp only [florinlaw05_OperandReads.j0] at H
        by_cases c15 : x43_7 = true
        · subst c15
          have H1 : (some true) = some r := by rw [if_pos rfl] at H; exact H
          clear H
          have H := H1
          clear H1
          obtain rfl := Option.some.inj H
          go_wp2
          go_ret
          exact ⟨by first | rfl | (simp [errW_none, errW_some] <;> rfl) | (simp [*, errW_none, errW_some] <;> rfl), by repeat (first | (with_reducible first | exact HB.out | apply below_alloc | apply pw_below_drewN | apply below_drew1) | exact HB.out)⟩
        · replace c15 := Bool.eq_false_iff.mpr c15
          subst c15
          have H1 : ((florinlaw01_Digits.f kj7 l0).bind fun t200 => (if a2 = true then ((florinlaw01_Digits.f kj7 l1).bind fun t202 => (if t200.size + 1 ≤ 9223372036854775807 then (if (t200 ++ (⟨#[46]⟩ : ByteArray)).size + t202.size ≤ 9223372036854775807 then (florinlaw05_OperandReads.j1 kj7 a3 a4 ((t200 ++ (⟨#[46]⟩ : ByteArray)) ++ t202) false t200 t202) else (none)) else (none))) else (florinlaw05_OperandReads.j1 kj7 a3 a4 t200 false t200 (⟨#[]⟩ : ByteArray)))) = some r := by rw [if_neg (show ¬ (false = true) by decide)] at H; exact H
          clear H
          have H := H1
          clear H1
          replace H := Option.bind_eq_some_iff.mp H
          obtain ⟨t200, A160, H⟩ := H
          replace H : (if a2 = true then ((florinlaw01_Digits.f kj7 l1).bind fun t202 => (if t200.size + 1 ≤ 9223372036854775807 then (if (t200 ++ (⟨#[46]⟩ : ByteArray)).size + t202.size ≤ 9223372036854775807 then (florinlaw05_OperandReads.j1 kj7 a3 a4 ((t200 ++ (⟨#[46]⟩ : ByteArray)) ++ t202) false t200 t202) else (none)) else (none))) else (florinlaw05_OperandReads.j1 kj7 a3 a4 t200 false t200 (⟨#[]⟩ : ByteArray))) = some r := H
          have A16 := Aside0.mk A160
          clear A160
          have HC17 := Aside0.mk H
          clear H
          go_upto_if 49 with (first | ((with_reducible refine gate_callee (f := 14) rfl ?_); refine goesL_ (some 45) rfl rfl Tryd.func14 (by kernel_rfl) rfl #[.slice A0 l0.length c0] rfl (by (try simp only [List.map_toArray, List.map_cons, List.map_nil]); first | done | rfl | (simp only [List.length_drop, List.length_take]; rfl)) ?_; (with_reducible refine (florinlaw01_Digits.calls kj7 _ _ l0 t200 _ ?side1 ?side2 A16.out).mono ?_); (case side1 => repeat (first | exact (Kd.C_below HR0.out HB.out) | (with_reducible refine Kd.C_alloc ?_ _) | (with_reducible refine Kd.C_drewN ?_ _) | (with_reducible refine Kd.C_drew ?_))); (case side2 => exact HC0.out); rintro e w18 ⟨rfl, hb⟩; refine ⟨_, rfl, ?_⟩; have n0_ := Aside0.mk (below_step (by repeat (first | (with_reducible first | exact HB.out | apply below_alloc | apply pw_below_drewN | apply below_drew1) | exact HB.out)) hb); clear HB; have HB := n0_; clear n0_; (try clear hb); (try clear hb2); (try clear hk); (try clear hi)) | ((with_reducible refine gate_dst (N := 11) rfl ?_); (try (refine gate_guard (by rfl) ?_; dsimp only)); refine box_event ?hg (N := 11) ?hd (cs := #[.bool false, .string (⟨#[]⟩ : ByteArray), .string (⟨#[]⟩ : ByteArray)]) (t := 31) ?hr ?_; (case hd => rfl); (case hg => rfl); (case hr => first | (go_simp; done) | (go_simp; rfl)); intro gb201 hg w19 hbox hb; have n0_ := Aside0.mk (below_step (by repeat (first | (with_reducible first | exact HB.out | apply below_alloc | apply pw_below_drewN | apply below_drew1) | exact HB.out)) hb); have n1_ := Aside0.mk (hbox); have n2_ := Aside0.mk ((by rw [hg]; exact (below_size (by repeat (first | (with_reducible first | exact HB.out | apply below_alloc | apply pw_below_drewN | apply below_drew1) | exact HB.out))) : w.heap.size ≤ gb201)); have n3_ := Aside0.mk ((by rw [hg]; exact (below_size (by repeat (first | (with_reducible first | exact HB.out | apply below_alloc | apply pw_below_drewN | apply below_drew1) | exact HB.out))) : w.heap.size ≤ gb201)); clear HB; have HB := n0_; have BK201 := n1_; have GW201 := n2_; have GE201 := n3_; clear n0_ n1_ n2_ n3_; clear hb hbox hg; have hcz20_0 : w19.cell? ⟨gb201, 0, none⟩ = some (.bool false) := (blk_cell BK201.out 0).trans rfl; have hcz20_1 : w19.cell? ⟨gb201, 1, none⟩ = some (.string (⟨#[]⟩ : ByteArray)) := (blk_cell BK201.out 1).trans rfl; have hcz20_2 : w19.cell? ⟨gb201, 2, none⟩ = some (.string (⟨#[]⟩ : ByteArray)) := (blk_cell BK201.out 2).trans rfl; have hfz20_0 := blk_frozen BK201.out 0; have hfz20_1 := blk_frozen BK201.out 1; have hfz20_2 := blk_frozen BK201.out 2))
          (try simp only [Act.put, List.setIfInBounds_toArray, List.set_cons_zero, List.set_cons_succ])
          go_cut [12] (fun v12 wc => ∃ (kq : Nat) (x12_16 : ByteArray) (x202002_16 : ByteArray), v12 = .string x12_16 ∧ Aside0 (florinlaw05_OperandReads.j1 kq a3 a4 x12_16 false t200 x202002_16 = some r) ∧ Aside0 (kq ≤ kj7) ∧ Aside0 (wc.heap[gb201]? = some (.cells #[.bool false, .string t200, .string x202002_16] 31 (0, 0))) ∧ Aside0 (Below w.heap.size w wc))
          case first =>
            have H := HC17.out
            clear HC17
            by_cases c21 : a2 = true
            · subst c21
              have H1 : ((florinlaw01_Digits.f kj7 l1).bind fun t202 => (if t200.size + 1 ≤ 9223372036854775807 then (if (t200 ++ (⟨#[46]⟩ : ByteArray)).size + t202.size ≤ 9223372036854775807 then (florinlaw05_OperandReads.j1 kj7 a3 a4 ((t200 ++ (⟨#[46]⟩ : ByteArray)) ++ t202) false t200 t202) else (none)) else (none))) = some r := by rw [if_pos rfl] at H; exact H
              clear H
              have H := H1
              clear H1
              replace H := Option.bind_eq_some_iff.mp H
              obtain ⟨t202, A220, H⟩ := H
              replace H : (if t200.size + 1 ≤ 9223372036854775807 then (if (t200 ++ (⟨#[46]⟩ : ByteArray)).size + t202.size ≤ 9223372036854775807 then (florinlaw05_OperandReads.j1 kj7 a3 a4 ((t200 ++ (⟨#[46]⟩ : ByteArray)) ++ t202) false t200 t202) else (none)) else (none)) = some r := H
              have A22 := Aside0.mk A220
              clear A220
              by_cases c23 : t200.size + 1 ≤ 9223372036854775807
              · rw [if_pos c23] at H
                have c23b0 := eq_true c23
                have c23b1 : decide (t200.size + 1 ≤ 9223372036854775807) = true := decide_eq_true c23
                try have c23b2 : (9223372036854775807 < t200.size + 1) = False := eq_false (Nat.not_lt.2 c23)
                by_cases c24 : (t200 ++ (⟨#[46]⟩ : ByteArray)).size + t202.size ≤ 9223372036854775807
                · rw [if_pos c24] at H
                  have c24b0 := eq_true c24
                  have c24b1 : decide ((t200 ++ (⟨#[46]⟩ : ByteArray)).size + t202.size ≤ 9223372036854775807) = true := decide_eq_true c24
                  try have c24b2 : (9223372036854775807 < (t200 ++ (⟨#[46]⟩ : ByteArray)).size + t202.size) = False := eq_false (Nat.not_lt.2 c24)
                  try have c24b3 : (9223372036854775807 < t200.size + 1 + t202.size) = False := eq_false (Nat.not_lt.2 (by have h_ := c24; simp only [ByteArray.size_append] at h_; exact h_))
                  try have c24b4 : (t200.size + 1 + t202.size ≤ 9223372036854775807) = True := eq_true (by have h_ := c24; simp only [ByteArray.size_append] at h_; exact h_)
                  have H' := Aside0.mk H
                  clear H
                  go_wp2_with (first | ((with_reducible refine gate_callee (f := 14) rfl ?_); refine goesL_ (some 51) rfl rfl Tryd.func14 (by kernel_rfl) rfl #[.slice A1 l1.length c1] rfl (by (try simp only [List.map_toArray, List.map_cons, List.map_nil]); first | done | rfl | (simp only [List.length_drop, List.length_take]; rfl)) ?_; (with_reducible refine (florinlaw01_Digits.calls kj7 _ _ l1 t202 _ ?side1 ?side2 A22.out).mono ?_); (case side1 => exact Kd.C_below HR1.out (by repeat (first | (with_reducible first | exact HB.out | apply below_alloc | apply pw_below_drewN | apply below_drew1 | refine below_set ?_ GE201.out) | exact HB.out))); (case side2 => exact HC1.out); rintro e w25 ⟨rfl, hb⟩; refine ⟨_, rfl, ?_⟩; have n0_ := Aside0.mk (blk_below (g := gb201) (o := .cells #[.bool false, .string t200, .string (⟨#[]⟩ : ByteArray)] 31 (0, 0)) (by (with_reducible repeat (first | refine blk_drewN ?_ _ | refine blk_drew ?_ | refine blk_alloc ?_ _)); refine blk_put (cs := #[.bool false, .string t200, .string (⟨#[]⟩ : ByteArray)]) ?_ 2 _ rfl; (with_reducible repeat (first | refine blk_drewN ?_ _ | refine blk_drew ?_ | refine blk_alloc ?_ _)); refine blk_put (cs := #[.bool false, .string (⟨#[]⟩ : ByteArray), .string (⟨#[]⟩ : ByteArray)]) ?_ 1 _ rfl; (with_reducible repeat (first | refine blk_drewN ?_ _ | refine blk_drew ?_ | refine blk_alloc ?_ _)); refine blk_put (cs := #[.bool false, .string (⟨#[]⟩ : ByteArray), .string (⟨#[]⟩ : ByteArray)]) ?_ 0 _ rfl; (with_reducible repeat (first | refine blk_drewN ?_ _ | refine blk_drew ?_ | refine blk_alloc ?_ _)); exact BK201.out) hb); have n1_ := Aside0.mk (below_step (by repeat (first | (with_reducible first | exact HB.out | apply below_alloc | apply pw_below_drewN | apply below_drew1 | refine below_set ?_ GE201.out) | exact HB.out)) hb); clear BK201; clear HB; have BK201 := n0_; have HB := n1_; clear n0_ n1_; (try clear hb); (try clear hb2); (try clear hk); (try clear hi); have hcz26_0 : w25.cell? ⟨gb201, 0, none⟩ = some (.bool false) := (blk_cell BK201.out 0).trans rfl; have hcz26_1 : w25.cell? ⟨gb201, 1, none⟩ = some (.string t200) := (blk_cell BK201.out 1).trans rfl; have hcz26_2 : w25.cell? ⟨gb201, 2, none⟩ = some (.string (⟨#[]⟩ : ByteArray)) := (blk_cell BK201.out 2).trans rfl; have hfz26_0 := blk_frozen BK201.out 0; have hfz26_1 := blk_frozen BK201.out 1; have hfz26_2 := blk_frozen BK201.out 2))
                  go_meet
                  case rel => exact ⟨_, ((t200 ++ (⟨#[46]⟩ : ByteArray)) ++ t202), (t202), (by first | rfl | (simp; done) | (simp [*]; done) | (simp; first | exact given_isEmpty _ | exact (given_isEmpty _).symm)), H', ⟨by have := HJ7.out; first | omega | exact Nat.le_refl _⟩, ⟨by (with_reducible repeat (first | refine blk_drewN ?_ _ | refine blk_drew ?_ | refine blk_alloc ?_ _)); refine blk_put (cs := #[.bool false, .string t200, .string (⟨#[]⟩ : ByteArray)]) ?_ 2 _ rfl; (with_reducible repeat (first | refine blk_drewN ?_ _ | refine blk_drew ?_ | refine blk_alloc ?_ _)); exact BK201.out⟩, ⟨by repeat (first | (with_reducible first | exact HB.out | apply below_alloc | apply pw_below_drewN | apply below_drew1 | refine below_set ?_ GE201.out) | exact HB.out)⟩⟩
                · rw [if_neg c24] at H
                  exact absurd H (by simp)
              · rw [if_neg c23] at H
                exact absurd H (by simp)
            · replace c21 := Bool.eq_false_iff.mpr c21
              subst c21
              have H1 : (florinlaw05_OperandReads.j1 kj7 a3 a4 t200 false t200 (⟨#[]⟩ : ByteArray)) = some r := by rw [if_neg (show ¬ (false = true) by decide)] at H; exact H
              clear H
              have H := H1
              clear H1
              have H' := Aside0.mk H
              clear H
              go_wp2
              go_meet
              case rel => exact ⟨_, (t200), ((⟨#[]⟩ : ByteArray)), (by first | rfl | (simp; done) | (simp [*]; done) | (simp; first | exact given_isEmpty _ | exact (given_isEmpty _).symm)), H', ⟨by have := HJ7.out; first | omega | exact Nat.le_refl _⟩, ⟨by (with_reducible repeat (first | refine blk_drewN ?_ _ | refine blk_drew ?_ | refine blk_alloc ?_ _)); refine blk_put (cs := #[.bool false, .string t200, .string (⟨#[]⟩ : ByteArray)]) ?_ 2 _ rfl; (with_reducible repeat (first | refine blk_drewN ?_ _ | refine blk_drew ?_ | refine blk_alloc ?_ _)); refine blk_put (cs := #[.bool false, .string (⟨#[]⟩ : ByteArray), .string (⟨#[]⟩ : ByteArray)]) ?_ 1 _ rfl; (with_reducible repeat (first | refine blk_drewN ?_ _ | refine blk_drew ?_ | refine blk_alloc ?_ _)); refine blk_put (cs := #[.bool false, .string (⟨#[]⟩ : ByteArray), .string (⟨#[]⟩ : ByteArray)]) ?_ 0 _ rfl; (with_reducible repeat (first | refine blk_drewN ?_ _ | refine blk_drew ?_ | refine blk_alloc ?_ _)); exact BK201.out⟩, ⟨by repeat (first | (with_reducible first | exact HB.out | apply below_alloc | apply pw_below_drewN | apply below_drew1 | refine below_set ?_ GE201.out) | exact HB.out)⟩⟩
          case rest =>
            clear HC17
            try clear c1
            try clear c2
            try clear p2
            try clear c5
            try clear c7
            try clear c8
            try clear c10
            try clear c10b0
            try clear c10b1
            try clear c11
            try clear c11b0
            try clear c11b1
            try clear c12
            try clear c12b0
            try clear c12b1
            try clear c12b2
            try clear c13
            try clear c14
            try clear c14b0
            try clear c14b1
            try clear c14b2
            try clear c15
            try clear c21
            try clear c23
            try clear c23b0
            try clear c23b1
            try clear c23b2
            try clear c24
            try clear c24b0
            try clear c24b1
            try clear c24b2
            try clear hcz20_0
            try clear hcz20_1
            try clear hcz20_2
            try clear hcz26_0
            try clear hcz26_1
            try clear hcz26_2
            try clear hfz20_0
            try clear hfz20_1
            try clear hfz20_2
            try clear hfz26_0
            try clear hfz26_1
            try clear hfz26_2
            try clear p2
            obtain ⟨kq, x12_16, x202002_16, rfl, HA, HJ16, BK201, HB⟩ := hcut
            cases kq with
            | zero => exact absurd HA.out (by simp [florinlaw05_OperandReads.j1])
            | succ kj16 =>
              have H := HA.out
              clear HA
              simp only [florinlaw05_OperandReads.j1] at H
              have HC27 := Aside0.mk H
              clear H
              go_upto_if 59 with (fail)
              go_cut [12] (fun v12 wc => ∃ (kq : Nat) (x12_26 : ByteArray), v12 = .string x12_26 ∧ Aside0 (florinlaw05_OperandReads.j2 kq a3 x12_26 false t200 x202002_16 = some r) ∧ Aside0 (kq ≤ kj16) ∧ Aside0 (wc.heap[gb201]? = some (.cells #[.bool false, .string t200, .string x202002_16] 31 (0, 0))) ∧ Aside0 (Below w.heap.size w wc))
              case first =>
                have H := HC27.out
                clear HC27
                by_cases c28 : a3 ≥ 0
                · rw [if_pos c28] at H
                  have c28b0 : decide (0 ≤ a3) = true := decide_eq_true c28
                  clear c28
                  (first | rw [c28b0] | (simp only [i64_w, i32_w]; rw [c28b0]) | skip)
                  by_cases c29 : a4 = true
                  · subst c29
                    have H1 : ((num_Of.f kj16 a3).bind fun t203 => (if t203.toList = ([] : List UInt8) then (if x12_16.size + 1 ≤ 9223372036854775807 then (if (x12_16 ++ (⟨#[101]⟩ : ByteArray)).size + 1 ≤ 9223372036854775807 then (florinlaw05_OperandReads.j2 kj16 a3 ((x12_16 ++ (⟨#[101]⟩ : ByteArray)) ++ (⟨#[48]⟩ : ByteArray)) false t200 x202002_16) else (none)) else (none)) else (if x12_16.size + 1 ≤ 9223372036854775807 then (if (x12_16 ++ (⟨#[101]⟩ : ByteArray)).size + t203.size ≤ 9223372036854775807 then (florinlaw05_OperandReads.j2 kj16 a3 ((x12_16 ++ (⟨#[101]⟩ : ByteArray)) ++ t203) false t200 x202002_16) else (none)) else (none)))) = some r := by rw [if_pos rfl] at H; exact H
                    clear H
                    have H := H1
                    clear H1
                    replace H := Option.bind_eq_some_iff.mp H
                    obtain ⟨t203, A300, H⟩ := H
                    replace H : (if t203.toList = ([] : List UInt8) then (if x12_16.size + 1 ≤ 9223372036854775807 then (if (x12_16 ++ (⟨#[101]⟩ : ByteArray)).size + 1 ≤ 9223372036854775807 then (florinlaw05_OperandReads.j2 kj16 a3 ((x12_16 ++ (⟨#[101]⟩ : ByteArray)) ++ (⟨#[48]⟩ : ByteArray)) false t200 x202002_16) else (none)) else (none)) else (if x12_16.size + 1 ≤ 9223372036854775807 then (if (x12_16 ++ (⟨#[101]⟩ : ByteArray)).size + t203.size ≤ 9223372036854775807 then (florinlaw05_OperandReads.j2 kj16 a3 ((x12_16 ++ (⟨#[101]⟩ : ByteArray)) ++ t203) false t200 x202002_16) else (none)) else (none))) = some r := H
                    have A30 := Aside0.mk A300
                    clear A300
                    by_cases c31 : t203.toList = ([] : List UInt8)
                    · rw [if_pos c31] at H
                      have c31b0 : (t203.toList == ([] : List UInt8)) = true := beq_iff_eq.mpr c31
                      have c31b1 : (t203.toList != ([] : List UInt8)) = false := bne_eq_false_iff_eq.mpr c31
                      clear c31
                      by_cases c32 : x12_16.size + 1 ≤ 9223372036854775807
                      · rw [if_pos c32] at H
                        have c32b0 := eq_true c32
                        have c32b1 : decide (x12_16.size + 1 ≤ 9223372036854775807) = true := decide_eq_true c32
                        try have c32b2 : (9223372036854775807 < x12_16.size + 1) = False := eq_false (Nat.not_lt.2 c32)
                        by_cases c33 : (x12_16 ++ (⟨#[101]⟩ : ByteArray)).size + 1 ≤ 9223372036854775807
                        · rw [if_pos c33] at H
                          have c33b0 := eq_true c33
                          have c33b1 : decide ((x12_16 ++ (⟨#[101]⟩ : ByteArray)).size + 1 ≤ 9223372036854775807) = true := decide_eq_true c33
                          try have c33b2 : (9223372036854775807 < (x12_16 ++ (⟨#[101]⟩ : ByteArray)).size + 1) = False := eq_false (Nat.not_lt.2 c33)
                          try have c33b3 : (9223372036854775807 < x12_16.size + 1 + 1) = False := eq_false (Nat.not_lt.2 (by have h_ := c33; simp only [ByteArray.size_append] at h_; exact h_))
                          try have c33b4 : (x12_16.size + 1 + 1 ≤ 9223372036854775807) = True := eq_true (by have h_ := c33; simp only [ByteArray.size_append] at h_; exact h_)
                          have H' := Aside0.mk H
                          clear H
                          go_wp2_with (first | ((with_reducible refine gate_callee (f := 15) rfl ?_); refine goesL_ (some 62) rfl rfl Tryd.func15 (by kernel_rfl) rfl #[.int .i64 a3] rfl (by (try simp only [List.map_toArray, List.map_cons, List.map_nil]); first | done | rfl | (simp only [List.length_drop, List.length_take]; rfl)) ?_; (with_reducible refine (num_Of.calls kj16 a3 t203 _ A30.out).mono ?_); rintro e w34 ⟨rfl, hb⟩; refine ⟨_, rfl, ?_⟩; have n0_ := Aside0.mk (blk_below (g := gb201) (o := .cells #[.bool false, .string t200, .string x202002_16] 31 (0, 0)) (by (with_reducible repeat (first | refine blk_drewN ?_ _ | refine blk_drew ?_ | refine blk_alloc ?_ _)); exact BK201.out) hb); have n1_ := Aside0.mk (below_step (by repeat (first | (with_reducible first | exact HB.out | apply below_alloc | apply pw_below_drewN | apply below_drew1 | refine below_set ?_ GE201.out) | exact HB.out)) hb); clear BK201; clear HB; have BK201 := n0_; have HB := n1_; clear n0_ n1_; (try clear hb); (try clear hb2); (try clear hk); (try clear hi)))
                          go_meet
                          case rel => exact ⟨_, ((x12_16 ++ (⟨#[101]⟩ : ByteArray)) ++ (⟨#[48]⟩ : ByteArray)), (by first | rfl | (simp; done) | (simp [*]; done) | (simp; first | exact given_isEmpty _ | exact (given_isEmpty _).symm)), H', ⟨by have := HJ7.out; have := HJ16.out; first | omega | exact Nat.le_refl _⟩, ⟨by (with_reducible repeat (first | refine blk_drewN ?_ _ | refine blk_drew ?_ | refine blk_alloc ?_ _)); exact BK201.out⟩, ⟨by repeat (first | (with_reducible first | exact HB.out | apply below_alloc | apply pw_below_drewN | apply below_drew1 | refine below_set ?_ GE201.out) | exact HB.out)⟩⟩
                        · rw [if_neg c33] at H
                          exact absurd H (by simp)
                      · rw [if_neg c32] at H
                        exact absurd H (by simp)
                    · rw [if_neg c31] at H
                      have c31b0 : (t203.toList == ([] : List UInt8)) = false := beq_eq_false_iff_ne.mpr c31
                      have c31b1 : (t203.toList != ([] : List UInt8)) = true := bne_iff_ne.mpr c31
                      by_cases c35 : x12_16.size + 1 ≤ 9223372036854775807
                      · rw [if_pos c35] at H
                        have c35b0 := eq_true c35
                        have c35b1 : decide (x12_16.size + 1 ≤ 9223372036854775807) = true := decide_eq_true c35
                        try have c35b2 : (9223372036854775807 < x12_16.size + 1) = False := eq_false (Nat.not_lt.2 c35)
                        by_cases c36 : (x12_16 ++ (⟨#[101]⟩ : ByteArray)).size + t203.size ≤ 9223372036854775807
                        · rw [if_pos c36] at H
                          have c36b0 := eq_true c36
                          have c36b1 : decide ((x12_16 ++ (⟨#[101]⟩ : ByteArray)).size + t203.size ≤ 9223372036854775807) = true := decide_eq_true c36
                          try have c36b2 : (9223372036854775807 < (x12_16 ++ (⟨#[101]⟩ : ByteArray)).size + t203.size) = False := eq_false (Nat.not_lt.2 c36)
                          try have c36b3 : (9223372036854775807 < x12_16.size + 1 + t203.size) = False := eq_false (Nat.not_lt.2 (by have h_ := c36; simp only [ByteArray.size_append] at h_; exact h_))
                          try have c36b4 : (x12_16.size + 1 + t203.size ≤ 9223372036854775807) = True := eq_true (by have h_ := c36; simp only [ByteArray.size_append] at h_; exact h_)
                          have H' := Aside0.mk H
                          clear H
                          go_wp2_with (first | ((with_reducible refine gate_callee (f := 15) rfl ?_); refine goesL_ (some 62) rfl rfl Tryd.func15 (by kernel_rfl) rfl #[.int .i64 a3] rfl (by (try simp only [List.map_toArray, List.map_cons, List.map_nil]); first | done | rfl | (simp only [List.length_drop, List.length_take]; rfl)) ?_; (with_reducible refine (num_Of.calls kj16 a3 t203 _ A30.out).mono ?_); rintro e w37 ⟨rfl, hb⟩; refine ⟨_, rfl, ?_⟩; have n0_ := Aside0.mk (blk_below (g := gb201) (o := .cells #[.bool false, .string t200, .string x202002_16] 31 (0, 0)) (by (with_reducible repeat (first | refine blk_drewN ?_ _ | refine blk_drew ?_ | refine blk_alloc ?_ _)); exact BK201.out) hb); have n1_ := Aside0.mk (below_step (by repeat (first | (with_reducible first | exact HB.out | apply below_alloc | apply pw_below_drewN | apply below_drew1 | refine below_set ?_ GE201.out) | exact HB.out)) hb); clear BK201; clear HB; have BK201 := n0_; have HB := n1_; clear n0_ n1_; (try clear hb); (try clear hb2); (try clear hk); (try clear hi)))
                          go_meet
                          case rel => exact ⟨_, ((x12_16 ++ (⟨#[101]⟩ : ByteArray)) ++ t203), (by first | rfl | (simp; done) | (simp [*]; done) | (simp; first | exact given_isEmpty _ | exact (given_isEmpty _).symm)), H', ⟨by have := HJ7.out; have := HJ16.out; first | omega | exact Nat.le_refl _⟩, ⟨by (with_reducible repeat (first | refine blk_drewN ?_ _ | refine blk_drew ?_ | refine blk_alloc ?_ _)); exact BK201.out⟩, ⟨by repeat (first | (with_reducible first | exact HB.out | apply below_alloc | apply pw_below_drewN | apply below_drew1 | refine below_set ?_ GE201.out) | exact HB.out)⟩⟩
                        · rw [if_neg c36] at H
                          exact absurd H (by simp)
                      · rw [if_neg c35] at H
                        exact absurd H (by simp)
                  · replace c29 := Bool.eq_false_iff.mpr c29
                    subst c29
                    have H1 : ((num_Of.f kj16 a3).bind fun t204 => (if t204.toList = ([] : List UInt8) then (if x12_16.size + 1 ≤ 9223372036854775807 then (if (x12_16 ++ (⟨#[99]⟩ : ByteArray)).size + 1 ≤ 9223372036854775807 then (florinlaw05_OperandReads.j2 kj16 a3 ((x12_16 ++ (⟨#[99]⟩ : ByteArray)) ++ (⟨#[48]⟩ : ByteArray)) false t200 x202002_16) else (none)) else (none)) else (if x12_16.size + 1 ≤ 9223372036854775807 then (if (x12_16 ++ (⟨#[99]⟩ : ByteArray)).size + t204.size ≤ 9223372036854775807 then (florinlaw05_OperandReads.j2 kj16 a3 ((x12_16 ++ (⟨#[99]⟩ : ByteArray)) ++ t204) false t200 x202002_16) else (none)) else (none)))) = some r := by rw [if_neg (show ¬ (false = true) by decide)] at H; exact H
                    clear H
                    have H := H1
                    clear H1
                    replace H := Option.bind_eq_some_iff.mp H
                    obtain ⟨t204, A380, H⟩ := H
                    replace H : (if t204.toList = ([] : List UInt8) then (if x12_16.size + 1 ≤ 9223372036854775807 then (if (x12_16 ++ (⟨#[99]⟩ : ByteArray)).size + 1 ≤ 9223372036854775807 then (florinlaw05_OperandReads.j2 kj16 a3 ((x12_16 ++ (⟨#[99]⟩ : ByteArray)) ++ (⟨#[48]⟩ : ByteArray)) false t200 x202002_16) else (none)) else (none)) else (if x12_16.size + 1 ≤ 9223372036854775807 then (if (x12_16 ++ (⟨#[99]⟩ : ByteArray)).size + t204.size ≤ 9223372036854775807 then (florinlaw05_OperandReads.j2 kj16 a3 ((x12_16 ++ (⟨#[99]⟩ : ByteArray)) ++ t204) false t200 x202002_16) else (none)) else (none))) = some r := H
                    have A38 := Aside0.mk A380
                    clear A380
                    by_cases c39 : t204.toList = ([] : List UInt8)
                    · rw [if_pos c39] at H
                      have c39b0 : (t204.toList == ([] : List UInt8)) = true := beq_iff_eq.mpr c39
                      have c39b1 : (t204.toList != ([] : List UInt8)) = false := bne_eq_false_iff_eq.mpr c39
                      clear c39
                      by_cases c40 : x12_16.size + 1 ≤ 9223372036854775807
                      · rw [if_pos c40] at H
                        have c40b0 := eq_true c40
                        have c40b1 : decide (x12_16.size + 1 ≤ 9223372036854775807) = true := decide_eq_true c40
                        try have c40b2 : (9223372036854775807 < x12_16.size + 1) = False := eq_false (Nat.not_lt.2 c40)
                        by_cases c41 : (x12_16 ++ (⟨#[99]⟩ : ByteArray)).size + 1 ≤ 9223372036854775807
                        · rw [if_pos c41] at H
                          have c41b0 := eq_true c41
                          have c41b1 : decide ((x12_16 ++ (⟨#[99]⟩ : ByteArray)).size + 1 ≤ 9223372036854775807) = true := decide_eq_true c41
                          try have c41b2 : (9223372036854775807 < (x12_16 ++ (⟨#[99]⟩ : ByteArray)).size + 1) = False := eq_false (Nat.not_lt.2 c41)
                          try have c41b3 : (9223372036854775807 < x12_16.size + 1 + 1) = False := eq_false (Nat.not_lt.2 (by have h_ := c41; simp only [ByteArray.size_append] at h_; exact h_))
                          try have c41b4 : (x12_16.size + 1 + 1 ≤ 9223372036854775807) = True := eq_true (by have h_ := c41; simp only [ByteArray.size_append] at h_; exact h_)
                          have H' := Aside0.mk H
                          clear H
                          go_wp2_with (first | ((with_reducible refine gate_callee (f := 15) rfl ?_); refine goesL_ (some 62) rfl rfl Tryd.func15 (by kernel_rfl) rfl #[.int .i64 a3] rfl (by (try simp only [List.map_toArray, List.map_cons, List.map_nil]); first | done | rfl | (simp only [List.length_drop, List.length_take]; rfl)) ?_; (with_reducible refine (num_Of.calls kj16 a3 t204 _ A38.out).mono ?_); rintro e w42 ⟨rfl, hb⟩; refine ⟨_, rfl, ?_⟩; have n0_ := Aside0.mk (blk_below (g := gb201) (o := .cells #[.bool false, .string t200, .string x202002_16] 31 (0, 0)) (by (with_reducible repeat (first | refine blk_drewN ?_ _ | refine blk_drew ?_ | refine blk_alloc ?_ _)); exact BK201.out) hb); have n1_ := Aside0.mk (below_step (by repeat (first | (with_reducible first | exact HB.out | apply below_alloc | apply pw_below_drewN | apply below_drew1 | refine below_set ?_ GE201.out) | exact HB.out)) hb); clear BK201; clear HB; have BK201 := n0_; have HB := n1_; clear n0_ n1_; (try clear hb); (try clear hb2); (try clear hk); (try clear hi)))
                          go_meet
                          case rel => exact ⟨_, ((x12_16 ++ (⟨#[99]⟩ : ByteArray)) ++ (⟨#[48]⟩ : ByteArray)), (by first | rfl | (simp; done) | (simp [*]; done) | (simp; first | exact given_isEmpty _ | exact (given_isEmpty _).symm)), H', ⟨by have := HJ7.out; have := HJ16.out; first | omega | exact Nat.le_refl _⟩, ⟨by (with_reducible repeat (first | refine blk_drewN ?_ _ | refine blk_drew ?_ | refine blk_alloc ?_ _)); exact BK201.out⟩, ⟨by repeat (first | (with_reducible first | exact HB.out | apply below_alloc | apply pw_below_drewN | apply below_drew1 | refine below_set ?_ GE201.out) | exact HB.out)⟩⟩
                        · rw [if_neg c41] at H
                          exact absurd H (by simp)
                      · rw [if_neg c40] at H
                        exact absurd H (by simp)
                    · rw [if_neg c39] at H
                      have c39b0 : (t204.toList == ([] : List UInt8)) = false := beq_eq_false_iff_ne.mpr c39
                      have c39b1 : (t204.toList != ([] : List UInt8)) = true := bne_iff_ne.mpr c39
                      by_cases c43 : x12_16.size + 1 ≤ 9223372036854775807
                      · rw [if_pos c43] at H
                        have c43b0 := eq_true c43
                        have c43b1 : decide (x12_16.size + 1 ≤ 9223372036854775807) = true := decide_eq_true c43
                        try have c43b2 : (9223372036854775807 < x12_16.size + 1) = False := eq_false (Nat.not_lt.2 c43)
                        by_cases c44 : (x12_16 ++ (⟨#[99]⟩ : ByteArray)).size + t204.size ≤ 9223372036854775807
                        · rw [if_pos c44] at H
                          have c44b0 := eq_true c44
                          have c44b1 : decide ((x12_16 ++ (⟨#[99]⟩ : ByteArray)).size + t204.size ≤ 9223372036854775807) = true := decide_eq_true c44
                          try have c44b2 : (9223372036854775807 < (x12_16 ++ (⟨#[99]⟩ : ByteArray)).size + t204.size) = False := eq_false (Nat.not_lt.2 c44)
                          try have c44b3 : (9223372036854775807 < x12_16.size + 1 + t204.size) = False := eq_false (Nat.not_lt.2 (by have h_ := c44; simp only [ByteArray.size_append] at h_; exact h_))
                          try have c44b4 : (x12_16.size + 1 + t204.size ≤ 9223372036854775807) = True := eq_true (by have h_ := c44; simp only [ByteArray.size_append] at h_; exact h_)
                          have H' := Aside0.mk H
                          clear H
                          go_wp2_with (first | ((with_reducible refine gate_callee (f := 15) rfl ?_); refine goesL_ (some 62) rfl rfl Tryd.func15 (by kernel_rfl) rfl #[.int .i64 a3] rfl (by (try simp only [List.map_toArray, List.map_cons, List.map_nil]); first | done | rfl | (simp only [List.length_drop, List.length_take]; rfl)) ?_; (with_reducible refine (num_Of.calls kj16 a3 t204 _ A38.out).mono ?_); rintro e w45 ⟨rfl, hb⟩; refine ⟨_, rfl, ?_⟩; have n0_ := Aside0.mk (blk_below (g := gb201) (o := .cells #[.bool false, .string t200, .string x202002_16] 31 (0, 0)) (by (with_reducible repeat (first | refine blk_drewN ?_ _ | refine blk_drew ?_ | refine blk_alloc ?_ _)); exact BK201.out) hb); have n1_ := Aside0.mk (below_step (by repeat (first | (with_reducible first | exact HB.out | apply below_alloc | apply pw_below_drewN | apply below_drew1 | refine below_set ?_ GE201.out) | exact HB.out)) hb); clear BK201; clear HB; have BK201 := n0_; have HB := n1_; clear n0_ n1_; (try clear hb); (try clear hb2); (try clear hk); (try clear hi)))
                          go_meet
                          case rel => exact ⟨_, ((x12_16 ++ (⟨#[99]⟩ : ByteArray)) ++ t204), (by first | rfl | (simp; done) | (simp [*]; done) | (simp; first | exact given_isEmpty _ | exact (given_isEmpty _).symm)), H', ⟨by have := HJ7.out; have := HJ16.out; first | omega | exact Nat.le_refl _⟩, ⟨by (with_reducible repeat (first | refine blk_drewN ?_ _ | refine blk_drew ?_ | refine blk_alloc ?_ _)); exact BK201.out⟩, ⟨by repeat (first | (with_reducible first | exact HB.out | apply below_alloc | apply pw_below_drewN | apply below_drew1 | refine below_set ?_ GE201.out) | exact HB.out)⟩⟩
                        · rw [if_neg c44] at H
                          exact absurd H (by simp)
                      · rw [if_neg c43] at H
                        exact absurd H (by simp)
                · rw [if_neg c28] at H
                  have c28b0 : decide (0 ≤ a3) = false := decide_eq_false c28
                  clear c28
                  (first | rw [c28b0] | (simp only [i64_w, i32_w]; rw [c28b0]) | skip)
                  have H' := Aside0.mk H
                  clear H
                  go_wp2
                  go_meet
                  case rel => exact ⟨_, (x12_16), (by first | rfl | (simp; done) | (simp [*]; done) | (simp; first | exact given_isEmpty _ | exact (given_isEmpty _).symm)), H', ⟨by have := HJ7.out; have := HJ16.out; first | omega | exact Nat.le_refl _⟩, ⟨by (with_reducible repeat (first | refine blk_drewN ?_ _ | refine blk_drew ?_ | refine blk_alloc ?_ _)); exact BK201.out⟩, ⟨by repeat (first | (with_reducible first | exact HB.out | apply below_alloc | apply pw_below_drewN | apply below_drew1 | refine below_set ?_ GE201.out) | exact HB.out)⟩⟩
              case rest =>
                clear HC27
                try clear c1
                try clear c2
                try clear p2
                try clear c3
                try clear c4
                try clear c5
                try clear c7
                try clear c8
                try clear c10
                try clear c10b0
                try clear c10b1
                try clear c11
                try clear c11b0
                try clear c11b1
                try clear c12
                try clear c12b0
                try clear c12b1
                try clear c12b2
                try clear c13
                try clear c14
                try clear c14b0
                try clear c14b1
                try clear c14b2
                try clear c15
                try clear c21
                try clear c23
                try clear c23b0
                try clear c23b1
                try clear c23b2
                try clear c24
                try clear c24b0
                try clear c24b1
                try clear c24b2
                try clear c28
                try clear c28b0
                try clear c29
                try clear c31
                try clear c31b0
                try clear c31b1
                try clear c32
                try clear c32b0
                try clear c32b1
                try clear c32b2
                try clear c33
                try clear c33b0
                try clear c33b1
                try clear c33b2
                try clear c35
                try clear c35b0
                try clear c35b1
                try clear c35b2
                try clear c36
                try clear c36b0
                try clear c36b1
                try clear c36b2
                try clear c39
                try clear c39b0
                try clear c39b1
                try clear c40
                try clear c40b0
                try clear c40b1
                try clear c40b2
                try clear c41
                try clear c41b0
                try clear c41b1
                try clear c41b2
                try clear c43
                try clear c43b0
                try clear c43b1
                try clear c43b2
                try clear c44
                try clear c44b0
                try clear c44b1
                try clear c44b2
                try clear hcz20_0
                try clear hcz20_1
                try clear hcz20_2
                try clear hcz26_0
                try clear hcz26_1
                try clear hcz26_2
                try clear hfz20_0
                try clear hfz20_1
                try clear hfz20_2
                try clear hfz26_0
                try clear hfz26_1
                try clear hfz26_2
                try clear p2
                obtain ⟨kq, x12_26, rfl, HA, HJ26, BK201, HB⟩ := hcut
                cases kq with
                | zero => exact absurd HA.out (by simp [florinlaw05_OperandReads.j2])
                | succ kj26 =>
                  have H := HA.out
                  clear HA
                  simp only [florinlaw05_OperandReads.j2] at H
                  replace H := Option.bind_eq_some_iff.mp H
                  obtain ⟨⟨t205, t206, t207, t208⟩, A460, H⟩ := H
                  replace H : (if (wrap64 ((t200.size : Int) + (x202002_16.size : Int))) > 1000 then (if t208 = 2 then (some (t205.toList == ([] : List UInt8) && (t206.toList == ([] : List UInt8) && (t207 == 0)))) else (some false)) else (if a3 > 10000 then (if t208 = 2 then (some (t205.toList == ([] : List UInt8) && (t206.toList == ([] : List UInt8) && (t207 == 0)))) else (some false)) else (if t208 = 0 then ((operand_Of.f kj26 false t200 x202002_16 (mx a3 0)).bind fun bt210 => (some (t205.toList == bt210.1.toList && (t206.toList == bt210.2.1.toList && (t207 == bt210.2.2))))) else (some false)))) = some r := H
                  have A46 := Aside0.mk A460
                  clear A460
                  by_cases c47 : (wrap64 ((t200.size : Int) + (x202002_16.size : Int))) > 1000
                  · rw [if_pos c47] at H
                    have c47b0 : decide (1000 < (wrap64 ((t200.size : Int) + (x202002_16.size : Int)))) = true := decide_eq_true c47
                    clear c47
                    by_cases c48 : t208 = 2
                    · rw [if_pos c48] at H
                      have c48b0 : (t208 == 2) = true := beq_iff_eq.mpr c48
                      have c48b1 : (t208 != 2) = false := bne_eq_false_iff_eq.mpr c48
                      clear c48
                      obtain rfl := Option.some.inj H
                      go_wp2_with (first | ((with_reducible refine gate_callee (f := 9) rfl ?_); refine goesL_ (some 72) rfl rfl Tryd.func9 (by kernel_rfl) rfl #[.string x12_26] rfl (by (try simp only [List.map_toArray, List.map_cons, List.map_nil]); first | done | rfl | (simp only [List.length_drop, List.length_take]; rfl)) ?_; (with_reducible refine (operand_Read.calls kj26 x12_26 t205 t206 t207 t208 _ A46.out).mono ?_); rintro e w49 ⟨rfl, hb⟩; refine ⟨_, rfl, ?_⟩; have n0_ := Aside0.mk (blk_below (g := gb201) (o := .cells #[.bool false, .string t200, .string x202002_16] 31 (0, 0)) (by (with_reducible repeat (first | refine blk_drewN ?_ _ | refine blk_drew ?_ | refine blk_alloc ?_ _)); exact BK201.out) hb); have n1_ := Aside0.mk (below_step (by repeat (first | (with_reducible first | exact HB.out | apply below_alloc | apply pw_below_drewN | apply below_drew1 | refine below_set ?_ GE201.out) | exact HB.out)) hb); clear BK201; clear HB; have BK201 := n0_; have HB := n1_; clear n0_ n1_; (try clear hb); (try clear hb2); (try clear hk); (try clear hi)) | ((with_reducible refine gate_dst (N := 15) rfl ?_); (try (refine gate_guard (by rfl) ?_; dsimp only)); refine box_event ?hg (N := 15) ?hd (cs := #[.string (⟨#[]⟩ : ByteArray), .string (⟨#[]⟩ : ByteArray), .int .i64 0]) (t := 24) ?hr ?_; (case hd => rfl); (case hg => rfl); (case hr => first | (go_simp; done) | (go_simp; rfl)); intro gb209 hg w50 hbox hb; have n0_ := Aside0.mk (blk_below (g := gb201) (o := .cells #[.bool false, .string t200, .string x202002_16] 31 (0, 0)) (by (with_reducible repeat (first | refine blk_drewN ?_ _ | refine blk_drew ?_ | refine blk_alloc ?_ _)); exact BK201.out) hb); have n1_ := Aside0.mk (below_step (by repeat (first | (with_reducible first | exact HB.out | apply below_alloc | apply pw_below_drewN | apply below_drew1 | refine below_set ?_ GE201.out) | exact HB.out)) hb); have n2_ := Aside0.mk (hbox); have n3_ := Aside0.mk ((by rw [hg]; exact (below_size (by repeat (first | (with_reducible first | exact HB.out | apply below_alloc | apply pw_below_drewN | apply below_drew1 | refine below_set ?_ GE201.out) | exact HB.out))) : w.heap.size ≤ gb209)); have n4_ := Aside0.mk ((by rw [hg]; exact (below_size (by repeat (first | (with_reducible first | exact HB.out | apply below_alloc | apply pw_below_drewN | apply below_drew1 | refine below_set ?_ GE201.out) | exact HB.out))) : w.heap.size ≤ gb209)); have n5_ := Aside0.mk ((by rw [hg]; exact Nat.ne_of_lt (blk_lt (g := gb201) (o := .cells #[.bool false, .string t200, .string x202002_16] 31 (0, 0)) (by (with_reducible repeat (first | refine blk_drewN ?_ _ | refine blk_drew ?_ | refine blk_alloc ?_ _)); exact BK201.out)) : gb201 ≠ gb209)); have n6_ := Aside0.mk ((by rw [hg]; exact Nat.ne_of_gt (blk_lt (g := gb201) (o := .cells #[.bool false, .string t200, .string x202002_16] 31 (0, 0)) (by (with_reducible repeat (first | refine blk_drewN ?_ _ | refine blk_drew ?_ | refine blk_alloc ?_ _)); exact BK201.out)) : gb209 ≠ gb201)); clear BK201; clear HB; have BK201 := n0_; have HB := n1_; have BK209 := n2_; have GW209 := n3_; have GE209 := n4_; have NB201_209 := n5_; have NB209_201 := n6_; clear n0_ n1_ n2_ n3_ n4_ n5_ n6_; clear hb hbox hg; have hnb51 := NB209_201.out; have hnc51 := NB201_209.out; have hcz52_0 : w50.cell? ⟨gb209, 0, none⟩ = some (.string (⟨#[]⟩ : ByteArray)) := (blk_cell BK209.out 0).trans rfl; have hcz52_1 : w50.cell? ⟨gb209, 1, none⟩ = some (.string (⟨#[]⟩ : ByteArray)) := (blk_cell BK209.out 1).trans rfl; have hcz52_2 : w50.cell? ⟨gb209, 2, none⟩ = some (.int .i64 0) := (blk_cell BK209.out 2).trans rfl; have hfz52_0 := blk_frozen BK209.out 0; have hfz52_1 := blk_frozen BK209.out 1; have hfz52_2 := blk_frozen BK209.out 2; have hcz53_0 : w50.cell? ⟨gb201, 0, none⟩ = some (.bool false) := (blk_cell BK201.out 0).trans rfl; have hcz53_1 : w50.cell? ⟨gb201, 1, none⟩ = some (.string t200) := (blk_cell BK201.out 1).trans rfl; have hcz53_2 : w50.cell? ⟨gb201, 2, none⟩ = some (.string x202002_16) := (blk_cell BK201.out 2).trans rfl; have hfz53_0 := blk_frozen BK201.out 0; have hfz53_1 := blk_frozen BK201.out 1; have hfz53_2 := blk_frozen BK201.out 2))
                      go_ret
                      exact ⟨by first | rfl | (simp [errW_none, errW_some] <;> rfl) | (simp [*, errW_none, errW_some] <;> rfl), by repeat (first | (with_reducible first | exact HB.out | apply below_alloc | apply pw_below_drewN | apply below_drew1 | refine below_set ?_ GE201.out | refine below_set ?_ GE209.out) | exact HB.out)⟩
                    · rw [if_neg c48] at H
                      have c48b0 : (t208 == 2) = false := beq_eq_false_iff_ne.mpr c48
                      have c48b1 : (t208 != 2) = true := bne_iff_ne.mpr c48
                      obtain rfl := Option.some.inj H
                      go_wp2_with (first | ((with_reducible refine gate_callee (f := 9) rfl ?_); refine goesL_ (some 72) rfl rfl Tryd.func9 (by kernel_rfl) rfl #[.string x12_26] rfl (by (try simp only [List.map_toArray, List.map_cons, List.map_nil]); first | done | rfl | (simp only [List.length_drop, List.length_take]; rfl)) ?_; (with_reducible refine (operand_Read.calls kj26 x12_26 t205 t206 t207 t208 _ A46.out).mono ?_); rintro e w54 ⟨rfl, hb⟩; refine ⟨_, rfl, ?_⟩; have n0_ := Aside0.mk (blk_below (g := gb201) (o := .cells #[.bool false, .string t200, .string x202002_16] 31 (0, 0)) (by (with_reducible repeat (first | refine blk_drewN ?_ _ | refine blk_drew ?_ | refine blk_alloc ?_ _)); exact BK201.out) hb); have n1_ := Aside0.mk (below_step (by repeat (first | (with_reducible first | exact HB.out | apply below_alloc | apply pw_below_drewN | apply below_drew1 | refine below_set ?_ GE201.out) | exact HB.out)) hb); clear BK201; clear HB; have BK201 := n0_; have HB := n1_; clear n0_ n1_; (try clear hb); (try clear hb2); (try clear hk); (try clear hi)) | ((with_reducible refine gate_dst (N := 15) rfl ?_); (try (refine gate_guard (by rfl) ?_; dsimp only)); refine box_event ?hg (N := 15) ?hd (cs := #[.string (⟨#[]⟩ : ByteArray), .string (⟨#[]⟩ : ByteArray), .int .i64 0]) (t := 24) ?hr ?_; (case hd => rfl); (case hg => rfl); (case hr => first | (go_simp; done) | (go_simp; rfl)); intro gb209 hg w55 hbox hb; have n0_ := Aside0.mk (blk_below (g := gb201) (o := .cells #[.bool false, .string t200, .string x202002_16] 31 (0, 0)) (by (with_reducible repeat (first | refine blk_drewN ?_ _ | refine blk_drew ?_ | refine blk_alloc ?_ _)); exact BK201.out) hb); have n1_ := Aside0.mk (below_step (by repeat (first | (with_reducible first | exact HB.out | apply below_alloc | apply pw_below_drewN | apply below_drew1 | refine below_set ?_ GE201.out) | exact HB.out)) hb); have n2_ := Aside0.mk (hbox); have n3_ := Aside0.mk ((by rw [hg]; exact (below_size (by repeat (first | (with_reducible first | exact HB.out | apply below_alloc | apply pw_below_drewN | apply below_drew1 | refine below_set ?_ GE201.out) | exact HB.out))) : w.heap.size ≤ gb209)); have n4_ := Aside0.mk ((by rw [hg]; exact (below_size (by repeat (first | (with_reducible first | exact HB.out | apply below_alloc | apply pw_below_drewN | apply below_drew1 | refine below_set ?_ GE201.out) | exact HB.out))) : w.heap.size ≤ gb209)); have n5_ := Aside0.mk ((by rw [hg]; exact Nat.ne_of_lt (blk_lt (g := gb201) (o := .cells #[.bool false, .string t200, .string x202002_16] 31 (0, 0)) (by (with_reducible repeat (first | refine blk_drewN ?_ _ | refine blk_drew ?_ | refine blk_alloc ?_ _)); exact BK201.out)) : gb201 ≠ gb209)); have n6_ := Aside0.mk ((by rw [hg]; exact Nat.ne_of_gt (blk_lt (g := gb201) (o := .cells #[.bool false, .string t200, .string x202002_16] 31 (0, 0)) (by (with_reducible repeat (first | refine blk_drewN ?_ _ | refine blk_drew ?_ | refine blk_alloc ?_ _)); exact BK201.out)) : gb209 ≠ gb201)); clear BK201; clear HB; have BK201 := n0_; have HB := n1_; have BK209 := n2_; have GW209 := n3_; have GE209 := n4_; have NB201_209 := n5_; have NB209_201 := n6_; clear n0_ n1_ n2_ n3_ n4_ n5_ n6_; clear hb hbox hg; have hnb56 := NB209_201.out; have hnc56 := NB201_209.out; have hcz57_0 : w55.cell? ⟨gb209, 0, none⟩ = some (.string (⟨#[]⟩ : ByteArray)) := (blk_cell BK209.out 0).trans rfl; have hcz57_1 : w55.cell? ⟨gb209, 1, none⟩ = some (.string (⟨#[]⟩ : ByteArray)) := (blk_cell BK209.out 1).trans rfl; have hcz57_2 : w55.cell? ⟨gb209, 2, none⟩ = some (.int .i64 0) := (blk_cell BK209.out 2).trans rfl; have hfz57_0 := blk_frozen BK209.out 0; have hfz57_1 := blk_frozen BK209.out 1; have hfz57_2 := blk_frozen BK209.out 2; have hcz58_0 : w55.cell? ⟨gb201, 0, none⟩ = some (.bool false) := (blk_cell BK201.out 0).trans rfl; have hcz58_1 : w55.cell? ⟨gb201, 1, none⟩ = some (.string t200) := (blk_cell BK201.out 1).trans rfl; have hcz58_2 : w55.cell? ⟨gb201, 2, none⟩ = some (.string x202002_16) := (blk_cell BK201.out 2).trans rfl; have hfz58_0 := blk_frozen BK201.out 0; have hfz58_1 := blk_frozen BK201.out 1; have hfz58_2 := blk_frozen BK201.out 2))
                      go_ret
                      exact ⟨by first | rfl | (simp [errW_none, errW_some] <;> rfl) | (simp [*, errW_none, errW_some] <;> rfl), by repeat (first | (with_reducible first | exact HB.out | apply below_alloc | apply pw_below_drewN | apply below_drew1 | refine below_set ?_ GE201.out | refine below_set ?_ GE209.out) | exact HB.out)⟩
                  · rw [if_neg c47] at H
                    have c47b0 : decide (1000 < (wrap64 ((t200.size : Int) + (x202002_16.size : Int)))) = false := decide_eq_false c47
                    clear c47
                    by_cases c59 : a3 > 10000
                    · rw [if_pos c59] at H
                      have c59b0 : decide (10000 < a3) = true := decide_eq_true c59
                      clear c59
                      by_cases c60 : t208 = 2
                      · rw [if_pos c60] at H
                        have c60b0 : (t208 == 2) = true := beq_iff_eq.mpr c60
                        have c60b1 : (t208 != 2) = false := bne_eq_false_iff_eq.mpr c60
                        clear c60
                        obtain rfl := Option.some.inj H
                        go_wp2_with (first | ((with_reducible refine gate_callee (f := 9) rfl ?_); refine goesL_ (some 72) rfl rfl Tryd.func9 (by kernel_rfl) rfl #[.string x12_26] rfl (by (try simp only [List.map_toArray, List.map_cons, List.map_nil]); first | done | rfl | (simp only [List.length_drop, List.length_take]; rfl)) ?_; (with_reducible refine (operand_Read.calls kj26 x12_26 t205 t206 t207 t208 _ A46.out).mono ?_); rintro e w61 ⟨rfl, hb⟩; refine ⟨_, rfl, ?_⟩; have n0_ := Aside0.mk (blk_below (g := gb201) (o := .cells #[.bool false, .string t200, .string x202002_16] 31 (0, 0)) (by (with_reducible repeat (first | refine blk_drewN ?_ _ | refine blk_drew ?_ | refine blk_alloc ?_ _)); exact BK201.out) hb); have n1_ := Aside0.mk (below_step (by repeat (first | (with_reducible first | exact HB.out | apply below_alloc | apply pw_below_drewN | apply below_drew1 | refine below_set ?_ GE201.out) | exact HB.out)) hb); clear BK201; clear HB; have BK201 := n0_; have HB := n1_; clear n0_ n1_; (try clear hb); (try clear hb2); (try clear hk); (try clear hi)) | ((with_reducible refine gate_dst (N := 15) rfl ?_); (try (refine gate_guard (by rfl) ?_; dsimp only)); refine box_event ?hg (N := 15) ?hd (cs := #[.string (⟨#[]⟩ : ByteArray), .string (⟨#[]⟩ : ByteArray), .int .i64 0]) (t := 24) ?hr ?_; (case hd => rfl); (case hg => rfl); (case hr => first | (go_simp; done) | (go_simp; rfl)); intro gb209 hg w62 hbox hb; have n0_ := Aside0.mk (blk_below (g := gb201) (o := .cells #[.bool false, .string t200, .string x202002_16] 31 (0, 0)) (by (with_reducible repeat (first | refine blk_drewN ?_ _ | refine blk_drew ?_ | refine blk_alloc ?_ _)); exact BK201.out) hb); have n1_ := Aside0.mk (below_step (by repeat (first | (with_reducible first | exact HB.out | apply below_alloc | apply pw_below_drewN | apply below_drew1 | refine below_set ?_ GE201.out) | exact HB.out)) hb); have n2_ := Aside0.mk (hbox); have n3_ := Aside0.mk ((by rw [hg]; exact (below_size (by repeat (first | (with_reducible first | exact HB.out | apply below_alloc | apply pw_below_drewN | apply below_drew1 | refine below_set ?_ GE201.out) | exact HB.out))) : w.heap.size ≤ gb209)); have n4_ := Aside0.mk ((by rw [hg]; exact (below_size (by repeat (first | (with_reducible first | exact HB.out | apply below_alloc | apply pw_below_drewN | apply below_drew1 | refine below_set ?_ GE201.out) | exact HB.out))) : w.heap.size ≤ gb209)); have n5_ := Aside0.mk ((by rw [hg]; exact Nat.ne_of_lt (blk_lt (g := gb201) (o := .cells #[.bool false, .string t200, .string x202002_16] 31 (0, 0)) (by (with_reducible repeat (first | refine blk_drewN ?_ _ | refine blk_drew ?_ | refine blk_alloc ?_ _)); exact BK201.out)) : gb201 ≠ gb209)); have n6_ := Aside0.mk ((by rw [hg]; exact Nat.ne_of_gt (blk_lt (g := gb201) (o := .cells #[.bool false, .string t200, .string x202002_16] 31 (0, 0)) (by (with_reducible repeat (first | refine blk_drewN ?_ _ | refine blk_drew ?_ | refine blk_alloc ?_ _)); exact BK201.out)) : gb209 ≠ gb201)); clear BK201; clear HB; have BK201 := n0_; have HB := n1_; have BK209 := n2_; have GW209 := n3_; have GE209 := n4_; have NB201_209 := n5_; have NB209_201 := n6_; clear n0_ n1_ n2_ n3_ n4_ n5_ n6_; clear hb hbox hg; have hnb63 := NB209_201.out; have hnc63 := NB201_209.out; have hcz64_0 : w62.cell? ⟨gb209, 0, none⟩ = some (.string (⟨#[]⟩ : ByteArray)) := (blk_cell BK209.out 0).trans rfl; have hcz64_1 : w62.cell? ⟨gb209, 1, none⟩ = some (.string (⟨#[]⟩ : ByteArray)) := (blk_cell BK209.out 1).trans rfl; have hcz64_2 : w62.cell? ⟨gb209, 2, none⟩ = some (.int .i64 0) := (blk_cell BK209.out 2).trans rfl; have hfz64_0 := blk_frozen BK209.out 0; have hfz64_1 := blk_frozen BK209.out 1; have hfz64_2 := blk_frozen BK209.out 2; have hcz65_0 : w62.cell? ⟨gb201, 0, none⟩ = some (.bool false) := (blk_cell BK201.out 0).trans rfl; have hcz65_1 : w62.cell? ⟨gb201, 1, none⟩ = some (.string t200) := (blk_cell BK201.out 1).trans rfl; have hcz65_2 : w62.cell? ⟨gb201, 2, none⟩ = some (.string x202002_16) := (blk_cell BK201.out 2).trans rfl; have hfz65_0 := blk_frozen BK201.out 0; have hfz65_1 := blk_frozen BK201.out 1; have hfz65_2 := blk_frozen BK201.out 2))
                        go_ret
                        exact ⟨by first | rfl | (simp [errW_none, errW_some] <;> rfl) | (simp [*, errW_none, errW_some] <;> rfl), by repeat (first | (with_reducible first | exact HB.out | apply below_alloc | apply pw_below_drewN | apply below_drew1 | refine below_set ?_ GE201.out | refine below_set ?_ GE209.out) | exact HB.out)⟩
                      · rw [if_neg c60] at H
                        have c60b0 : (t208 == 2) = false := beq_eq_false_iff_ne.mpr c60
                        have c60b1 : (t208 != 2) = true := bne_iff_ne.mpr c60
                        obtain rfl := Option.some.inj H
                        go_wp2_with (first | ((with_reducible refine gate_callee (f := 9) rfl ?_); refine goesL_ (some 72) rfl rfl Tryd.func9 (by kernel_rfl) rfl #[.string x12_26] rfl (by (try simp only [List.map_toArray, List.map_cons, List.map_nil]); first | done | rfl | (simp only [List.length_drop, List.length_take]; rfl)) ?_; (with_reducible refine (operand_Read.calls kj26 x12_26 t205 t206 t207 t208 _ A46.out).mono ?_); rintro e w66 ⟨rfl, hb⟩; refine ⟨_, rfl, ?_⟩; have n0_ := Aside0.mk (blk_below (g := gb201) (o := .cells #[.bool false, .string t200, .string x202002_16] 31 (0, 0)) (by (with_reducible repeat (first | refine blk_drewN ?_ _ | refine blk_drew ?_ | refine blk_alloc ?_ _)); exact BK201.out) hb); have n1_ := Aside0.mk (below_step (by repeat (first | (with_reducible first | exact HB.out | apply below_alloc | apply pw_below_drewN | apply below_drew1 | refine below_set ?_ GE201.out) | exact HB.out)) hb); clear BK201; clear HB; have BK201 := n0_; have HB := n1_; clear n0_ n1_; (try clear hb); (try clear hb2); (try clear hk); (try clear hi)) | ((with_reducible refine gate_dst (N := 15) rfl ?_); (try (refine gate_guard (by rfl) ?_; dsimp only)); refine box_event ?hg (N := 15) ?hd (cs := #[.string (⟨#[]⟩ : ByteArray), .string (⟨#[]⟩ : ByteArray), .int .i64 0]) (t := 24) ?hr ?_; (case hd => rfl); (case hg => rfl); (case hr => first | (go_simp; done) | (go_simp; rfl)); intro gb209 hg w67 hbox hb; have n0_ := Aside0.mk (blk_below (g := gb201) (o := .cells #[.bool false, .string t200, .string x202002_16] 31 (0, 0)) (by (with_reducible repeat (first | refine blk_drewN ?_ _ | refine blk_drew ?_ | refine blk_alloc ?_ _)); exact BK201.out) hb); have n1_ := Aside0.mk (below_step (by repeat (first | (with_reducible first | exact HB.out | apply below_alloc | apply pw_below_drewN | apply below_drew1 | refine below_set ?_ GE201.out) | exact HB.out)) hb); have n2_ := Aside0.mk (hbox); have n3_ := Aside0.mk ((by rw [hg]; exact (below_size (by repeat (first | (with_reducible first | exact HB.out | apply below_alloc | apply pw_below_drewN | apply below_drew1 | refine below_set ?_ GE201.out) | exact HB.out))) : w.heap.size ≤ gb209)); have n4_ := Aside0.mk ((by rw [hg]; exact (below_size (by repeat (first | (with_reducible first | exact HB.out | apply below_alloc | apply pw_below_drewN | apply below_drew1 | refine below_set ?_ GE201.out) | exact HB.out))) : w.heap.size ≤ gb209)); have n5_ := Aside0.mk ((by rw [hg]; exact Nat.ne_of_lt (blk_lt (g := gb201) (o := .cells #[.bool false, .string t200, .string x202002_16] 31 (0, 0)) (by (with_reducible repeat (first | refine blk_drewN ?_ _ | refine blk_drew ?_ | refine blk_alloc ?_ _)); exact BK201.out)) : gb201 ≠ gb209)); have n6_ := Aside0.mk ((by rw [hg]; exact Nat.ne_of_gt (blk_lt (g := gb201) (o := .cells #[.bool false, .string t200, .string x202002_16] 31 (0, 0)) (by (with_reducible repeat (first | refine blk_drewN ?_ _ | refine blk_drew ?_ | refine blk_alloc ?_ _)); exact BK201.out)) : gb209 ≠ gb201)); clear BK201; clear HB; have BK201 := n0_; have HB := n1_; have BK209 := n2_; have GW209 := n3_; have GE209 := n4_; have NB201_209 := n5_; have NB209_201 := n6_; clear n0_ n1_ n2_ n3_ n4_ n5_ n6_; clear hb hbox hg; have hnb68 := NB209_201.out; have hnc68 := NB201_209.out; have hcz69_0 : w67.cell? ⟨gb209, 0, none⟩ = some (.string (⟨#[]⟩ : ByteArray)) := (blk_cell BK209.out 0).trans rfl; have hcz69_1 : w67.cell? ⟨gb209, 1, none⟩ = some (.string (⟨#[]⟩ : ByteArray)) := (blk_cell BK209.out 1).trans rfl; have hcz69_2 : w67.cell? ⟨gb209, 2, none⟩ = some (.int .i64 0) := (blk_cell BK209.out 2).trans rfl; have hfz69_0 := blk_frozen BK209.out 0; have hfz69_1 := blk_frozen BK209.out 1; have hfz69_2 := blk_frozen BK209.out 2; have hcz70_0 : w67.cell? ⟨gb201, 0, none⟩ = some (.bool false) := (blk_cell BK201.out 0).trans rfl; have hcz70_1 : w67.cell? ⟨gb201, 1, none⟩ = some (.string t200) := (blk_cell BK201.out 1).trans rfl; have hcz70_2 : w67.cell? ⟨gb201, 2, none⟩ = some (.string x202002_16) := (blk_cell BK201.out 2).trans rfl; have hfz70_0 := blk_frozen BK201.out 0; have hfz70_1 := blk_frozen BK201.out 1; have hfz70_2 := blk_frozen BK201.out 2))
                        go_ret
                        exact ⟨by first | rfl | (simp [errW_none, errW_some] <;> rfl) | (simp [*, errW_none, errW_some] <;> rfl), by repeat (first | (with_reducible first | exact HB.out | apply below_alloc | apply pw_below_drewN | apply below_drew1 | refine below_set ?_ GE201.out | refine below_set ?_ GE209.out) | exact HB.out)⟩
                    · rw [if_neg c59] at H
                      have c59b0 : decide (10000 < a3) = false := decide_eq_false c59
                      clear c59
                      by_cases c71 : t208 = 0
                      · rw [if_pos c71] at H
                        have c71b0 : (t208 == 0) = true := beq_iff_eq.mpr c71
                        have c71b1 : (t208 != 0) = false := bne_eq_false_iff_eq.mpr c71
                        clear c71
                        obtain ⟨ji72, hji72⟩ : ∃ j_ : Int, (mx a3 0) = j_ := ⟨_, rfl⟩
                        replace H : ((operand_Of.f kj26 false t200 x202002_16 (ji72)).bind fun bt210 => (some (t205.toList == bt210.1.toList && (t206.toList == bt210.2.1.toList && (t207 == bt210.2.2))))) = some r := by first | (rw [hji72] at H; exact H) | (simp only [hji72] at H ⊢; exact H)
                        (try rw [hji72] at A46)
                        have hji72_ : (if a3 < 0 then 0 else a3) = ji72 := hji72
                        replace H := Option.bind_eq_some_iff.mp H
                        obtain ⟨⟨t210, t211, t212⟩, A730, H⟩ := H
                        replace H : (some (t205.toList == t210.toList && (t206.toList == t211.toList && (t207 == t212)))) = some r := H
                        have A73 := Aside0.mk A730
                        clear A730
                        obtain rfl := Option.some.inj H
                        try go_wp2_with (first | ((with_reducible refine gate_callee (f := 9) rfl ?_); refine goesL_ (some 72) rfl rfl Tryd.func9 (by kernel_rfl) rfl #[.string x12_26] rfl (by (try simp only [List.map_toArray, List.map_cons, List.map_nil]); first | done | rfl | (simp only [List.length_drop, List.length_take]; rfl)) ?_; (with_reducible refine (operand_Read.calls kj26 x12_26 t205 t206 t207 t208 _ A46.out).mono ?_); rintro e w74 ⟨rfl, hb⟩; refine ⟨_, rfl, ?_⟩; have n0_ := Aside0.mk (blk_below (g := gb201) (o := .cells #[.bool false, .string t200, .string x202002_16] 31 (0, 0)) (by (with_reducible repeat (first | refine blk_drewN ?_ _ | refine blk_drew ?_ | refine blk_alloc ?_ _)); exact BK201.out) hb); have n1_ := Aside0.mk (below_step (by repeat (first | (with_reducible first | exact HB.out | apply below_alloc | apply pw_below_drewN | apply below_drew1 | refine below_set ?_ GE201.out) | exact HB.out)) hb); clear BK201; clear HB; have BK201 := n0_; have HB := n1_; clear n0_ n1_; (try clear hb); (try clear hb2); (try clear hk); (try clear hi)) | ((with_reducible refine gate_dst (N := 15) rfl ?_); (try (refine gate_guard (by rfl) ?_; dsimp only)); refine box_event ?hg (N := 15) ?hd (cs := #[.string (⟨#[]⟩ : ByteArray), .string (⟨#[]⟩ : ByteArray), .int .i64 0]) (t := 24) ?hr ?_; (case hd => rfl); (case hg => rfl); (case hr => first | (go_simp; done) | (go_simp; rfl)); intro gb209 hg w75 hbox hb; have n0_ := Aside0.mk (blk_below (g := gb201) (o := .cells #[.bool false, .string t200, .string x202002_16] 31 (0, 0)) (by (with_reducible repeat (first | refine blk_drewN ?_ _ | refine blk_drew ?_ | refine blk_alloc ?_ _)); exact BK201.out) hb); have n1_ := Aside0.mk (below_step (by repeat (first | (with_reducible first | exact HB.out | apply below_alloc | apply pw_below_drewN | apply below_drew1 | refine below_set ?_ GE201.out) | exact HB.out)) hb); have n2_ := Aside0.mk (hbox); have n3_ := Aside0.mk ((by rw [hg]; exact (below_size (by repeat (first | (with_reducible first | exact HB.out | apply below_alloc | apply pw_below_drewN | apply below_drew1 | refine below_set ?_ GE201.out) | exact HB.out))) : w.heap.size ≤ gb209)); have n4_ := Aside0.mk ((by rw [hg]; exact (below_size (by repeat (first | (with_reducible first | exact HB.out | apply below_alloc | apply pw_below_drewN | apply below_drew1 | refine below_set ?_ GE201.out) | exact HB.out))) : w.heap.size ≤ gb209)); have n5_ := Aside0.mk ((by rw [hg]; exact Nat.ne_of_lt (blk_lt (g := gb201) (o := .cells #[.bool false, .string t200, .string x202002_16] 31 (0, 0)) (by (with_reducible repeat (first | refine blk_drewN ?_ _ | refine blk_drew ?_ | refine blk_alloc ?_ _)); exact BK201.out)) : gb201 ≠ gb209)); have n6_ := Aside0.mk ((by rw [hg]; exact Nat.ne_of_gt (blk_lt (g := gb201) (o := .cells #[.bool false, .string t200, .string x202002_16] 31 (0, 0)) (by (with_reducible repeat (first | refine blk_drewN ?_ _ | refine blk_drew ?_ | refine blk_alloc ?_ _)); exact BK201.out)) : gb209 ≠ gb201)); clear BK201; clear HB; have BK201 := n0_; have HB := n1_; have BK209 := n2_; have GW209 := n3_; have GE209 := n4_; have NB201_209 := n5_; have NB209_201 := n6_; clear n0_ n1_ n2_ n3_ n4_ n5_ n6_; clear hb hbox hg; have hnb76 := NB209_201.out; have hnc76 := NB201_209.out; have hcz77_0 : w75.cell? ⟨gb209, 0, none⟩ = some (.string (⟨#[]⟩ : ByteArray)) := (blk_cell BK209.out 0).trans rfl; have hcz77_1 : w75.cell? ⟨gb209, 1, none⟩ = some (.string (⟨#[]⟩ : ByteArray)) := (blk_cell BK209.out 1).trans rfl; have hcz77_2 : w75.cell? ⟨gb209, 2, none⟩ = some (.int .i64 0) := (blk_cell BK209.out 2).trans rfl; have hfz77_0 := blk_frozen BK209.out 0; have hfz77_1 := blk_frozen BK209.out 1; have hfz77_2 := blk_frozen BK209.out 2; have hcz78_0 : w75.cell? ⟨gb201, 0, none⟩ = some (.bool false) := (blk_cell BK201.out 0).trans rfl; have hcz78_1 : w75.cell? ⟨gb201, 1, none⟩ = some (.string t200) := (blk_cell BK201.out 1).trans rfl; have hcz78_2 : w75.cell? ⟨gb201, 2, none⟩ = some (.string x202002_16) := (blk_cell BK201.out 2).trans rfl; have hfz78_0 := blk_frozen BK201.out 0; have hfz78_1 := blk_frozen BK201.out 1; have hfz78_2 := blk_frozen BK201.out 2))
                        have n0_ : Aside0 ((((w75.setCell ⟨gb209, 0, none⟩ (.string t205)).setCell ⟨gb209, 1, none⟩ (.string t206)).setCell ⟨gb209, 2, none⟩ (.int .i64 t207)).heap[gb201]? = some (.cells #[.bool false, .string t200, .string x202002_16] 31 (0, 0))) := ⟨by (with_reducible repeat (first | refine blk_drewN ?_ _ | refine blk_drew ?_ | refine blk_alloc ?_ _)); refine blk_far ?_ NB201_209.out _; (with_reducible repeat (first | refine blk_drewN ?_ _ | refine blk_drew ?_ | refine blk_alloc ?_ _)); refine blk_far ?_ NB201_209.out _; (with_reducible repeat (first | refine blk_drewN ?_ _ | refine blk_drew ?_ | refine blk_alloc ?_ _)); refine blk_far ?_ NB201_209.out _; (with_reducible repeat (first | refine blk_drewN ?_ _ | refine blk_drew ?_ | refine blk_alloc ?_ _)); exact BK201.out⟩
                        have n1_ : Aside0 ((((w75.setCell ⟨gb209, 0, none⟩ (.string t205)).setCell ⟨gb209, 1, none⟩ (.string t206)).setCell ⟨gb209, 2, none⟩ (.int .i64 t207)).heap[gb209]? = some (.cells #[.string t205, .string t206, .int .i64 t207] 24 (0, 0))) := ⟨by (with_reducible repeat (first | refine blk_drewN ?_ _ | refine blk_drew ?_ | refine blk_alloc ?_ _)); refine blk_put (cs := #[.string t205, .string t206, .int .i64 0]) ?_ 2 _ rfl; (with_reducible repeat (first | refine blk_drewN ?_ _ | refine blk_drew ?_ | refine blk_alloc ?_ _)); refine blk_put (cs := #[.string t205, .string (⟨#[]⟩ : ByteArray), .int .i64 0]) ?_ 1 _ rfl; (with_reducible repeat (first | refine blk_drewN ?_ _ | refine blk_drew ?_ | refine blk_alloc ?_ _)); refine blk_put (cs := #[.string (⟨#[]⟩ : ByteArray), .string (⟨#[]⟩ : ByteArray), .int .i64 0]) ?_ 0 _ rfl; (with_reducible repeat (first | refine blk_drewN ?_ _ | refine blk_drew ?_ | refine blk_alloc ?_ _)); exact BK209.out⟩
                        have n2_ : Aside0 (Below w.heap.size w (((w75.setCell ⟨gb209, 0, none⟩ (.string t205)).setCell ⟨gb209, 1, none⟩ (.string t206)).setCell ⟨gb209, 2, none⟩ (.int .i64 t207))) := ⟨by repeat (first | (with_reducible first | exact HB.out | apply below_alloc | apply pw_below_drewN | apply below_drew1 | refine below_set ?_ GE201.out | refine below_set ?_ GE209.out) | exact HB.out)⟩
                        (try clear BK201)
                        (try clear BK209)
                        (try clear HB)
                        generalize (((w75.setCell ⟨gb209, 0, none⟩ (.string t205)).setCell ⟨gb209, 1, none⟩ (.string t206)).setCell ⟨gb209, 2, none⟩ (.int .i64 t207)) = w79 at n0_ n1_ n2_ ⊢
                        have BK201 := n0_
                        have BK209 := n1_
                        have HB := n2_
                        clear n0_ n1_ n2_
                        have n0_ := Aside0.mk (blk_drew BK201.out)
                        have n1_ := Aside0.mk (blk_drew BK209.out)
                        have n2_ := Aside0.mk (below_drew1 HB.out)
                        clear BK201
                        clear BK209
                        clear HB
                        have BK201 := n0_
                        have BK209 := n1_
                        have HB := n2_
                        clear n0_ n1_ n2_
                        refine start_ (n := 11) (S := fun w' => w'.cell? ⟨gb209, 0, none⟩ = some (.string t205) ∧ w'.cell? ⟨gb209, 1, none⟩ = some (.string t206) ∧ w'.cell? ⟨gb209, 2, none⟩ = some (.int .i64 t207) ∧ w'.cell? ⟨gb201, 0, none⟩ = some (.bool false) ∧ w'.cell? ⟨gb201, 1, none⟩ = some (.string t200) ∧ w'.cell? ⟨gb201, 2, none⟩ = some (.string x202002_16)) (ds := []) #[false, false, false, false, false, false, false, false, false, false, false] (by kernel_rfl) rfl rfl ⟨(blk_cell BK209.out 0).trans rfl, (blk_cell BK209.out 1).trans rfl, (blk_cell BK209.out 2).trans rfl, (blk_cell BK201.out 0).trans rfl, (blk_cell BK201.out 1).trans rfl, (blk_cell BK201.out 2).trans rfl⟩ (fun hHeld => ?_); refine with_tabW florinlaw05_OperandReads.tab21 florinlaw05_OperandReads.bits21 (fun HT_ HW_ => ?_)
                        generalize w79.drew = w80 at BK201 BK209 HB hHeld ⊢
                        refine pure_ (i := 0) (N := some 94) (v := ?_) (a' := ?_) #[true, false, false, false, false, false, false, false, false, false, false] rfl rfl (any_of HT_.out (by kernel_rfl)) (fun _ _ _ h => h) (Or.inl ⟨by rfl, ?_⟩) ?_ ?_
                        rotate_left
                        · intro w'
                          go_simp
                          with_reducible rfl
                        rotate_left
                        · simp only [Act.put, List.setIfInBounds_toArray, List.set_cons_zero, List.set_cons_succ, i64_w, i32_w]
                          rfl
                        refine pure_ (i := 1) (N := some 95) (v := ?_) (a' := ?_) #[true, true, false, false, false, false, false, false, false, false, false] rfl rfl (any_of HT_.out (by kernel_rfl)) (fun _ _ _ h => h) (Or.inl ⟨by rfl, ?_⟩) ?_ ?_
                        rotate_left
                        · intro w'
                          go_simp
                          with_reducible rfl
                        rotate_left
                        · simp only [Act.put, List.setIfInBounds_toArray, List.set_cons_zero, List.set_cons_succ, i64_w, i32_w]
                          rfl
                        refine pure_ (i := 2) (N := some 96) (v := ?_) (a' := ?_) #[true, true, true, false, false, false, false, false, false, false, false] rfl rfl (any_of HT_.out (by kernel_rfl)) (fun _ _ _ h => h) (Or.inl ⟨by rfl, ?_⟩) ?_ ?_
                        rotate_left
                        · intro w'
                          go_simp
                          with_reducible rfl
                        rotate_left
                        · simp only [Act.put, List.setIfInBounds_toArray, List.set_cons_zero, List.set_cons_succ, i64_w, i32_w]
                          rfl
                        refine pure_ (i := 5) (N := some 99) (v := ?_) (a' := ?_) #[true, true, true, false, false, true, false, false, false, false, false] rfl rfl (any_of HT_.out (by kernel_rfl)) (fun _ _ _ h => h) (Or.inl ⟨by rfl, ?_⟩) ?_ ?_
                        rotate_left
                        · intro w'
                          go_simp
                          with_reducible rfl
                        rotate_left
                        · simp only [Act.put, List.setIfInBounds_toArray, List.set_cons_zero, List.set_cons_succ, i64_w, i32_w]
                          rfl
                        refine pure_ (i := 6) (N := some 100) (v := ?_) (a' := ?_) #[true, true, true, false, false, true, true, false, false, false, false] rfl rfl (any_of HT_.out (by kernel_rfl)) (fun _ _ _ h => h) (Or.inl ⟨by rfl, ?_⟩) ?_ ?_
                        rotate_left
                        · intro w'
                          go_simp
                          with_reducible rfl
                        rotate_left
                        · simp only [Act.put, List.setIfInBounds_toArray, List.set_cons_zero, List.set_cons_succ, i64_w, i32_w]
                          rfl
                        refine take_ (i := 3) (N := some 97) (v := ?_) (a' := ?_) #[true, true, true, true, false, true, true, false, false, false, false] rfl rfl (take_ofW HT_.out HW_.out (by kernel_rfl)) (fun _ _ _ h => h) (Or.inl ⟨by rfl, ?_⟩) hHeld ?_ ?_
                        rotate_left
                        · rintro w' ⟨s0, s1, s2, s3, s4, s5⟩
                          go_simp
                          with_reducible rfl
                        rotate_left
                        · simp only [Act.put, List.setIfInBounds_toArray, List.set_cons_zero, List.set_cons_succ, i64_w, i32_w]
                          rfl
                        refine take_ (i := 4) (N := some 98) (v := ?_) (a' := ?_) #[true, true, true, true, true, true, true, false, false, false, false] rfl rfl (take_ofW HT_.out HW_.out (by kernel_rfl)) (fun _ _ _ h => h) (Or.inl ⟨by rfl, ?_⟩) hHeld ?_ ?_
                        rotate_left
                        · rintro w' ⟨s0, s1, s2, s3, s4, s5⟩
                          go_simp
                          with_reducible rfl
                        rotate_left
                        · simp only [Act.put, List.setIfInBounds_toArray, List.set_cons_zero, List.set_cons_succ, i64_w, i32_w]
                          rfl
                        refine one_ (i := 7) (N := some 101) #[true, true, true, true, true, true, true, true, false, false, false] rfl rfl (one_of HT_.out (by kernel_rfl)) (by decide) (fun K hK => ?_)
                        refine goes_ Tryd.func13 (by kernel_rfl) rfl #[.agg #[.bool false, .string t200, .string x202002_16], .int .i64 ji72] (by rfl) rfl rfl (by (try simp only [List.map_toArray, List.map_cons, List.map_nil]); first | done | (simp only [hji72]; rfl) | rfl | (simp only [List.length_drop, List.length_take]; rfl)) ?_
                        with_reducible refine (operand_Of.calls kj26 false t200 x202002_16 ji72 t210 t211 t212 _ A73.out).mono ?_
                        rintro e w81 ⟨rfl, hb⟩
                        refine ⟨_, rfl, ?_⟩
                        have n0_ := Aside0.mk (blk_below (g := gb201) (o := .cells #[.bool false, .string t200, .string x202002_16] 31 (0, 0)) (by (with_reducible repeat (first | refine blk_drewN ?_ _ | refine blk_drew ?_ | refine blk_alloc ?_ _)); exact BK201.out) hb)
                        have n1_ := Aside0.mk (blk_below (g := gb209) (o := .cells #[.string t205, .string t206, .int .i64 t207] 24 (0, 0)) (by (with_reducible repeat (first | refine blk_drewN ?_ _ | refine blk_drew ?_ | refine blk_alloc ?_ _)); exact BK209.out) hb)
                        have n2_ := Aside0.mk (below_step (by repeat (first | (with_reducible first | exact HB.out | apply below_alloc | apply pw_below_drewN | apply below_drew1 | refine below_set ?_ GE201.out | refine below_set ?_ GE209.out) | exact HB.out)) hb)
                        clear BK201
                        clear BK209
                        clear HB
                        have BK201 := n0_
                        have BK209 := n1_
                        have HB := n2_
                        clear n0_ n1_ n2_
                        (try clear hb)
                        (try clear hb2)
                        (try clear hk)
                        (try clear hi)
                        refine hK.out _ _ ⟨(blk_cell BK209.out 0).trans rfl, (blk_cell BK209.out 1).trans rfl, (blk_cell BK209.out 2).trans rfl, (blk_cell BK201.out 0).trans rfl, (blk_cell BK201.out 1).trans rfl, (blk_cell BK201.out 2).trans rfl⟩ (fun hHeld => ?_)
                        clear hK K
                        refine norm_ (a' := ?_) ?_ ?_
                        rotate_left
                        · show Act.put _ (some 101) _ = _
                          simp only [Act.put, List.setIfInBounds_toArray, List.set_cons_zero, List.set_cons_succ, i64_w, i32_w]
                          rfl
                        refine pure_ (i := 8) (N := some 102) (v := ?_) (a' := ?_) #[true, true, true, true, true, true, true, true, true, false, false] rfl rfl (any_of HT_.out (by kernel_rfl)) (fun _ _ _ h => h) (Or.inl ⟨by rfl, ?_⟩) ?_ ?_
                        rotate_left
                        · intro w'
                          go_simp
                          with_reducible rfl
                        rotate_left
                        · simp only [Act.put, List.setIfInBounds_toArray, List.set_cons_zero, List.set_cons_succ, i64_w, i32_w]
                          rfl
                        refine pure_ (i := 9) (N := some 103) (v := ?_) (a' := ?_) #[true, true, true, true, true, true, true, true, true, true, false] rfl rfl (any_of HT_.out (by kernel_rfl)) (fun _ _ _ h => h) (Or.inl ⟨by rfl, ?_⟩) ?_ ?_
                        rotate_left
                        · intro w'
                          go_simp
                          with_reducible rfl
                        rotate_left
                        · simp only [Act.put, List.setIfInBounds_toArray, List.set_cons_zero, List.set_cons_succ, i64_w, i32_w]
                          rfl
                        refine pure_ (i := 10) (N := some 10) (v := ?_) (a' := ?_) #[true, true, true, true, true, true, true, true, true, true, true] rfl rfl (any_of HT_.out (by kernel_rfl)) (fun _ _ _ h => h) (Or.inl ⟨by rfl, ?_⟩) ?_ ?_
                        rotate_left
                        · intro w'
                          go_simp
                          with_reducible rfl
                        rotate_left
                        · simp only [Act.put, List.setIfInBounds_toArray, List.set_cons_zero, List.set_cons_succ, i64_w, i32_w]
                          rfl
                        refine done_ (done_of HT_.out (by kernel_rfl)) ?_
                        try go_wp2
                        go_ret
                        exact ⟨by first | rfl | (simp [errW_none, errW_some] <;> rfl) | (simp only [← hji72]; first | rfl | (simp [errW_none, errW_some] <;> rfl)) | (simp [*, errW_none, errW_some] <;> rfl), by repeat (first | (with_reducible first | exact HB.out | apply below_alloc | apply pw_below_drewN | apply below_drew1 | refine below_set ?_ GE201.out | refine below_set ?_ GE209.out) | exact HB.out)⟩
                      · rw [if_neg c71] at H
                        have c71b0 : (t208 == 0) = false := beq_eq_false_iff_ne.mpr c71
                        have c71b1 : (t208 != 0) = true := bne_iff_ne.mpr c71
                        obtain rfl := Option.some.inj H
                        try go_wp2_with (first | ((with_reducible refine gate_callee (f := 9) rfl ?_); refine goesL_ (some 72) rfl rfl Tryd.func9 (by kernel_rfl) rfl #[.string x12_26] rfl (by (try simp only [List.map_toArray, List.map_cons, List.map_nil]); first | done | rfl | (simp only [List.length_drop, List.length_take]; rfl)) ?_; (with_reducible refine (operand_Read.calls kj26 x12_26 t205 t206 t207 t208 _ A46.out).mono ?_); rintro e w82 ⟨rfl, hb⟩; refine ⟨_, rfl, ?_⟩; have n0_ := Aside0.mk (blk_below (g := gb201) (o := .cells #[.bool false, .string t200, .string x202002_16] 31 (0, 0)) (by (with_reducible repeat (first | refine blk_drewN ?_ _ | refine blk_drew ?_ | refine blk_alloc ?_ _)); exact BK201.out) hb); have n1_ := Aside0.mk (below_step (by repeat (first | (with_reducible first | exact HB.out | apply below_alloc | apply pw_below_drewN | apply below_drew1 | refine below_set ?_ GE201.out) | exact HB.out)) hb); clear BK201; clear HB; have BK201 := n0_; have HB := n1_; clear n0_ n1_; (try clear hb); (try clear hb2); (try clear hk); (try clear hi)) | ((with_reducible refine gate_dst (N := 15) rfl ?_); (try (refine gate_guard (by rfl) ?_; dsimp only)); refine box_event ?hg (N := 15) ?hd (cs := #[.string (⟨#[]⟩ : ByteArray), .string (⟨#[]⟩ : ByteArray), .int .i64 0]) (t := 24) ?hr ?_; (case hd => rfl); (case hg => rfl); (case hr => first | (go_simp; done) | (go_simp; rfl)); intro gb209 hg w83 hbox hb; have n0_ := Aside0.mk (blk_below (g := gb201) (o := .cells #[.bool false, .string t200, .string x202002_16] 31 (0, 0)) (by (with_reducible repeat (first | refine blk_drewN ?_ _ | refine blk_drew ?_ | refine blk_alloc ?_ _)); exact BK201.out) hb); have n1_ := Aside0.mk (below_step (by repeat (first | (with_reducible first | exact HB.out | apply below_alloc | apply pw_below_drewN | apply below_drew1 | refine below_set ?_ GE201.out) | exact HB.out)) hb); have n2_ := Aside0.mk (hbox); have n3_ := Aside0.mk ((by rw [hg]; exact (below_size (by repeat (first | (with_reducible first | exact HB.out | apply below_alloc | apply pw_below_drewN | apply below_drew1 | refine below_set ?_ GE201.out) | exact HB.out))) : w.heap.size ≤ gb209)); have n4_ := Aside0.mk ((by rw [hg]; exact (below_size (by repeat (first | (with_reducible first | exact HB.out | apply below_alloc | apply pw_below_drewN | apply below_drew1 | refine below_set ?_ GE201.out) | exact HB.out))) : w.heap.size ≤ gb209)); have n5_ := Aside0.mk ((by rw [hg]; exact Nat.ne_of_lt (blk_lt (g := gb201) (o := .cells #[.bool false, .string t200, .string x202002_16] 31 (0, 0)) (by (with_reducible repeat (first | refine blk_drewN ?_ _ | refine blk_drew ?_ | refine blk_alloc ?_ _)); exact BK201.out)) : gb201 ≠ gb209)); have n6_ := Aside0.mk ((by rw [hg]; exact Nat.ne_of_gt (blk_lt (g := gb201) (o := .cells #[.bool false, .string t200, .string x202002_16] 31 (0, 0)) (by (with_reducible repeat (first | refine blk_drewN ?_ _ | refine blk_drew ?_ | refine blk_alloc ?_ _)); exact BK201.out)) : gb209 ≠ gb201)); clear BK201; clear HB; have BK201 := n0_; have HB := n1_; have BK209 := n2_; have GW209 := n3_; have GE209 := n4_; have NB201_209 := n5_; have NB209_201 := n6_; clear n0_ n1_ n2_ n3_ n4_ n5_ n6_; clear hb hbox hg; have hnb84 := NB209_201.out; have hnc84 := NB201_209.out; have hcz85_0 : w83.cell? ⟨gb209, 0, none⟩ = some (.string (⟨#[]⟩ : ByteArray)) := (blk_cell BK209.out 0).trans rfl; have hcz85_1 : w83.cell? ⟨gb209, 1, none⟩ = some (.string (⟨#[]⟩ : ByteArray)) := (blk_cell BK209.out 1).trans rfl; have hcz85_2 : w83.cell? ⟨gb209, 2, none⟩ = some (.int .i64 0) := (blk_cell BK209.out 2).trans rfl; have hfz85_0 := blk_frozen BK209.out 0; have hfz85_1 := blk_frozen BK209.out 1; have hfz85_2 := blk_frozen BK209.out 2; have hcz86_0 : w83.cell? ⟨gb201, 0, none⟩ = some (.bool false) := (blk_cell BK201.out 0).trans rfl; have hcz86_1 : w83.cell? ⟨gb201, 1, none⟩ = some (.string t200) := (blk_cell BK201.out 1).trans rfl; have hcz86_2 : w83.cell? ⟨gb201, 2, none⟩ = some (.string x202002_16) := (blk_cell BK201.out 2).trans rfl; have hfz86_0 := blk_frozen BK201.out 0; have hfz86_1 := blk_frozen BK201.out 1; have hfz86_2 := blk_frozen BK201.out 2))
                        have n0_ : Aside0 ((((w83.setCell ⟨gb209, 0, none⟩ (.string t205)).setCell ⟨gb209, 1, none⟩ (.string t206)).setCell ⟨gb209, 2, none⟩ (.int .i64 t207)).heap[gb201]? = some (.cells #[.bool false, .string t200, .string x202002_16] 31 (0, 0))) := ⟨by (with_reducible repeat (first | refine blk_drewN ?_ _ | refine blk_drew ?_ | refine blk_alloc ?_ _)); refine blk_far ?_ NB201_209.out _; (with_reducible repeat (first | refine blk_drewN ?_ _ | refine blk_drew ?_ | refine blk_alloc ?_ _)); refine blk_far ?_ NB201_209.out _; (with_reducible repeat (first | refine blk_drewN ?_ _ | refine blk_drew ?_ | refine blk_alloc ?_ _)); refine blk_far ?_ NB201_209.out _; (with_reducible repeat (first | refine blk_drewN ?_ _ | refine blk_drew ?_ | refine blk_alloc ?_ _)); exact BK201.out⟩
                        have n1_ : Aside0 ((((w83.setCell ⟨gb209, 0, none⟩ (.string t205)).setCell ⟨gb209, 1, none⟩ (.string t206)).setCell ⟨gb209, 2, none⟩ (.int .i64 t207)).heap[gb209]? = some (.cells #[.string t205, .string t206, .int .i64 t207] 24 (0, 0))) := ⟨by (with_reducible repeat (first | refine blk_drewN ?_ _ | refine blk_drew ?_ | refine blk_alloc ?_ _)); refine blk_put (cs := #[.string t205, .string t206, .int .i64 0]) ?_ 2 _ rfl; (with_reducible repeat (first | refine blk_drewN ?_ _ | refine blk_drew ?_ | refine blk_alloc ?_ _)); refine blk_put (cs := #[.string t205, .string (⟨#[]⟩ : ByteArray), .int .i64 0]) ?_ 1 _ rfl; (with_reducible repeat (first | refine blk_drewN ?_ _ | refine blk_drew ?_ | refine blk_alloc ?_ _)); refine blk_put (cs := #[.string (⟨#[]⟩ : ByteArray), .string (⟨#[]⟩ : ByteArray), .int .i64 0]) ?_ 0 _ rfl; (with_reducible repeat (first | refine blk_drewN ?_ _ | refine blk_drew ?_ | refine blk_alloc ?_ _)); exact BK209.out⟩
                        have n2_ : Aside0 (Below w.heap.size w (((w83.setCell ⟨gb209, 0, none⟩ (.string t205)).setCell ⟨gb209, 1, none⟩ (.string t206)).setCell ⟨gb209, 2, none⟩ (.int .i64 t207))) := ⟨by repeat (first | (with_reducible first | exact HB.out | apply below_alloc | apply pw_below_drewN | apply below_drew1 | refine below_set ?_ GE201.out | refine below_set ?_ GE209.out) | exact HB.out)⟩
                        (try clear BK201)
                        (try clear BK209)
                        (try clear HB)
                        generalize (((w83.setCell ⟨gb209, 0, none⟩ (.string t205)).setCell ⟨gb209, 1, none⟩ (.string t206)).setCell ⟨gb209, 2, none⟩ (.int .i64 t207)) = w87 at n0_ n1_ n2_ ⊢
                        have BK201 := n0_
                        have BK209 := n1_
                        have HB := n2_
                        clear n0_ n1_ n2_
                        have n0_ := Aside0.mk (blk_drew BK201.out)
                        have n1_ := Aside0.mk (blk_drew BK209.out)
                        have n2_ := Aside0.mk (below_drew1 HB.out)
                        clear BK201
                        clear BK209
                        clear HB
                        have BK201 := n0_
                        have BK209 := n1_
                        have HB := n2_
                        clear n0_ n1_ n2_
                        refine start_ (n := 11) (S := fun w' => True) (ds := []) #[false, false, false, false, false, false, false, false, false, false, false] (by kernel_rfl) rfl rfl trivial (fun hHeld => ?_); refine with_tabW florinlaw05_OperandReads.tab21 florinlaw05_OperandReads.bits21 (fun HT_ HW_ => ?_)
                        generalize w87.drew = w88 at BK201 BK209 HB hHeld ⊢
                        refine pure_ (i := 0) (N := some 94) (v := ?_) (a' := ?_) #[true, false, false, false, false, false, false, false, false, false, false] rfl rfl (any_of HT_.out (by kernel_rfl)) (fun _ _ _ h => h) (Or.inl ⟨by rfl, ?_⟩) ?_ ?_
                        rotate_left
                        · intro w'
                          go_simp
                          with_reducible rfl
                        rotate_left
                        · simp only [Act.put, List.setIfInBounds_toArray, List.set_cons_zero, List.set_cons_succ, i64_w, i32_w]
                          rfl
                        refine pure_ (i := 1) (N := some 95) (v := ?_) (a' := ?_) #[true, true, false, false, false, false, false, false, false, false, false] rfl rfl (any_of HT_.out (by kernel_rfl)) (fun _ _ _ h => h) (Or.inl ⟨by rfl, ?_⟩) ?_ ?_
                        rotate_left
                        · intro w'
                          go_simp
                          with_reducible rfl
                        rotate_left
                        · simp only [Act.put, List.setIfInBounds_toArray, List.set_cons_zero, List.set_cons_succ, i64_w, i32_w]
                          rfl
                        refine pure_ (i := 2) (N := some 96) (v := ?_) (a' := ?_) #[true, true, true, false, false, false, false, false, false, false, false] rfl rfl (any_of HT_.out (by kernel_rfl)) (fun _ _ _ h => h) (Or.inl ⟨by rfl, ?_⟩) ?_ ?_
                        rotate_left
                        · intro w'
                          go_simp
                          with_reducible rfl
                        rotate_left
                        · simp only [Act.put, List.setIfInBounds_toArray, List.set_cons_zero, List.set_cons_succ, i64_w, i32_w]
                          rfl
                        refine pure_ (i := 3) (N := some 97) (v := undef) (a' := ?_) #[true, true, true, true, false, false, false, false, false, false, false] rfl rfl (any_of HT_.out (by kernel_rfl)) (fun _ _ _ h => h) (Or.inr ⟨by rfl, rfl⟩) ?_ ?_
                        rotate_left
                        · simp only [Act.put, List.setIfInBounds_toArray, List.set_cons_zero, List.set_cons_succ, i64_w, i32_w]
                          rfl
                        refine pure_ (i := 4) (N := some 98) (v := undef) (a' := ?_) #[true, true, true, true, true, false, false, false, false, false, false] rfl rfl (any_of HT_.out (by kernel_rfl)) (fun _ _ _ h => h) (Or.inr ⟨by rfl, rfl⟩) ?_ ?_
                        rotate_left
                        · simp only [Act.put, List.setIfInBounds_toArray, List.set_cons_zero, List.set_cons_succ, i64_w, i32_w]
                          rfl
                        refine pure_ (i := 5) (N := some 99) (v := undef) (a' := ?_) #[true, true, true, true, true, true, false, false, false, false, false] rfl rfl (any_of HT_.out (by kernel_rfl)) (fun _ _ _ h => h) (Or.inr ⟨by rfl, rfl⟩) ?_ ?_
                        rotate_left
                        · simp only [Act.put, List.setIfInBounds_toArray, List.set_cons_zero, List.set_cons_succ, i64_w, i32_w]
                          rfl
                        refine pure_ (i := 6) (N := some 100) (v := undef) (a' := ?_) #[true, true, true, true, true, true, true, false, false, false, false] rfl rfl (any_of HT_.out (by kernel_rfl)) (fun _ _ _ h => h) (Or.inr ⟨by rfl, rfl⟩) ?_ ?_
                        rotate_left
                        · simp only [Act.put, List.setIfInBounds_toArray, List.set_cons_zero, List.set_cons_succ, i64_w, i32_w]
                          rfl
                        refine pure_ (i := 7) (N := some 101) (v := undef) (a' := ?_) #[true, true, true, true, true, true, true, true, false, false, false] rfl rfl (any_of HT_.out (by kernel_rfl)) (fun _ _ _ h => h) (Or.inr ⟨by rfl, rfl⟩) ?_ ?_
                        rotate_left
                        · simp only [Act.put, List.setIfInBounds_toArray, List.set_cons_zero, List.set_cons_succ, i64_w, i32_w]
                          rfl
                        refine pure_ (i := 8) (N := some 102) (v := undef) (a' := ?_) #[true, true, true, true, true, true, true, true, true, false, false] rfl rfl (any_of HT_.out (by kernel_rfl)) (fun _ _ _ h => h) (Or.inr ⟨by rfl, rfl⟩) ?_ ?_
                        rotate_left
                        · simp only [Act.put, List.setIfInBounds_toArray, List.set_cons_zero, List.set_cons_succ, i64_w, i32_w]
                          rfl
                        refine pure_ (i := 9) (N := some 103) (v := ?_) (a' := ?_) #[true, true, true, true, true, true, true, true, true, true, false] rfl rfl (any_of HT_.out (by kernel_rfl)) (fun _ _ _ h => h) (Or.inl ⟨by rfl, ?_⟩) ?_ ?_
                        rotate_left
                        · intro w'
                          go_simp
                          with_reducible rfl
                        rotate_left
                        · simp only [Act.put, List.setIfInBounds_toArray, List.set_cons_zero, List.set_cons_succ, i64_w, i32_w]
                          rfl
                        refine pure_ (i := 10) (N := some 10) (v := ?_) (a' := ?_) #[true, true, true, true, true, true, true, true, true, true, true] rfl rfl (any_of HT_.out (by kernel_rfl)) (fun _ _ _ h => h) (Or.inl ⟨by rfl, ?_⟩) ?_ ?_
                        rotate_left
                        · intro w'
                          go_simp
                          with_reducible rfl
                        rotate_left
                        · simp only [Act.put, List.setIfInBounds_toArray, List.set_cons_zero, List.set_cons_succ, i64_w, i32_w]
                          rfl
                        refine done_ (done_of HT_.out (by kernel_rfl)) ?_
                        try go_wp2
                        go_ret
                        exact ⟨by first | rfl | (simp [errW_none, errW_some] <;> rfl) | (simp [*, errW_none, errW_some] <;> rfl), by repeat (first | (with_reducible first | exact HB.out | apply below_alloc | apply pw_below_drewN | apply below_drew1 | refine below_set ?_ GE201.out | refine below_set ?_ GE209.out) | exact HB.out)⟩
  · replace c7 := Bool.eq_false_iff.mpr c7
    subst c7
    have H1 : (some false) = some r := by rw [if_neg (show ¬ (false = true) by decide)] at H; exact H
    clear H
    have H := H1
    clear H1
    obtain rfl := Option.some.inj H
    go_enter Tryd.func5, Tryd.ntmps5
    go_wp2_with (first | ((with_reducible refine gate_callee (f := 8) rfl ?_); refine goesL_ (some 17) rfl rfl Tryd.func8 (by kernel_rfl) rfl #[] rfl (by (try simp only [List.map_toArray, List.map_cons, List.map_nil]); first | done | rfl | (simp only [List.length_drop, List.length_take]; rfl)) ?_; (with_reducible refine (florinlaw05_head.calls k  false _ A6.out).mono ?_); rintro e w89 ⟨rfl, hb⟩; refine ⟨_, rfl, ?_⟩; have n0_ := Aside0.mk (below_step (by repeat (first | (with_reducible first | exact HB.out | apply below_alloc | apply pw_below_drewN | apply below_drew1) | exact HB.out)) hb); clear HB; have HB := n0_; clear n0_; (try clear hb); (try clear hb2); (try clear hk); (try clear hi)))
    go_ret
    exact ⟨by first | rfl | (simp [errW_none, errW_some] <;> rfl) | (simp [*, errW_none, errW_some] <;> rfl), by repeat (first | (with_reducible first | exact HB.out | apply below_alloc | apply pw_below_drewN | apply below_drew1) | exact HB.out)⟩

/-- THE ONE PURE STATEMENT of florinlaw05_OperandReads: yours. -/
def florinlaw05_OperandReads.Pure : Prop := ∀ (l0 : List Int) (l1 : List Int) (a2 : Bool) (a3 : Int) (a4 : Bool), l0.length ≤ maxLen → l0.length * 1 ≤ 140737488351232 → (∀ x ∈ l0, (Lit.int .u8 x).wf = true) → l1.length ≤ maxLen → l1.length * 1 ≤ 140737488351232 → (∀ x ∈ l1, (Lit.int .u8 x).wf = true) → (Lit.int .i64 a3).wf = true → ∃ k, florinlaw05_OperandReads.f k l0 l1 a2 a3 a4 = some true
theorem florinlaw05_OperandReads.walk (P : florinlaw05_OperandReads.Pure) (a0 : Option Addr) (len0 cap0 : Nat) (z0 : List Int) (a1 : Option Addr) (len1 cap1 : Nat) (z1 : List Int) (a2 : Bool) (a3 : Int) (a4 : Bool) (w : World) (w0 : (a0 = none ∧ len0 = 0 ∧ cap0 = 0 ∧ z0 = []) ∨ ∃ x, a0 = some x ∧ len0 ≤ cap0 ∧ cap0 ≤ maxLen ∧ z0.length = cap0 ∧ (∀ i, i < z0.length → w.cell? (x.add i) = some (.int .u8 (z0.getD i 0))) ∧ ∀ n ∈ z0, (Lit.int .u8 n).wf = true) (y0 : len0 * 1 ≤ 140737488351232) (w1 : (a1 = none ∧ len1 = 0 ∧ cap1 = 0 ∧ z1 = []) ∨ ∃ x, a1 = some x ∧ len1 ≤ cap1 ∧ cap1 ≤ maxLen ∧ z1.length = cap1 ∧ (∀ i, i < z1.length → w.cell? (x.add i) = some (.int .u8 (z1.getD i 0))) ∧ ∀ n ∈ z1, (Lit.int .u8 n).wf = true) (y1 : len1 * 1 ≤ 140737488351232) (w3 : (Lit.int .i64 a3).wf = true) :
    Calls Tryd.prog 5 #[.slice a0 len0 cap0, .slice a1 len1 cap1, .bool a2, .int .i64 a3, .bool a4] w fun e w' => e = .returned (.bool true) ∧ Below w.heap.size w w' := by
  obtain ⟨l0, rfl, hr0, hm0, hw0, hc0⟩ := ReadsInt.ofRowC w0
  obtain ⟨l1, rfl, hr1, hm1, hw1, hc1⟩ := ReadsInt.ofRowC w1
  obtain ⟨k, h⟩ := P l0 l1 a2 a3 a4 hm0 y0 hw0 hm1 y1 hw1 w3
  refine (florinlaw05_OperandReads.calls k _ _ l0 _ _ l1 a2 a3 a4 true w (Kd.C_of_reads (d := (0 : Int)) (h1 := fun _ => rfl) hr0) hc0 (Kd.C_of_reads (d := (0 : Int)) (h1 := fun _ => rfl) hr1) hc1 h).mono ?_
  rintro e w' ⟨rfl, hd⟩
  exact ⟨rfl, hd⟩

end Go.Proofs.YtaifmgdhdnmjiaaDoor.P
