-- written by a program of this session (wip/p2)
import Derived.Test.YtnpohgoacbpcjaaGreatDoorPx0
import Derived.Test.YtnpohgoacbpcjaaGreatDoorPx3
import Derived.Test.YtnpohgoacbpcjaaGreatDoorPx5
import Derived.Test.YtnpohgoacbpcjaaGreatDoorPx8
import Derived.Test.YtnpohgoacbpcjaaGreatDoorPx9
import Derived.Test.YtnpohgoacbpcjaaGreatDoorPx10
import Derived.Test.YtnpohgoacbpcjaaGreatDoorPx18
namespace Go.Proofs.YtnpohgoacbpcjaaGreatDoor.P
open Go.RowKit Go.Proofs.YtnpohgoacbpcjaaGreatDoorW.PrintWords Go.Proofs.YtnpohgoacbpcjaaGreatDoorW.PrintLast Go.Proofs.YtnpohgoacbpcjaaGreatDoorW.PrintMore
attribute [local go_sem] max2_int min2_int max_two min_two max_three min_three max_four min_four   -- for this text's walks alone
set_option linter.unusedVariables false
set_option linter.unusedSimpArgs false

/-! ### florinlaw10_ClassAgain: function 5 -/
def florinlaw10_ClassAgain.l0 : Nat → List (S28) → ByteArray → List (S28) → Int → Int → Option (Bool)
  | 0, _, _, _, _, _ => none
  | k + 1, x3, x4, x18, x19, x20 => if x20 < x19 then (if 0 ≤ x20 then (if x20 < (x18.length : Int) then ((florinlaw10_sign.f k (wrap64 ((rd_T28 x18 x20).f0))).bind fun t439 => (if x4.size + t439.size ≤ 9223372036854775807 then (if ((rd_T28 x18 x20).f0) = ((rd_T28 x18 x20).f1) then (florinlaw10_ClassAgain.l0 k x3 (x4 ++ t439) x18 x19 (wrap64 (x20 + 1))) else (if (x4 ++ t439).size + 1 ≤ 9223372036854775807 then ((florinlaw10_sign.f k (wrap64 ((rd_T28 x18 x20).f1))).bind fun t440 => (if ((x4 ++ t439) ++ (⟨#[45]⟩ : ByteArray)).size + t440.size ≤ 9223372036854775807 then (florinlaw10_ClassAgain.l0 k x3 (((x4 ++ t439) ++ (⟨#[45]⟩ : ByteArray)) ++ t440) x18 x19 (wrap64 (x20 + 1))) else (none))) else (none))) else (none))) else (none)) else (none)) else ((class_Class_String.f x3).bind fun t441 => ((class_Parse.f k t441).bind fun bt442 => ((class_Class_String.f x3).bind fun t447 => (if x4.size + 1 ≤ 9223372036854775807 then (if t447.toList = (x4 ++ (⟨#[93]⟩ : ByteArray)).toList then (if bt442.2.1 = 0 then ((class_Class_Same.f k bt442.1 x3).bind fun t448 => (some t448)) else (none)) else (none)) else (none)))))
def florinlaw10_ClassAgain.f (k : Nat) (l0 : List (S28)) : Option (Bool) := (florinlaw10_head.f k).bind fun t429 => (if t429 = true then ((florinlaw10_few.f k (([l0] : List (List (S28))))).bind fun t433 => (if t433 = true then ((class_Made.f k l0).bind fun t434 => (florinlaw10_ClassAgain.l0 k t434 (⟨#[91]⟩ : ByteArray) t434 (t434.length : Int) 0)) else (some true))) else (none))
theorem florinlaw10_ClassAgain.mono_l : ∀ k, (∀ y0 y1 y2 y3 y4, LeO (florinlaw10_ClassAgain.l0 k y0 y1 y2 y3 y4) (florinlaw10_ClassAgain.l0 (k + 1) y0 y1 y2 y3 y4))
  | 0 => fun _ _ _ _ _ r h => by simp [florinlaw10_ClassAgain.l0] at h
  | k + 1 => by
    have ih0 := florinlaw10_ClassAgain.mono_l k
    · intro y0 y1 y2 y3 y4
      unfold florinlaw10_ClassAgain.l0
      repeat' first
      | (with_reducible exact ih0 _ _ _ _ _)
      | (with_reducible exact class_Class_Same.mono _ _ _)
      | (with_reducible exact class_Made.mono _ _)
      | (with_reducible exact class_Parse.mono _ _)
      | (with_reducible exact florinlaw10_few.mono _ _)
      | (with_reducible exact florinlaw10_head.mono _)
      | (with_reducible exact florinlaw10_sign.mono _ _)
      | (with_reducible exact LeO.refl _)
      | (with_reducible exact LeO.none _)
      | (with_reducible refine LeO.ite ?_ ?_)
      | (with_reducible refine LeO.bind ?_ (fun _ => ?_))
      | exact ih0 _ _ _ _ _
      | exact class_Class_Same.mono _ _ _
      | exact class_Made.mono _ _
      | exact class_Parse.mono _ _
      | exact florinlaw10_few.mono _ _
      | exact florinlaw10_head.mono _
      | exact florinlaw10_sign.mono _ _
      | exact LeO.none _
      | refine LeO.ite ?_ ?_
      | refine LeO.bind ?_ (fun _ => ?_)
theorem florinlaw10_ClassAgain.mono : ∀ a0 k, LeO (florinlaw10_ClassAgain.f k a0) (florinlaw10_ClassAgain.f (k + 1) a0) := by
  intro a0 k
  have ih0 := florinlaw10_ClassAgain.mono_l k
  unfold florinlaw10_ClassAgain.f
  repeat' first
      | (with_reducible exact ih0 _ _ _ _ _)
      | (with_reducible exact class_Class_Same.mono _ _ _)
      | (with_reducible exact class_Made.mono _ _)
      | (with_reducible exact class_Parse.mono _ _)
      | (with_reducible exact florinlaw10_few.mono _ _)
      | (with_reducible exact florinlaw10_head.mono _)
      | (with_reducible exact florinlaw10_sign.mono _ _)
      | (with_reducible exact LeO.refl _)
      | (with_reducible exact LeO.none _)
      | (with_reducible refine LeO.ite ?_ ?_)
      | (with_reducible refine LeO.bind ?_ (fun _ => ?_))
      | exact ih0 _ _ _ _ _
      | exact class_Class_Same.mono _ _ _
      | exact class_Made.mono _ _
      | exact class_Parse.mono _ _
      | exact florinlaw10_few.mono _ _
      | exact florinlaw10_head.mono _
      | exact florinlaw10_sign.mono _ _
      | exact LeO.none _
      | refine LeO.ite ?_ ?_
      | refine LeO.bind ?_ (fun _ => ?_)
set_option maxHeartbeats 64000000 in
set_option maxRecDepth 100000 in
theorem florinlaw10_ClassAgain.calls (k : Nat) (P0_ : Nat → Prop) (A0 : Option Addr) (c0 : Nat) (l0 : List (S28)) (r : Bool) (w : World) (hs0 : Kd.V k28 28 w w.heap.size (fun k_ => P0_ k_) (.slice A0 l0.length c0) l0) (h : florinlaw10_ClassAgain.f k l0 = some r) (ht : GTabs w := by first | assumption | exact gtb_ (by assumption) (bl_ (by assumption)).out) :
    Calls Tryz.prog 5 #[.slice A0 l0.length c0] w fun e w' => e = .returned (.bool r) ∧ Below w.heap.size w w' := by
  have hu28 := Tryz.underlying28
  have HO0 := Aside0.mk (show Kd.V k28 28 w w.heap.size (fun k_ => (P0_ k_ ∨ w.heap.size ≤ k_)) (.slice A0 l0.length c0) l0 from Kd.V_mono hs0 (fun k_ hk => .inl hk))
  have HB := Aside0.mk (Below.refl w.heap.size w)
  have H : ((florinlaw10_head.f k).bind fun t429 => (if t429 = true then ((florinlaw10_few.f k (([l0] : List (List (S28))))).bind fun t433 => (if t433 = true then ((class_Made.f k l0).bind fun t434 => (florinlaw10_ClassAgain.l0 k t434 (⟨#[91]⟩ : ByteArray) t434 (t434.length : Int) 0)) else (some true))) else (none))) = some r := h
  clear h
  replace H := Option.bind_eq_some_iff.mp H
  obtain ⟨t429, A20, H⟩ := H
  replace H : (if t429 = true then ((florinlaw10_few.f k (([l0] : List (List (S28))))).bind fun t433 => (if t433 = true then ((class_Made.f k l0).bind fun t434 => (florinlaw10_ClassAgain.l0 k t434 (⟨#[91]⟩ : ByteArray) t434 (t434.length : Int) 0)) else (some true))) else (none)) = some r := H
  have A2 := Aside0.mk A20
  clear A20
  by_cases c3 : t429 = true
  · subst c3
    have H1 : ((florinlaw10_few.f k (([l0] : List (List (S28))))).bind fun t433 => (if t433 = true then ((class_Made.f k l0).bind fun t434 => (florinlaw10_ClassAgain.l0 k t434 (⟨#[91]⟩ : ByteArray) t434 (t434.length : Int) 0)) else (some true))) = some r := by rw [if_pos rfl] at H; exact H
    clear H
    have H := H1
    clear H1
    obtain ⟨y430, hy430⟩ : ∃ y_ : List (List (S28)), y_ = (([l0] : List (List (S28)))) := ⟨_, rfl⟩
    replace H : ((florinlaw10_few.f k y430).bind fun t433 => (if t433 = true then ((class_Made.f k l0).bind fun t434 => (florinlaw10_ClassAgain.l0 k t434 (⟨#[91]⟩ : ByteArray) t434 (t434.length : Int) 0)) else (some true))) = some r := by first | (rw [hy430]; with_reducible exact H) | (have H2_ := (Option.bind_some _ _).symm.trans H; rw [hy430]; with_reducible exact H2_) | (have H2_ := (Option.bind_some _ _).symm.trans H; with_reducible exact H2_) | with_reducible exact H | (rw [hy430]; exact H) | exact H
    have Ny430 := Aside0.mk hy430
    clear hy430
    replace H := Option.bind_eq_some_iff.mp H
    obtain ⟨t433, A40, H⟩ := H
    replace H : (if t433 = true then ((class_Made.f k l0).bind fun t434 => (florinlaw10_ClassAgain.l0 k t434 (⟨#[91]⟩ : ByteArray) t434 (t434.length : Int) 0)) else (some true)) = some r := H
    have A4 := Aside0.mk A40
    clear A40
    by_cases c5 : t433 = true
    · subst c5
      have H1 : ((class_Made.f k l0).bind fun t434 => (florinlaw10_ClassAgain.l0 k t434 (⟨#[91]⟩ : ByteArray) t434 (t434.length : Int) 0)) = some r := by rw [if_pos rfl] at H; exact H
      clear H
      have H := H1
      clear H1
      replace H := Option.bind_eq_some_iff.mp H
      obtain ⟨t434, A60, H⟩ := H
      replace H : (florinlaw10_ClassAgain.l0 k t434 (⟨#[91]⟩ : ByteArray) t434 (t434.length : Int) 0) = some r := H
      have A6 := Aside0.mk A60
      clear A60
      have H' := Aside0.mk H
      clear H
      go_enter Tryz.func5, Tryz.ntmps5
      go_wp2_with (first | ((with_reducible refine gate_callee (f := 9) rfl ?_); refine gl_ (some 10) Tryz.func9 #[] ?_; (with_reducible refine (florinlaw10_head.calls k  true _ A2.out).mono ?_); rintro e w7 ⟨rfl, hb⟩; refine ⟨_, rfl, ?_⟩; replace HO0 := Aside0.mk (Kd.V_below (krV_ HO0) hb); replace HB := Aside0.mk (below_step (bl_ HB).out hb); (try clear hb); (try clear hi)) | ((with_reducible refine gate_dst (N := 13) rfl ?_); refine Kd.N_lit (Kd.slice 28 k28) _ 22 ?hg (N' := 13) ?hd (xs := ([l0] : List (List (S28)))) (inner := [.slice A0 l0.length c0]) (ok := (fun k_ => (P0_ k_ ∨ w.heap.size ≤ k_))) (okp := (fun k_ => (P0_ k_ ∨ w.heap.size ≤ k_))) ?hr ?hp (fun _ hk => hk) ((show ∀ k_, w7.heap.size ≤ k_ → (fun k_ => (P0_ k_ ∨ w.heap.size ≤ k_)) k_ from fun k_ hk => (.inr (Nat.le_trans (below_size (bl_ HB).out) hk))) _ (Nat.le_refl _)) (Below.refl _ _) (Nat.le_refl _) (by simp) ?_; (case hd => rfl); (case hg => rfl); (case hr => first | (go_simp; done) | (go_simp; rfl)); (case hp => exact (Reps.one (show Kd.FK (Kd.slice 28 k28) _ _ l0 [.slice A0 l0.length c0] from (Kd.FK_slice_mk (Kd.V_reads' (Kd.V_mono (ok' := (fun k_ => (P0_ k_ ∨ w.heap.size ≤ k_))) (HO0.out) (fun k_ hk => hk))).2.1 (Kd.V_F (Kd.V_mono (ok' := (fun k_ => (P0_ k_ ∨ w.heap.size ≤ k_))) (HO0.out) (fun k_ hk => hk))))) (Reps.none _ _))); intro v431 w8 ho9 hb hg_ hnew_; clear hg_ hnew_; (first | rw [← Ny430.out] at ho9 | (simp only [Int.reduceToNat] at ho9; rw [← Ny430.out] at ho9)); have HO432 := Aside0.mk (Kd.N_lower ho9 (below_size (bl_ HB).out)); replace HO0 := Aside0.mk (Kd.V_elder' (krV_ HO0) (Kd.N_base ho9) hb); replace HB := Aside0.mk (below_step (bl_ HB).out hb); clear hb ho9; obtain ⟨Ao10, co10, eo10⟩ := Kd.N_slice HO432.out; subst eo10) | ((with_reducible refine gate_callee (f := 10) rfl ?_); refine gl_ (some 14) Tryz.func10 #[.slice Ao10 y430.length co10] ?_; (with_reducible refine (florinlaw10_few.calls k _ _ y430 true _ ?side1 ?side2 A4.out).mono ?_); (case side1 => repeat (first | exact (Kd.N_reads' HO432.out).2.2 | (with_reducible refine Kd.C_alloc ?_ _) | (with_reducible refine Kd.C_drewN ?_ _) | (with_reducible refine Kd.C_drew ?_))); (case side2 => exact (Kd.N_reads' HO432.out).2.1); rintro e w' ⟨rfl, ⟨nd, rfl⟩⟩; refine ⟨_, rfl, ?_⟩) | ((with_reducible refine gate_callee (f := 11) rfl ?_); refine gl_ (some 17) Tryz.func11 #[.slice A0 l0.length c0] ?_; (with_reducible refine (class_Made.calls k _ _ l0 t434 _ ?side1 ?side2 A6.out).mono ?_); (case side1 => repeat (first | exact (Kd.V_reads' HO0.out).2.2 | (with_reducible refine Kd.C_alloc ?_ _) | (with_reducible refine Kd.C_drewN ?_ _) | (with_reducible refine Kd.C_drew ?_))); (case side2 => exact (Kd.V_reads' HO0.out).2.1); rintro e w11 ⟨v435, rfl, ho0, hb⟩; refine ⟨_, rfl, ?_⟩; have HO436 := Aside0.mk (Kd.R_lower (Kd.R_newM (M := fun k_ => (w.heap.size ≤ k_)) ho0 (below_size (bl_ HB).out) (fun k_ h_ => h_)) (below_size (bl_ HB).out)); replace HO0 := Aside0.mk (Kd.V_elder' (krV_ HO0) (Kd.R_base ho0) hb); replace HO432 := Aside0.mk (Kd.N_elder' (krN_ HO432) (Kd.R_base ho0) hb); replace HB := Aside0.mk (below_step (bl_ HB).out hb); (try clear hb); (try clear ho0); obtain ⟨Ao12, co12, eo12⟩ := Kd.R_slice HO436.out; subst eo12))
      go_loopg [4, 20] k (fun kq v4 v20 w' => ∃ (x4_1 : ByteArray) (x20_1 : Int), v4 = .string x4_1 ∧ v20 = .int .i64 x20_1 ∧ Aside0 (florinlaw10_ClassAgain.l0 kq t434 x4_1 t434 (t434.length : Int) x20_1 = some r) ∧ Aside0 (kq ≤ k) ∧ Aside0 (Kd.R k28 28 w' w.heap.size (fun k_ => (w.heap.size ≤ k_)) (.slice Ao12 t434.length co12) t434) ∧ Aside0 (Kd.R k28 28 w' w.heap.size (fun k_ => (w.heap.size ≤ k_)) (.slice Ao12 t434.length co12) t434) ∧ Aside0 (Below w.heap.size w w'))
      case atStart => exact ⟨((⟨#[91]⟩ : ByteArray)), (0), eq_, eq_, H', ⟨Nat.le_refl _⟩, ⟨by (with_reducible repeat (first | apply Kd.R_alloc | apply Kd.R_drewN | apply Kd.R_drew)); exact Kd.R_mono HO436.out (fun _ hk => hk.1)⟩, ⟨by (with_reducible repeat (first | apply Kd.R_alloc | apply Kd.R_drewN | apply Kd.R_drew)); exact Kd.R_mono HO436.out (fun _ hk => hk.1)⟩, (bl_ HB)⟩
      case round =>
        clear H'
        try clear c1
        try clear p2
        try clear c3
        try clear c5
        try clear p6
        try clear c9
        try clear c10
        try clear c11
        obtain ⟨x4_1, x20_1, rfl, rfl, HA, HK1, HO_3, HO_18, HB⟩ := hrel
        cases gk with
        | zero => exact absurd HA.out (by simp [florinlaw10_ClassAgain.l0])
        | succ k1 =>
          have H := HA.out
          clear HA
          simp only [florinlaw10_ClassAgain.l0] at H
          by_cases c13 : x20_1 < (t434.length : Int)
          · rw [if_pos c13] at H
            have c13b0 : decide (x20_1 < (t434.length : Int)) = true := decide_eq_true c13
            clear c13
            by_cases c14 : 0 ≤ x20_1
            · rw [if_pos c14] at H
              have c14b0 : decide (0 ≤ x20_1) = true := decide_eq_true c14
              clear c14
              by_cases c15 : x20_1 < (t434.length : Int)
              · rw [if_pos c15] at H
                have c15b0 : decide (x20_1 < (t434.length : Int)) = true := decide_eq_true c15
                clear c15
                replace H := Option.bind_eq_some_iff.mp H
                obtain ⟨t439, A160, H⟩ := H
                replace H : (if x4_1.size + t439.size ≤ 9223372036854775807 then (if ((rd_T28 t434 x20_1).f0) = ((rd_T28 t434 x20_1).f1) then (florinlaw10_ClassAgain.l0 k1 t434 (x4_1 ++ t439) t434 (t434.length : Int) (wrap64 (x20_1 + 1))) else (if (x4_1 ++ t439).size + 1 ≤ 9223372036854775807 then ((florinlaw10_sign.f k1 (wrap64 ((rd_T28 t434 x20_1).f1))).bind fun t440 => (if ((x4_1 ++ t439) ++ (⟨#[45]⟩ : ByteArray)).size + t440.size ≤ 9223372036854775807 then (florinlaw10_ClassAgain.l0 k1 t434 (((x4_1 ++ t439) ++ (⟨#[45]⟩ : ByteArray)) ++ t440) t434 (t434.length : Int) (wrap64 (x20_1 + 1))) else (none))) else (none))) else (none)) = some r := H
                have A16 := Aside0.mk A160
                clear A160
                by_cases c17 : x4_1.size + t439.size ≤ 9223372036854775807
                · rw [if_pos c17] at H
                  have c17b0 := eq_true c17
                  have c17b1 : decide (x4_1.size + t439.size ≤ 9223372036854775807) = true := decide_eq_true c17
                  try have c17b2 : (9223372036854775807 < x4_1.size + t439.size) = False := eq_false (Nat.not_lt.2 c17)
                  by_cases c18 : ((rd_T28 t434 x20_1).f0) = ((rd_T28 t434 x20_1).f1)
                  · rw [if_pos c18] at H
                    have c18b0 : (((rd_T28 t434 x20_1).f0) == ((rd_T28 t434 x20_1).f1)) = true := beq_iff_eq.mpr c18
                    have c18b1 : (((rd_T28 t434 x20_1).f0) != ((rd_T28 t434 x20_1).f1)) = false := bne_eq_false_iff_eq.mpr c18
                    clear c18
                    have H' := Aside0.mk H
                    clear H
                    have p437 : 0 ≤ (x20_1 : Int) := of_decide_eq_true (by first | (with_reducible assumption) | assumption)
                    have q437 : x20_1 < (t434.length : Int) := of_decide_eq_true (by first | (with_reducible assumption) | assumption)
                    obtain ⟨ad437, e437, hx437_0, hx437_1⟩ := at_T28 (Kd.R_reads' HO_18.out).2.2 x20_1 p437 q437
                    cases e437
                    replace p437 := eq_true p437
                    replace q437 := eq_true q437
                    go_wp2_with (first | ((with_reducible refine gate_dst (N := 6) rfl ?_); refine be_ 6 #[.int .i32 0, .int .i32 0] 28 ?_; intro gb438 hg w19 hbox hb; have BK438 := Aside0.mk (hbox); have GW438 := sz_ HB hg; have GE438 := sz_ HB hg; replace HO_3 := Aside0.mk (Kd.R_below (Kd.R_elderB (kr_ HO_3) gb438 (Nat.le_of_eq hg.symm)) hb); replace HO_18 := Aside0.mk (Kd.R_below (Kd.R_elderB (kr_ HO_18) gb438 (Nat.le_of_eq hg.symm)) hb); replace HB := Aside0.mk (below_step (bl_ HB).out hb); clear hb hbox hg; obtain ⟨hcz20_0, hcz20_1, hfz20_0, hfz20_1⟩ := bo2_ BK438) | ((with_reducible refine gate_callee (f := 20) rfl ?_); refine gl_ (some 28) Tryz.func20 #[.int .i64 (wrap64 ((rd_T28 t434 x20_1).f0))] ?_; (with_reducible refine (florinlaw10_sign.calls k1 (wrap64 ((rd_T28 t434 x20_1).f0)) t439 _ A16.out).mono ?_); rintro e w21 ⟨rfl, hb⟩; refine ⟨_, rfl, ?_⟩; have n0_ := Aside0.mk (Kd.R_below (by (with_reducible repeat (first | apply Kd.R_alloc | apply Kd.R_drewN | apply Kd.R_drew)); exact (Kd.R_mono (Kd.R_far (p := ⟨gb438, 1, none⟩) (Kd.R_far (p := ⟨gb438, 0, none⟩) (Kd.R_mono HO_3.out (fun k_ hk => (⟨hk, hk.2⟩ : _ ∧ k_ ≠ gb438))) (fun _ hk => hk.2) (.int .i32 ((rd_T28 t434 x20_1).f0))) (fun _ hk => hk.2) (.int .i32 ((rd_T28 t434 x20_1).f1))) (fun _ h_ => h_.1))) hb); have n1_ := Aside0.mk (Kd.R_below (by (with_reducible repeat (first | apply Kd.R_alloc | apply Kd.R_drewN | apply Kd.R_drew)); exact (Kd.R_mono (Kd.R_far (p := ⟨gb438, 1, none⟩) (Kd.R_far (p := ⟨gb438, 0, none⟩) (Kd.R_mono HO_18.out (fun k_ hk => (⟨hk, hk.2⟩ : _ ∧ k_ ≠ gb438))) (fun _ hk => hk.2) (.int .i32 ((rd_T28 t434 x20_1).f0))) (fun _ hk => hk.2) (.int .i32 ((rd_T28 t434 x20_1).f1))) (fun _ h_ => h_.1))) hb); have n2_ := Aside0.mk (blk_below (g := gb438) (o := .cells #[.int .i32 ((rd_T28 t434 x20_1).f0), .int .i32 ((rd_T28 t434 x20_1).f1)] 28 (0, 0)) (by (with_reducible repeat (first | refine blk_drewN ?_ _ | refine blk_drew ?_ | refine blk_alloc ?_ _)); refine blk_put (cs := #[.int .i32 ((rd_T28 t434 x20_1).f0), .int .i32 0]) ?_ 1 _ rfl; (with_reducible repeat (first | refine blk_drewN ?_ _ | refine blk_drew ?_ | refine blk_alloc ?_ _)); refine blk_put (cs := #[.int .i32 0, .int .i32 0]) ?_ 0 _ rfl; (with_reducible repeat (first | refine blk_drewN ?_ _ | refine blk_drew ?_ | refine blk_alloc ?_ _)); exact BK438.out) hb); have n3_ := Aside0.mk (below_step (bl_ HB).out hb); clear HO_3; clear HO_18; clear BK438; clear HB; have HO_3 := n0_; have HO_18 := n1_; have BK438 := n2_; have HB := n3_; clear n0_ n1_ n2_ n3_; (try clear hb); obtain ⟨hcz22_0, hcz22_1, hfz22_0, hfz22_1⟩ := bo2_ BK438))
                    go_roundg k1
                    case measure => have := HK1.out; omega
                    case rel => exact ⟨(x4_1 ++ t439), (wrap64 (x20_1 + 1)), eq_, eq_, H', ⟨by have := HK1.out; omega⟩, ⟨by (with_reducible repeat (first | apply Kd.R_alloc | apply Kd.R_drewN | apply Kd.R_drew)); exact Kd.R_mono HO_3.out (fun _ hk => hk.1)⟩, ⟨by (with_reducible repeat (first | apply Kd.R_alloc | apply Kd.R_drewN | apply Kd.R_drew)); exact Kd.R_mono HO_18.out (fun _ hk => hk.1)⟩, (bl_ HB)⟩
                  · rw [if_neg c18] at H
                    have c18b0 : (((rd_T28 t434 x20_1).f0) == ((rd_T28 t434 x20_1).f1)) = false := beq_eq_false_iff_ne.mpr c18
                    have c18b1 : (((rd_T28 t434 x20_1).f0) != ((rd_T28 t434 x20_1).f1)) = true := bne_iff_ne.mpr c18
                    by_cases c23 : (x4_1 ++ t439).size + 1 ≤ 9223372036854775807
                    · rw [if_pos c23] at H
                      have c23b0 := eq_true c23
                      have c23b1 : decide ((x4_1 ++ t439).size + 1 ≤ 9223372036854775807) = true := decide_eq_true c23
                      try (have c23b5 := c23b0; simp only [ByteArray.size_append, Int.natCast_add] at c23b5)
                      try have c23b2 : (9223372036854775807 < (x4_1 ++ t439).size + 1) = False := eq_false (Nat.not_lt.2 c23)
                      try have c23b3 : (9223372036854775807 < x4_1.size + t439.size + 1) = False := eq_false (Nat.not_lt.2 (by have h_ := c23; simp only [ByteArray.size_append] at h_; exact h_))
                      try have c23b4 : (x4_1.size + t439.size + 1 ≤ 9223372036854775807) = True := eq_true (by have h_ := c23; simp only [ByteArray.size_append] at h_; exact h_)
                      replace H := Option.bind_eq_some_iff.mp H
                      obtain ⟨t440, A240, H⟩ := H
                      replace H : (if ((x4_1 ++ t439) ++ (⟨#[45]⟩ : ByteArray)).size + t440.size ≤ 9223372036854775807 then (florinlaw10_ClassAgain.l0 k1 t434 (((x4_1 ++ t439) ++ (⟨#[45]⟩ : ByteArray)) ++ t440) t434 (t434.length : Int) (wrap64 (x20_1 + 1))) else (none)) = some r := H
                      have A24 := Aside0.mk A240
                      clear A240
                      by_cases c25 : ((x4_1 ++ t439) ++ (⟨#[45]⟩ : ByteArray)).size + t440.size ≤ 9223372036854775807
                      · rw [if_pos c25] at H
                        have c25b0 := eq_true c25
                        have c25b1 : decide (((x4_1 ++ t439) ++ (⟨#[45]⟩ : ByteArray)).size + t440.size ≤ 9223372036854775807) = true := decide_eq_true c25
                        try (have c25b5 := c25b0; simp only [ByteArray.size_append, Int.natCast_add] at c25b5)
                        try have c25b2 : (9223372036854775807 < ((x4_1 ++ t439) ++ (⟨#[45]⟩ : ByteArray)).size + t440.size) = False := eq_false (Nat.not_lt.2 c25)
                        try have c25b3 : (9223372036854775807 < x4_1.size + t439.size + 1 + t440.size) = False := eq_false (Nat.not_lt.2 (by have h_ := c25; simp only [ByteArray.size_append] at h_; exact h_))
                        try have c25b4 : (x4_1.size + t439.size + 1 + t440.size ≤ 9223372036854775807) = True := eq_true (by have h_ := c25; simp only [ByteArray.size_append] at h_; exact h_)
                        have H' := Aside0.mk H
                        clear H
                        have p437 : 0 ≤ (x20_1 : Int) := of_decide_eq_true (by first | (with_reducible assumption) | assumption)
                        have q437 : x20_1 < (t434.length : Int) := of_decide_eq_true (by first | (with_reducible assumption) | assumption)
                        obtain ⟨ad437, e437, hx437_0, hx437_1⟩ := at_T28 (Kd.R_reads' HO_18.out).2.2 x20_1 p437 q437
                        cases e437
                        replace p437 := eq_true p437
                        replace q437 := eq_true q437
                        go_wp2_with (first | ((with_reducible refine gate_dst (N := 6) rfl ?_); refine be_ 6 #[.int .i32 0, .int .i32 0] 28 ?_; intro gb438 hg w26 hbox hb; have BK438 := Aside0.mk (hbox); have GW438 := sz_ HB hg; have GE438 := sz_ HB hg; replace HO_3 := Aside0.mk (Kd.R_below (Kd.R_elderB (kr_ HO_3) gb438 (Nat.le_of_eq hg.symm)) hb); replace HO_18 := Aside0.mk (Kd.R_below (Kd.R_elderB (kr_ HO_18) gb438 (Nat.le_of_eq hg.symm)) hb); replace HB := Aside0.mk (below_step (bl_ HB).out hb); clear hb hbox hg; obtain ⟨hcz27_0, hcz27_1, hfz27_0, hfz27_1⟩ := bo2_ BK438) | ((with_reducible refine gate_callee (f := 20) rfl ?_); refine gl_ (some 28) Tryz.func20 #[.int .i64 (wrap64 ((rd_T28 t434 x20_1).f0))] ?_; (with_reducible refine (florinlaw10_sign.calls k1 (wrap64 ((rd_T28 t434 x20_1).f0)) t439 _ A16.out).mono ?_); rintro e w28 ⟨rfl, hb⟩; refine ⟨_, rfl, ?_⟩; have n0_ := Aside0.mk (Kd.R_below (by (with_reducible repeat (first | apply Kd.R_alloc | apply Kd.R_drewN | apply Kd.R_drew)); exact (Kd.R_mono (Kd.R_far (p := ⟨gb438, 1, none⟩) (Kd.R_far (p := ⟨gb438, 0, none⟩) (Kd.R_mono HO_3.out (fun k_ hk => (⟨hk, hk.2⟩ : _ ∧ k_ ≠ gb438))) (fun _ hk => hk.2) (.int .i32 ((rd_T28 t434 x20_1).f0))) (fun _ hk => hk.2) (.int .i32 ((rd_T28 t434 x20_1).f1))) (fun _ h_ => h_.1))) hb); have n1_ := Aside0.mk (Kd.R_below (by (with_reducible repeat (first | apply Kd.R_alloc | apply Kd.R_drewN | apply Kd.R_drew)); exact (Kd.R_mono (Kd.R_far (p := ⟨gb438, 1, none⟩) (Kd.R_far (p := ⟨gb438, 0, none⟩) (Kd.R_mono HO_18.out (fun k_ hk => (⟨hk, hk.2⟩ : _ ∧ k_ ≠ gb438))) (fun _ hk => hk.2) (.int .i32 ((rd_T28 t434 x20_1).f0))) (fun _ hk => hk.2) (.int .i32 ((rd_T28 t434 x20_1).f1))) (fun _ h_ => h_.1))) hb); have n2_ := Aside0.mk (blk_below (g := gb438) (o := .cells #[.int .i32 ((rd_T28 t434 x20_1).f0), .int .i32 ((rd_T28 t434 x20_1).f1)] 28 (0, 0)) (by (with_reducible repeat (first | refine blk_drewN ?_ _ | refine blk_drew ?_ | refine blk_alloc ?_ _)); refine blk_put (cs := #[.int .i32 ((rd_T28 t434 x20_1).f0), .int .i32 0]) ?_ 1 _ rfl; (with_reducible repeat (first | refine blk_drewN ?_ _ | refine blk_drew ?_ | refine blk_alloc ?_ _)); refine blk_put (cs := #[.int .i32 0, .int .i32 0]) ?_ 0 _ rfl; (with_reducible repeat (first | refine blk_drewN ?_ _ | refine blk_drew ?_ | refine blk_alloc ?_ _)); exact BK438.out) hb); have n3_ := Aside0.mk (below_step (bl_ HB).out hb); clear HO_3; clear HO_18; clear BK438; clear HB; have HO_3 := n0_; have HO_18 := n1_; have BK438 := n2_; have HB := n3_; clear n0_ n1_ n2_ n3_; (try clear hb); obtain ⟨hcz29_0, hcz29_1, hfz29_0, hfz29_1⟩ := bo2_ BK438) | ((with_reducible refine gate_callee (f := 20) rfl ?_); refine gl_ (some 40) Tryz.func20 #[.int .i64 (wrap64 ((rd_T28 t434 x20_1).f1))] ?_; (with_reducible refine (florinlaw10_sign.calls k1 (wrap64 ((rd_T28 t434 x20_1).f1)) t440 _ A24.out).mono ?_); rintro e w30 ⟨rfl, hb⟩; refine ⟨_, rfl, ?_⟩; replace HO_3 := kb_ HO_3 hb; replace HO_18 := kb_ HO_18 hb; replace BK438 := bb_ BK438 hb; replace HB := Aside0.mk (below_step (bl_ HB).out hb); (try clear hb); (try clear hi)))
                        go_roundg k1
                        case measure => have := HK1.out; omega
                        case rel => exact ⟨(((x4_1 ++ t439) ++ (⟨#[45]⟩ : ByteArray)) ++ t440), (wrap64 (x20_1 + 1)), eq_, eq_, H', ⟨by have := HK1.out; omega⟩, ⟨by (with_reducible repeat (first | apply Kd.R_alloc | apply Kd.R_drewN | apply Kd.R_drew)); exact Kd.R_mono HO_3.out (fun _ hk => hk.1)⟩, ⟨by (with_reducible repeat (first | apply Kd.R_alloc | apply Kd.R_drewN | apply Kd.R_drew)); exact Kd.R_mono HO_18.out (fun _ hk => hk.1)⟩, (bl_ HB)⟩
                      · rw [if_neg c25] at H
                        exact absurd H (by simp)
                    · rw [if_neg c23] at H
                      exact absurd H (by simp)
                · rw [if_neg c17] at H
                  exact absurd H (by simp)
              · rw [if_neg c15] at H
                exact absurd H (by simp)
            · rw [if_neg c14] at H
              exact absurd H (by simp)
          · rw [if_neg c13] at H
            have c13b0 : decide (x20_1 < (t434.length : Int)) = false := decide_eq_false c13
            clear c13
            replace H := Option.bind_eq_some_iff.mp H
            obtain ⟨t441, A310, H⟩ := H
            replace H : ((class_Parse.f k1 t441).bind fun bt442 => ((class_Class_String.f t434).bind fun t447 => (if x4_1.size + 1 ≤ 9223372036854775807 then (if t447.toList = (x4_1 ++ (⟨#[93]⟩ : ByteArray)).toList then (if bt442.2.1 = 0 then ((class_Class_Same.f k1 bt442.1 t434).bind fun t448 => (some t448)) else (none)) else (none)) else (none)))) = some r := H
            have A31 := Aside0.mk A310
            clear A310
            replace H := Option.bind_eq_some_iff.mp H
            obtain ⟨⟨t442, t443, t444⟩, A320, H⟩ := H
            replace H : ((class_Class_String.f t434).bind fun t447 => (if x4_1.size + 1 ≤ 9223372036854775807 then (if t447.toList = (x4_1 ++ (⟨#[93]⟩ : ByteArray)).toList then (if t443 = 0 then ((class_Class_Same.f k1 t442 t434).bind fun t448 => (some t448)) else (none)) else (none)) else (none))) = some r := H
            have A32 := Aside0.mk A320
            clear A320
            replace H := Option.bind_eq_some_iff.mp H
            obtain ⟨t447, A330, H⟩ := H
            replace H : (if x4_1.size + 1 ≤ 9223372036854775807 then (if t447.toList = (x4_1 ++ (⟨#[93]⟩ : ByteArray)).toList then (if t443 = 0 then ((class_Class_Same.f k1 t442 t434).bind fun t448 => (some t448)) else (none)) else (none)) else (none)) = some r := H
            have A33 := Aside0.mk A330
            clear A330
            by_cases c34 : x4_1.size + 1 ≤ 9223372036854775807
            · rw [if_pos c34] at H
              have c34b0 := eq_true c34
              have c34b1 : decide (x4_1.size + 1 ≤ 9223372036854775807) = true := decide_eq_true c34
              try have c34b2 : (9223372036854775807 < x4_1.size + 1) = False := eq_false (Nat.not_lt.2 c34)
              by_cases c35 : t447.toList = (x4_1 ++ (⟨#[93]⟩ : ByteArray)).toList
              · rw [if_pos c35] at H
                have c35b0 : (t447.toList == (x4_1 ++ (⟨#[93]⟩ : ByteArray)).toList) = true := beq_iff_eq.mpr c35
                have c35b1 : (t447.toList != (x4_1 ++ (⟨#[93]⟩ : ByteArray)).toList) = false := bne_eq_false_iff_eq.mpr c35
                clear c35
                by_cases c36 : t443 = 0
                · rw [if_pos c36] at H
                  have c36b0 : (t443 == 0) = true := beq_iff_eq.mpr c36
                  have c36b1 : (t443 != 0) = false := bne_eq_false_iff_eq.mpr c36
                  clear c36
                  replace H := Option.bind_eq_some_iff.mp H
                  obtain ⟨t448, A370, H⟩ := H
                  replace H : (some t448) = some r := H
                  have A37 := Aside0.mk A370
                  clear A370
                  obtain rfl := Option.some.inj H
                  go_wp2_with (first | ((with_reducible refine gate_callee (f := 21) rfl ?_); refine gl_ (some 45) Tryz.func21 #[.slice Ao12 t434.length co12] ?_; (with_reducible refine (class_Class_String.calls _ _ t434 t441 _ ?side1 ?side2 A31.out).mono ?_); (case side1 => exact kc_ HO_3); (case side2 => exact kl_ HO_3); rintro e w38 ⟨rfl, hb⟩; (try clear A31); refine ⟨_, rfl, ?_⟩; replace HO_3 := kb_ HO_3 hb; replace HO_18 := kb_ HO_18 hb; replace HB := Aside0.mk (below_step (bl_ HB).out hb); (try clear hb); (try clear hi)) | ((with_reducible refine gate_callee (f := 19) rfl ?_); refine gl_ (some 46) Tryz.func19 #[.string t441] ?_; (with_reducible refine (class_Parse.calls k1 t441 t442 t443 t444 _ A32.out).mono ?_); rintro e w39 ⟨v445, rfl, ho0, hb⟩; refine ⟨_, rfl, ?_⟩; have HO446 := Aside0.mk (Kd.R_lower (Kd.R_new' (Kd.R_new' (Kd.R_newM (M := fun k_ => (w.heap.size ≤ k_)) ho0 (below_size (bl_ HB).out) (fun k_ h_ => h_)) (kx_ HO_3)) (kx_ HO_18)) (below_size (bl_ HB).out)); replace HO_3 := ke_ HO_3 ho0 hb; replace HO_18 := ke_ HO_18 ho0 hb; replace HB := Aside0.mk (below_step (bl_ HB).out hb); (try clear hb); (try clear ho0)) | ((with_reducible refine gate_callee (f := 21) rfl ?_); refine gl_ (some 51) Tryz.func21 #[.slice Ao12 t434.length co12] ?_; (with_reducible refine (class_Class_String.calls _ _ t434 t447 _ ?side1 ?side2 A33.out).mono ?_); (case side1 => exact kc_ HO_3); (case side2 => exact kl_ HO_3); rintro e w40 ⟨rfl, hb⟩; (try clear A33); refine ⟨_, rfl, ?_⟩; replace HO_3 := kb_ HO_3 hb; replace HO_18 := kb_ HO_18 hb; replace HO446 := kb_ HO446 hb; replace HB := Aside0.mk (below_step (bl_ HB).out hb); (try clear hb); obtain ⟨Ao41, co41, eo41⟩ := Kd.R_slice HO446.out; subst eo41) | (go_at_call 16; (with_reducible refine (class_Class_Same.calls k1 _ _ t442 _ _ t434 t448 _ ?side1 ?side2 ?side3 ?side4 A37.out).mono ?_); (case side1 => exact kc_ HO446); (case side2 => exact kl_ HO446); (case side3 => exact kc_ HO_3); (case side4 => exact kl_ HO_3); rintro e w' ⟨rfl, ⟨nd, rfl⟩⟩))
                  go_ret
                  exact ⟨ew_, (bl_ HB).out⟩
                · rw [if_neg c36] at H
                  exact absurd H (by simp)
              · rw [if_neg c35] at H
                exact absurd H (by simp)
            · rw [if_neg c34] at H
              exact absurd H (by simp)
    · replace c5 := Bool.eq_false_iff.mpr c5
      subst c5
      have H1 : (some true) = some r := by rw [if_neg (show ¬ (false = true) by decide)] at H; exact H
      clear H
      have H := H1
      clear H1
      obtain rfl := Option.some.inj H
      go_enter Tryz.func5, Tryz.ntmps5
      go_wp2_with (first | ((with_reducible refine gate_callee (f := 9) rfl ?_); refine gl_ (some 10) Tryz.func9 #[] ?_; (with_reducible refine (florinlaw10_head.calls k  true _ A2.out).mono ?_); rintro e w42 ⟨rfl, hb⟩; refine ⟨_, rfl, ?_⟩; replace HO0 := Aside0.mk (Kd.V_below (krV_ HO0) hb); replace HB := Aside0.mk (below_step (bl_ HB).out hb); (try clear hb); (try clear hi)) | ((with_reducible refine gate_dst (N := 13) rfl ?_); refine Kd.N_lit (Kd.slice 28 k28) _ 22 ?hg (N' := 13) ?hd (xs := ([l0] : List (List (S28)))) (inner := [.slice A0 l0.length c0]) (ok := (fun k_ => (P0_ k_ ∨ w.heap.size ≤ k_))) (okp := (fun k_ => (P0_ k_ ∨ w.heap.size ≤ k_))) ?hr ?hp (fun _ hk => hk) ((show ∀ k_, w42.heap.size ≤ k_ → (fun k_ => (P0_ k_ ∨ w.heap.size ≤ k_)) k_ from fun k_ hk => (.inr (Nat.le_trans (below_size (bl_ HB).out) hk))) _ (Nat.le_refl _)) (Below.refl _ _) (Nat.le_refl _) (by simp) ?_; (case hd => rfl); (case hg => rfl); (case hr => first | (go_simp; done) | (go_simp; rfl)); (case hp => exact (Reps.one (show Kd.FK (Kd.slice 28 k28) _ _ l0 [.slice A0 l0.length c0] from (Kd.FK_slice_mk (Kd.V_reads' (Kd.V_mono (ok' := (fun k_ => (P0_ k_ ∨ w.heap.size ≤ k_))) (HO0.out) (fun k_ hk => hk))).2.1 (Kd.V_F (Kd.V_mono (ok' := (fun k_ => (P0_ k_ ∨ w.heap.size ≤ k_))) (HO0.out) (fun k_ hk => hk))))) (Reps.none _ _))); intro v431 w43 ho44 hb hg_ hnew_; clear hg_ hnew_; (first | rw [← Ny430.out] at ho44 | (simp only [Int.reduceToNat] at ho44; rw [← Ny430.out] at ho44)); have HO432 := Aside0.mk (Kd.N_lower ho44 (below_size (bl_ HB).out)); replace HO0 := Aside0.mk (Kd.V_elder' (krV_ HO0) (Kd.N_base ho44) hb); replace HB := Aside0.mk (below_step (bl_ HB).out hb); clear hb ho44; obtain ⟨Ao45, co45, eo45⟩ := Kd.N_slice HO432.out; subst eo45) | ((with_reducible refine gate_callee (f := 10) rfl ?_); refine gl_ (some 14) Tryz.func10 #[.slice Ao45 y430.length co45] ?_; (with_reducible refine (florinlaw10_few.calls k _ _ y430 false _ ?side1 ?side2 A4.out).mono ?_); (case side1 => repeat (first | exact (Kd.N_reads' HO432.out).2.2 | (with_reducible refine Kd.C_alloc ?_ _) | (with_reducible refine Kd.C_drewN ?_ _) | (with_reducible refine Kd.C_drew ?_))); (case side2 => exact (Kd.N_reads' HO432.out).2.1); rintro e w' ⟨rfl, ⟨nd, rfl⟩⟩; refine ⟨_, rfl, ?_⟩))
      go_ret
      exact ⟨ew_, (bl_ HB).out⟩
  · replace c3 := Bool.eq_false_iff.mpr c3
    subst c3
    have H1 : (none) = some r := by rw [if_neg (show ¬ (false = true) by decide)] at H; exact H
    clear H
    have H := H1
    clear H1
    exact absurd H (by simp)

end Go.Proofs.YtnpohgoacbpcjaaGreatDoor.P
