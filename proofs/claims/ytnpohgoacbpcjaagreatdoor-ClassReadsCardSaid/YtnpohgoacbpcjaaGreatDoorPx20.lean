-- written by a program of this session (wip/p2)
import Derived.Test.YtnpohgoacbpcjaaGreatDoorPx0
import Derived.Test.YtnpohgoacbpcjaaGreatDoorPx5
import Derived.Test.YtnpohgoacbpcjaaGreatDoorPx8
import Derived.Test.YtnpohgoacbpcjaaGreatDoorPx9
import Derived.Test.YtnpohgoacbpcjaaGreatDoorPx10
namespace Go.Proofs.YtnpohgoacbpcjaaGreatDoor.P
open Go.RowKit Go.Proofs.YtnpohgoacbpcjaaGreatDoorW.PrintWords Go.Proofs.YtnpohgoacbpcjaaGreatDoorW.PrintLast Go.Proofs.YtnpohgoacbpcjaaGreatDoorW.PrintMore
attribute [local go_sem] max2_int min2_int max_two min_two max_three min_three max_four min_four   -- for this text's walks alone
set_option linter.unusedVariables false
set_option linter.unusedSimpArgs false

/-! ### florinlaw10_ClassReads: function 6 -/
def florinlaw10_ClassReads.f (k : Nat) (a0 : ByteArray) : Option (Bool) := (florinlaw10_head.f k).bind fun t449 => (if t449 = true then (if (a0.size : Int) > 100 then (some true) else ((class_Parse.f k a0).bind fun bt450 => (if bt450.2.1 = 0 then ((class_Class_String.f bt450.1).bind fun t455 => ((class_Parse.f k t455).bind fun bt456 => ((florinlaw10_settled.f k bt450.1).bind fun t461 => (if t461 = true then (if bt456.2.1 = 0 then ((class_Class_Same.f k bt456.1 bt450.1).bind fun t462 => (some t462)) else (none)) else (none))))) else (if bt450.2.1 = 1 then (if (bt450.1.length : Int) = 0 then (if bt450.2.2 ≥ 0 then (some (decide (bt450.2.2 ≤ (a0.size : Int)))) else (none)) else (none)) else (none))))) else (none))
theorem florinlaw10_ClassReads.mono : ∀ a0 k, LeO (florinlaw10_ClassReads.f k a0) (florinlaw10_ClassReads.f (k + 1) a0) := by
  intro a0 k
  unfold florinlaw10_ClassReads.f
  repeat' first
      | (with_reducible exact class_Class_Same.mono _ _ _)
      | (with_reducible exact class_Parse.mono _ _)
      | (with_reducible exact florinlaw10_head.mono _)
      | (with_reducible exact florinlaw10_settled.mono _ _)
      | (with_reducible exact LeO.refl _)
      | (with_reducible exact LeO.none _)
      | (with_reducible refine LeO.ite ?_ ?_)
      | (with_reducible refine LeO.bind ?_ (fun _ => ?_))
      | exact class_Class_Same.mono _ _ _
      | exact class_Parse.mono _ _
      | exact florinlaw10_head.mono _
      | exact florinlaw10_settled.mono _ _
      | exact LeO.none _
      | refine LeO.ite ?_ ?_
      | refine LeO.bind ?_ (fun _ => ?_)
set_option maxHeartbeats 64000000 in
set_option maxRecDepth 100000 in
theorem florinlaw10_ClassReads.calls (k : Nat) (a0 : ByteArray) (r : Bool) (w : World) (h : florinlaw10_ClassReads.f k a0 = some r) (ht : GTabs w := by first | assumption | exact gtb_ (by assumption) (bl_ (by assumption)).out) :
    Calls Tryz.prog 6 #[.string a0] w fun e w' => e = .returned (.bool r) ∧ Below w.heap.size w w' := by
  have HB := Aside0.mk (Below.refl w.heap.size w)
  have H : ((florinlaw10_head.f k).bind fun t449 => (if t449 = true then (if (a0.size : Int) > 100 then (some true) else ((class_Parse.f k a0).bind fun bt450 => (if bt450.2.1 = 0 then ((class_Class_String.f bt450.1).bind fun t455 => ((class_Parse.f k t455).bind fun bt456 => ((florinlaw10_settled.f k bt450.1).bind fun t461 => (if t461 = true then (if bt456.2.1 = 0 then ((class_Class_Same.f k bt456.1 bt450.1).bind fun t462 => (some t462)) else (none)) else (none))))) else (if bt450.2.1 = 1 then (if (bt450.1.length : Int) = 0 then (if bt450.2.2 ≥ 0 then (some (decide (bt450.2.2 ≤ (a0.size : Int)))) else (none)) else (none)) else (none))))) else (none))) = some r := h
  clear h
  replace H := Option.bind_eq_some_iff.mp H
  obtain ⟨t449, A20, H⟩ := H
  replace H : (if t449 = true then (if (a0.size : Int) > 100 then (some true) else ((class_Parse.f k a0).bind fun bt450 => (if bt450.2.1 = 0 then ((class_Class_String.f bt450.1).bind fun t455 => ((class_Parse.f k t455).bind fun bt456 => ((florinlaw10_settled.f k bt450.1).bind fun t461 => (if t461 = true then (if bt456.2.1 = 0 then ((class_Class_Same.f k bt456.1 bt450.1).bind fun t462 => (some t462)) else (none)) else (none))))) else (if bt450.2.1 = 1 then (if (bt450.1.length : Int) = 0 then (if bt450.2.2 ≥ 0 then (some (decide (bt450.2.2 ≤ (a0.size : Int)))) else (none)) else (none)) else (none))))) else (none)) = some r := H
  have A2 := Aside0.mk A20
  clear A20
  by_cases c3 : t449 = true
  · subst c3
    have H1 : (if (a0.size : Int) > 100 then (some true) else ((class_Parse.f k a0).bind fun bt450 => (if bt450.2.1 = 0 then ((class_Class_String.f bt450.1).bind fun t455 => ((class_Parse.f k t455).bind fun bt456 => ((florinlaw10_settled.f k bt450.1).bind fun t461 => (if t461 = true then (if bt456.2.1 = 0 then ((class_Class_Same.f k bt456.1 bt450.1).bind fun t462 => (some t462)) else (none)) else (none))))) else (if bt450.2.1 = 1 then (if (bt450.1.length : Int) = 0 then (if bt450.2.2 ≥ 0 then (some (decide (bt450.2.2 ≤ (a0.size : Int)))) else (none)) else (none)) else (none))))) = some r := by rw [if_pos rfl] at H; exact H
    clear H
    have H := H1
    clear H1
    by_cases c4 : (a0.size : Int) > 100
    · rw [if_pos c4] at H
      have c4b0 : decide (100 < (a0.size : Int)) = true := decide_eq_true c4
      have c4b1 : decide (100 < a0.size) = true := decide_eq_true (by omega)
      clear c4
      obtain rfl := Option.some.inj H
      go_enter Tryz.func6, Tryz.ntmps6
      go_wp2_with (first | ((with_reducible refine gate_callee (f := 9) rfl ?_); refine gl_ (some 9) Tryz.func9 #[] ?_; (with_reducible refine (florinlaw10_head.calls k  true _ A2.out).mono ?_); rintro e w5 ⟨rfl, hb⟩; refine ⟨_, rfl, ?_⟩; replace HB := Aside0.mk (below_step (bl_ HB).out hb); (try clear hb); (try clear hi)))
      go_ret
      exact ⟨ew_, (bl_ HB).out⟩
    · rw [if_neg c4] at H
      have c4b0 : decide (100 < (a0.size : Int)) = false := decide_eq_false c4
      have c4b1 : decide (100 < a0.size) = false := decide_eq_false (by omega)
      clear c4
      replace H := Option.bind_eq_some_iff.mp H
      obtain ⟨⟨t450, t451, t452⟩, A60, H⟩ := H
      replace H : (if t451 = 0 then ((class_Class_String.f t450).bind fun t455 => ((class_Parse.f k t455).bind fun bt456 => ((florinlaw10_settled.f k t450).bind fun t461 => (if t461 = true then (if bt456.2.1 = 0 then ((class_Class_Same.f k bt456.1 t450).bind fun t462 => (some t462)) else (none)) else (none))))) else (if t451 = 1 then (if (t450.length : Int) = 0 then (if t452 ≥ 0 then (some (decide (t452 ≤ (a0.size : Int)))) else (none)) else (none)) else (none))) = some r := H
      have A6 := Aside0.mk A60
      clear A60
      by_cases c7 : t451 = 0
      · rw [if_pos c7] at H
        have c7b0 : (t451 == 0) = true := beq_iff_eq.mpr c7
        have c7b1 : (t451 != 0) = false := bne_eq_false_iff_eq.mpr c7
        clear c7
        replace H := Option.bind_eq_some_iff.mp H
        obtain ⟨t455, A80, H⟩ := H
        replace H : ((class_Parse.f k t455).bind fun bt456 => ((florinlaw10_settled.f k t450).bind fun t461 => (if t461 = true then (if bt456.2.1 = 0 then ((class_Class_Same.f k bt456.1 t450).bind fun t462 => (some t462)) else (none)) else (none)))) = some r := H
        have A8 := Aside0.mk A80
        clear A80
        replace H := Option.bind_eq_some_iff.mp H
        obtain ⟨⟨t456, t457, t458⟩, A90, H⟩ := H
        replace H : ((florinlaw10_settled.f k t450).bind fun t461 => (if t461 = true then (if t457 = 0 then ((class_Class_Same.f k t456 t450).bind fun t462 => (some t462)) else (none)) else (none))) = some r := H
        have A9 := Aside0.mk A90
        clear A90
        replace H := Option.bind_eq_some_iff.mp H
        obtain ⟨t461, A100, H⟩ := H
        replace H : (if t461 = true then (if t457 = 0 then ((class_Class_Same.f k t456 t450).bind fun t462 => (some t462)) else (none)) else (none)) = some r := H
        have A10 := Aside0.mk A100
        clear A100
        by_cases c11 : t461 = true
        · subst c11
          have H1 : (if t457 = 0 then ((class_Class_Same.f k t456 t450).bind fun t462 => (some t462)) else (none)) = some r := by rw [if_pos rfl] at H; exact H
          clear H
          have H := H1
          clear H1
          by_cases c12 : t457 = 0
          · rw [if_pos c12] at H
            have c12b0 : (t457 == 0) = true := beq_iff_eq.mpr c12
            have c12b1 : (t457 != 0) = false := bne_eq_false_iff_eq.mpr c12
            clear c12
            replace H := Option.bind_eq_some_iff.mp H
            obtain ⟨t462, A130, H⟩ := H
            replace H : (some t462) = some r := H
            have A13 := Aside0.mk A130
            clear A130
            obtain rfl := Option.some.inj H
            go_enter Tryz.func6, Tryz.ntmps6
            go_wp2_with (first | ((with_reducible refine gate_callee (f := 9) rfl ?_); refine gl_ (some 9) Tryz.func9 #[] ?_; (with_reducible refine (florinlaw10_head.calls k  true _ A2.out).mono ?_); rintro e w14 ⟨rfl, hb⟩; refine ⟨_, rfl, ?_⟩; replace HB := Aside0.mk (below_step (bl_ HB).out hb); (try clear hb); (try clear hi)) | ((with_reducible refine gate_callee (f := 19) rfl ?_); refine gl_ (some 16) Tryz.func19 #[.string a0] ?_; (with_reducible refine (class_Parse.calls k a0 t450 t451 t452 _ A6.out).mono ?_); rintro e w15 ⟨v453, rfl, ho0, hb⟩; refine ⟨_, rfl, ?_⟩; have HO454 := Aside0.mk (Kd.R_lower ho0 (below_size (bl_ HB).out)); replace HB := Aside0.mk (below_step (bl_ HB).out hb); (try clear hb); (try clear ho0); obtain ⟨Ao16, co16, eo16⟩ := Kd.R_slice HO454.out; subst eo16) | ((with_reducible refine gate_callee (f := 21) rfl ?_); refine gl_ (some 41) Tryz.func21 #[.slice Ao16 t450.length co16] ?_; (with_reducible refine (class_Class_String.calls _ _ t450 t455 _ ?side1 ?side2 A8.out).mono ?_); (case side1 => exact kc_ HO454); (case side2 => exact kl_ HO454); rintro e w17 ⟨rfl, hb⟩; refine ⟨_, rfl, ?_⟩; replace HO454 := kb_ HO454 hb; replace HB := Aside0.mk (below_step (bl_ HB).out hb); (try clear hb); (try clear hi)) | ((with_reducible refine gate_callee (f := 19) rfl ?_); refine gl_ (some 42) Tryz.func19 #[.string t455] ?_; (with_reducible refine (class_Parse.calls k t455 t456 t457 t458 _ A9.out).mono ?_); rintro e w18 ⟨v459, rfl, ho0, hb⟩; refine ⟨_, rfl, ?_⟩; have HO460 := Aside0.mk (Kd.R_lower (Kd.R_new' ho0 (kx_ HO454)) (below_size (bl_ HB).out)); replace HO454 := ke_ HO454 ho0 hb; replace HB := Aside0.mk (below_step (bl_ HB).out hb); (try clear hb); (try clear ho0)) | ((with_reducible refine gate_callee (f := 15) rfl ?_); refine gl_ (some 47) Tryz.func15 #[.slice Ao16 t450.length co16] ?_; (with_reducible refine (florinlaw10_settled.calls k _ _ t450 true _ ?side1 ?side2 A10.out).mono ?_); (case side1 => exact kc_ HO454); (case side2 => exact kl_ HO454); rintro e w19 ⟨rfl, hb⟩; refine ⟨_, rfl, ?_⟩; replace HO454 := kb_ HO454 hb; replace HO460 := kb_ HO460 hb; replace HB := Aside0.mk (below_step (bl_ HB).out hb); (try clear hb); obtain ⟨Ao20, co20, eo20⟩ := Kd.R_slice HO460.out; subst eo20) | (go_at_call 16; (with_reducible refine (class_Class_Same.calls k _ _ t456 _ _ t450 t462 _ ?side1 ?side2 ?side3 ?side4 A13.out).mono ?_); (case side1 => exact kc_ HO460); (case side2 => exact kl_ HO460); (case side3 => exact kc_ HO454); (case side4 => exact kl_ HO454); rintro e w' ⟨rfl, ⟨nd, rfl⟩⟩))
            go_ret
            exact ⟨ew_, (bl_ HB).out⟩
          · rw [if_neg c12] at H
            exact absurd H (by simp)
        · replace c11 := Bool.eq_false_iff.mpr c11
          subst c11
          have H1 : (none) = some r := by rw [if_neg (show ¬ (false = true) by decide)] at H; exact H
          clear H
          have H := H1
          clear H1
          exact absurd H (by simp)
      · rw [if_neg c7] at H
        have c7b0 : (t451 == 0) = false := beq_eq_false_iff_ne.mpr c7
        have c7b1 : (t451 != 0) = true := bne_iff_ne.mpr c7
        by_cases c21 : t451 = 1
        · rw [if_pos c21] at H
          have c21b0 : (t451 == 1) = true := beq_iff_eq.mpr c21
          have c21b1 : (t451 != 1) = false := bne_eq_false_iff_eq.mpr c21
          clear c21
          by_cases c22 : (t450.length : Int) = 0
          · rw [if_pos c22] at H
            have c22b0 : ((t450.length : Int) == 0) = true := beq_iff_eq.mpr c22
            have c22b1 : ((t450.length : Int) != 0) = false := bne_eq_false_iff_eq.mpr c22
            clear c22
            by_cases c23 : t452 ≥ 0
            · rw [if_pos c23] at H
              have c23b0 : decide (0 ≤ t452) = true := decide_eq_true c23
              clear c23
              obtain rfl := Option.some.inj H
              go_enter Tryz.func6, Tryz.ntmps6
              go_wp2_with (first | ((with_reducible refine gate_callee (f := 9) rfl ?_); refine gl_ (some 9) Tryz.func9 #[] ?_; (with_reducible refine (florinlaw10_head.calls k  true _ A2.out).mono ?_); rintro e w24 ⟨rfl, hb⟩; refine ⟨_, rfl, ?_⟩; replace HB := Aside0.mk (below_step (bl_ HB).out hb); (try clear hb); (try clear hi)) | ((with_reducible refine gate_callee (f := 19) rfl ?_); refine gl_ (some 16) Tryz.func19 #[.string a0] ?_; (with_reducible refine (class_Parse.calls k a0 t450 t451 t452 _ A6.out).mono ?_); rintro e w25 ⟨v453, rfl, ho0, hb⟩; refine ⟨_, rfl, ?_⟩; have HO454 := Aside0.mk (Kd.R_lower ho0 (below_size (bl_ HB).out)); replace HB := Aside0.mk (below_step (bl_ HB).out hb); (try clear hb); (try clear ho0); obtain ⟨Ao26, co26, eo26⟩ := Kd.R_slice HO454.out; subst eo26))
              go_ret
              exact ⟨ew_, (bl_ HB).out⟩
            · rw [if_neg c23] at H
              exact absurd H (by simp)
          · rw [if_neg c22] at H
            exact absurd H (by simp)
        · rw [if_neg c21] at H
          exact absurd H (by simp)
  · replace c3 := Bool.eq_false_iff.mpr c3
    subst c3
    have H1 : (none) = some r := by rw [if_neg (show ¬ (false = true) by decide)] at H; exact H
    clear H
    have H := H1
    clear H1
    exact absurd H (by simp)

/-- THE ONE PURE STATEMENT of florinlaw10_ClassReads: yours. -/
def florinlaw10_ClassReads.Pure : Prop := ∀ (a0 : ByteArray), a0.size ≤ 140737488351232 → ∃ k, florinlaw10_ClassReads.f k a0 = some true
theorem florinlaw10_ClassReads.walk (P : florinlaw10_ClassReads.Pure) (a0 : ByteArray) (w : World) (w0 : a0.size ≤ 140737488351232) (ht : GTabs w) :
    Calls Tryz.prog 6 #[.string a0] w fun e w' => e = .returned (.bool true) ∧ Below w.heap.size w w' := by
  obtain ⟨k, h⟩ := P a0 w0
  refine (florinlaw10_ClassReads.calls k a0 true w h).mono ?_
  rintro e w' ⟨rfl, hd⟩
  exact ⟨rfl, hd⟩

end Go.Proofs.YtnpohgoacbpcjaaGreatDoor.P
