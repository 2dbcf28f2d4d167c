-- written by a program of this session (wip/p2)
import Derived.Test.YtnpohgoacbpcjaaGreatDoorPx0
import Derived.Test.YtnpohgoacbpcjaaGreatDoorPx3
import Derived.Test.YtnpohgoacbpcjaaGreatDoorPx5
import Derived.Test.YtnpohgoacbpcjaaGreatDoorPx8
import Derived.Test.YtnpohgoacbpcjaaGreatDoorPx10
import Derived.Test.YtnpohgoacbpcjaaGreatDoorPx16
namespace Go.Proofs.YtnpohgoacbpcjaaGreatDoor.P
open Go.RowKit Go.Proofs.YtnpohgoacbpcjaaGreatDoorW.PrintWords Go.Proofs.YtnpohgoacbpcjaaGreatDoorW.PrintLast Go.Proofs.YtnpohgoacbpcjaaGreatDoorW.PrintMore
attribute [local go_sem] max2_int min2_int max_two min_two max_three min_three max_four min_four   -- for this text's walks alone
set_option linter.unusedVariables false
set_option linter.unusedSimpArgs false

/-! ### florinlaw10_ClassGrammar: function 4 -/
def florinlaw10_ClassGrammar.f (k : Nat) (l0 : List (S60)) (a1 : Bool) : Option (Bool) := (florinlaw10_head.f k).bind fun t377 => (if t377 = true then (if (l0.length : Int) > 20 then (some true) else ((florinlaw10_Write.f k l0 a1).bind fun bt378 => ((class_Made.f k bt378.1).bind fun t382 => (if a1 = true then ((class_Class_Not.f k t382).bind fun t385 => ((class_Parse.f k bt378.2).bind fun bt388 => (if bt388.2.1 = 0 then (if bt388.2.2 = 0 then ((class_Class_Same.f k bt388.1 t385).bind fun t393 => (some t393)) else (none)) else (none)))) else ((class_Parse.f k bt378.2).bind fun bt394 => (if bt394.2.1 = 0 then (if bt394.2.2 = 0 then ((class_Class_Same.f k bt394.1 t382).bind fun t399 => (some t399)) else (none)) else (none))))))) else (none))
theorem florinlaw10_ClassGrammar.mono : ∀ a0 a1 k, LeO (florinlaw10_ClassGrammar.f k a0 a1) (florinlaw10_ClassGrammar.f (k + 1) a0 a1) := by
  intro a0 a1 k
  unfold florinlaw10_ClassGrammar.f
  repeat' first
      | (with_reducible exact class_Class_Not.mono _ _)
      | (with_reducible exact class_Class_Same.mono _ _ _)
      | (with_reducible exact class_Made.mono _ _)
      | (with_reducible exact class_Parse.mono _ _)
      | (with_reducible exact florinlaw10_Write.mono _ _ _)
      | (with_reducible exact florinlaw10_head.mono _)
      | (with_reducible exact LeO.refl _)
      | (with_reducible exact LeO.none _)
      | (with_reducible refine LeO.ite ?_ ?_)
      | (with_reducible refine LeO.bind ?_ (fun _ => ?_))
      | exact class_Class_Not.mono _ _
      | exact class_Class_Same.mono _ _ _
      | exact class_Made.mono _ _
      | exact class_Parse.mono _ _
      | exact florinlaw10_Write.mono _ _ _
      | exact florinlaw10_head.mono _
      | exact LeO.none _
      | refine LeO.ite ?_ ?_
      | refine LeO.bind ?_ (fun _ => ?_)
set_option maxHeartbeats 64000000 in
set_option maxRecDepth 100000 in
theorem florinlaw10_ClassGrammar.calls (k : Nat) (A0 : Option Addr) (c0 : Nat) (l0 : List (S60)) (a1 : Bool) (r : Bool) (w : World) (hr0 : Kd.C k60 w A0 l0.length l0) (hc0 : l0.length ≤ c0) (h : florinlaw10_ClassGrammar.f k l0 a1 = some r) (ht : GTabs w := by first | assumption | exact gtb_ (by assumption) (bl_ (by assumption)).out) :
    Calls Tryz.prog 4 #[.slice A0 l0.length c0, .bool a1] w fun e w' => e = .returned (.bool r) ∧ Below w.heap.size w w' := by
  have HR0 := Aside0.mk hr0
  have HC0 := Aside0.mk hc0
  clear hr0 hc0
  have HB := Aside0.mk (Below.refl w.heap.size w)
  have H : ((florinlaw10_head.f k).bind fun t377 => (if t377 = true then (if (l0.length : Int) > 20 then (some true) else ((florinlaw10_Write.f k l0 a1).bind fun bt378 => ((class_Made.f k bt378.1).bind fun t382 => (if a1 = true then ((class_Class_Not.f k t382).bind fun t385 => ((class_Parse.f k bt378.2).bind fun bt388 => (if bt388.2.1 = 0 then (if bt388.2.2 = 0 then ((class_Class_Same.f k bt388.1 t385).bind fun t393 => (some t393)) else (none)) else (none)))) else ((class_Parse.f k bt378.2).bind fun bt394 => (if bt394.2.1 = 0 then (if bt394.2.2 = 0 then ((class_Class_Same.f k bt394.1 t382).bind fun t399 => (some t399)) else (none)) else (none))))))) else (none))) = some r := h
  clear h
  replace H := Option.bind_eq_some_iff.mp H
  obtain ⟨t377, A30, H⟩ := H
  replace H : (if t377 = true then (if (l0.length : Int) > 20 then (some true) else ((florinlaw10_Write.f k l0 a1).bind fun bt378 => ((class_Made.f k bt378.1).bind fun t382 => (if a1 = true then ((class_Class_Not.f k t382).bind fun t385 => ((class_Parse.f k bt378.2).bind fun bt388 => (if bt388.2.1 = 0 then (if bt388.2.2 = 0 then ((class_Class_Same.f k bt388.1 t385).bind fun t393 => (some t393)) else (none)) else (none)))) else ((class_Parse.f k bt378.2).bind fun bt394 => (if bt394.2.1 = 0 then (if bt394.2.2 = 0 then ((class_Class_Same.f k bt394.1 t382).bind fun t399 => (some t399)) else (none)) else (none))))))) else (none)) = some r := H
  have A3 := Aside0.mk A30
  clear A30
  by_cases c4 : t377 = true
  · subst c4
    have H1 : (if (l0.length : Int) > 20 then (some true) else ((florinlaw10_Write.f k l0 a1).bind fun bt378 => ((class_Made.f k bt378.1).bind fun t382 => (if a1 = true then ((class_Class_Not.f k t382).bind fun t385 => ((class_Parse.f k bt378.2).bind fun bt388 => (if bt388.2.1 = 0 then (if bt388.2.2 = 0 then ((class_Class_Same.f k bt388.1 t385).bind fun t393 => (some t393)) else (none)) else (none)))) else ((class_Parse.f k bt378.2).bind fun bt394 => (if bt394.2.1 = 0 then (if bt394.2.2 = 0 then ((class_Class_Same.f k bt394.1 t382).bind fun t399 => (some t399)) else (none)) else (none))))))) = some r := by rw [if_pos rfl] at H; exact H
    clear H
    have H := H1
    clear H1
    by_cases c5 : (l0.length : Int) > 20
    · rw [if_pos c5] at H
      have c5b0 : decide (20 < (l0.length : Int)) = true := decide_eq_true c5
      have c5b1 : decide (20 < l0.length) = true := decide_eq_true (by omega)
      clear c5
      obtain rfl := Option.some.inj H
      go_enter Tryz.func4, Tryz.ntmps4
      go_wp2_with (first | ((with_reducible refine gate_callee (f := 9) rfl ?_); refine gl_ (some 11) Tryz.func9 #[] ?_; (with_reducible refine (florinlaw10_head.calls k  true _ A3.out).mono ?_); rintro e w6 ⟨rfl, hb⟩; refine ⟨_, rfl, ?_⟩; replace HB := Aside0.mk (below_step (bl_ HB).out hb); (try clear hb); (try clear hi)))
      go_ret
      exact ⟨ew_, (bl_ HB).out⟩
    · rw [if_neg c5] at H
      have c5b0 : decide (20 < (l0.length : Int)) = false := decide_eq_false c5
      have c5b1 : decide (20 < l0.length) = false := decide_eq_false (by omega)
      clear c5
      replace H := Option.bind_eq_some_iff.mp H
      obtain ⟨⟨t378, t379⟩, A70, H⟩ := H
      replace H : ((class_Made.f k t378).bind fun t382 => (if a1 = true then ((class_Class_Not.f k t382).bind fun t385 => ((class_Parse.f k t379).bind fun bt388 => (if bt388.2.1 = 0 then (if bt388.2.2 = 0 then ((class_Class_Same.f k bt388.1 t385).bind fun t393 => (some t393)) else (none)) else (none)))) else ((class_Parse.f k t379).bind fun bt394 => (if bt394.2.1 = 0 then (if bt394.2.2 = 0 then ((class_Class_Same.f k bt394.1 t382).bind fun t399 => (some t399)) else (none)) else (none))))) = some r := H
      have A7 := Aside0.mk A70
      clear A70
      replace H := Option.bind_eq_some_iff.mp H
      obtain ⟨t382, A80, H⟩ := H
      replace H : (if a1 = true then ((class_Class_Not.f k t382).bind fun t385 => ((class_Parse.f k t379).bind fun bt388 => (if bt388.2.1 = 0 then (if bt388.2.2 = 0 then ((class_Class_Same.f k bt388.1 t385).bind fun t393 => (some t393)) else (none)) else (none)))) else ((class_Parse.f k t379).bind fun bt394 => (if bt394.2.1 = 0 then (if bt394.2.2 = 0 then ((class_Class_Same.f k bt394.1 t382).bind fun t399 => (some t399)) else (none)) else (none)))) = some r := H
      have A8 := Aside0.mk A80
      clear A80
      by_cases c9 : a1 = true
      · subst c9
        have H1 : ((class_Class_Not.f k t382).bind fun t385 => ((class_Parse.f k t379).bind fun bt388 => (if bt388.2.1 = 0 then (if bt388.2.2 = 0 then ((class_Class_Same.f k bt388.1 t385).bind fun t393 => (some t393)) else (none)) else (none)))) = some r := by rw [if_pos rfl] at H; exact H
        clear H
        have H := H1
        clear H1
        replace H := Option.bind_eq_some_iff.mp H
        obtain ⟨t385, A100, H⟩ := H
        replace H : ((class_Parse.f k t379).bind fun bt388 => (if bt388.2.1 = 0 then (if bt388.2.2 = 0 then ((class_Class_Same.f k bt388.1 t385).bind fun t393 => (some t393)) else (none)) else (none))) = some r := H
        have A10 := Aside0.mk A100
        clear A100
        replace H := Option.bind_eq_some_iff.mp H
        obtain ⟨⟨t388, t389, t390⟩, A110, H⟩ := H
        replace H : (if t389 = 0 then (if t390 = 0 then ((class_Class_Same.f k t388 t385).bind fun t393 => (some t393)) else (none)) else (none)) = some r := H
        have A11 := Aside0.mk A110
        clear A110
        by_cases c12 : t389 = 0
        · rw [if_pos c12] at H
          have c12b0 : (t389 == 0) = true := beq_iff_eq.mpr c12
          have c12b1 : (t389 != 0) = false := bne_eq_false_iff_eq.mpr c12
          clear c12
          by_cases c13 : t390 = 0
          · rw [if_pos c13] at H
            have c13b0 : (t390 == 0) = true := beq_iff_eq.mpr c13
            have c13b1 : (t390 != 0) = false := bne_eq_false_iff_eq.mpr c13
            clear c13
            replace H := Option.bind_eq_some_iff.mp H
            obtain ⟨t393, A140, H⟩ := H
            replace H : (some t393) = some r := H
            have A14 := Aside0.mk A140
            clear A140
            obtain rfl := Option.some.inj H
            go_enter Tryz.func4, Tryz.ntmps4
            go_wp2_with (first | ((with_reducible refine gate_callee (f := 9) rfl ?_); refine gl_ (some 11) Tryz.func9 #[] ?_; (with_reducible refine (florinlaw10_head.calls k  true _ A3.out).mono ?_); rintro e w15 ⟨rfl, hb⟩; refine ⟨_, rfl, ?_⟩; replace HB := Aside0.mk (below_step (bl_ HB).out hb); (try clear hb); (try clear hi)) | ((with_reducible refine gate_callee (f := 17) rfl ?_); refine gl_ (some 19) Tryz.func17 #[.slice A0 l0.length c0, .bool true] ?_; (with_reducible refine (florinlaw10_Write.calls k _ _ l0 true t378 t379 _ ?side1 ?side2 A7.out).mono ?_); (case side1 => repeat (first | exact (Kd.C_below HR0.out HB.out) | (with_reducible refine Kd.C_alloc ?_ _) | (with_reducible refine Kd.C_drewN ?_ _) | (with_reducible refine Kd.C_drew ?_))); (case side2 => exact HC0.out); rintro e w16 ⟨v380, rfl, ho0, hb⟩; refine ⟨_, rfl, ?_⟩; have HO381 := Aside0.mk (Kd.R_lower ho0 (below_size (bl_ HB).out)); replace HB := Aside0.mk (below_step (bl_ HB).out hb); (try clear hb); (try clear ho0); obtain ⟨Ao17, co17, eo17⟩ := Kd.R_slice HO381.out; subst eo17) | ((with_reducible refine gate_callee (f := 11) rfl ?_); refine gl_ (some 23) Tryz.func11 #[.slice Ao17 t378.length co17] ?_; (with_reducible refine (class_Made.calls k _ _ t378 t382 _ ?side1 ?side2 A8.out).mono ?_); (case side1 => exact kc_ HO381); (case side2 => exact kl_ HO381); rintro e w18 ⟨v383, rfl, ho0, hb⟩; refine ⟨_, rfl, ?_⟩; have HO384 := Aside0.mk (Kd.R_lower (Kd.R_new' ho0 (kx_ HO381)) (below_size (bl_ HB).out)); replace HO381 := ke_ HO381 ho0 hb; replace HB := Aside0.mk (below_step (bl_ HB).out hb); (try clear hb); (try clear ho0); obtain ⟨Ao19, co19, eo19⟩ := Kd.R_slice HO384.out; subst eo19) | ((with_reducible refine gate_callee (f := 18) rfl ?_); refine gl_ (some 26) Tryz.func18 #[.slice Ao19 t382.length co19] ?_; (with_reducible refine (class_Class_Not.calls k _ _ t382 t385 _ ?side1 ?side2 A10.out).mono ?_); (case side1 => exact kc_ HO384); (case side2 => exact kl_ HO384); rintro e w20 ⟨v386, rfl, ho0, hb⟩; refine ⟨_, rfl, ?_⟩; have HO387 := Aside0.mk (Kd.R_lower (Kd.R_new' (Kd.R_new' ho0 (kx_ HO381)) (kx_ HO384)) (below_size (bl_ HB).out)); replace HO381 := ke_ HO381 ho0 hb; replace HO384 := ke_ HO384 ho0 hb; replace HB := Aside0.mk (below_step (bl_ HB).out hb); (try clear hb); (try clear ho0)) | ((with_reducible refine gate_callee (f := 19) rfl ?_); refine gl_ (some 29) Tryz.func19 #[.string t379] ?_; (with_reducible refine (class_Parse.calls k t379 t388 t389 t390 _ A11.out).mono ?_); rintro e w21 ⟨v391, rfl, ho0, hb⟩; refine ⟨_, rfl, ?_⟩; have HO392 := Aside0.mk (Kd.R_lower (Kd.R_new' (Kd.R_new' (Kd.R_new' ho0 (kx_ HO381)) (kx_ HO384)) (kx_ HO387)) (below_size (bl_ HB).out)); replace HO381 := ke_ HO381 ho0 hb; replace HO384 := ke_ HO384 ho0 hb; replace HO387 := ke_ HO387 ho0 hb; replace HB := Aside0.mk (below_step (bl_ HB).out hb); (try clear hb); (try clear ho0); obtain ⟨Ao22, co22, eo22⟩ := Kd.R_slice HO392.out; subst eo22; obtain ⟨Ao23, co23, eo23⟩ := Kd.R_slice HO387.out; subst eo23) | (go_at_call 16; (with_reducible refine (class_Class_Same.calls k _ _ t388 _ _ t385 t393 _ ?side1 ?side2 ?side3 ?side4 A14.out).mono ?_); (case side1 => exact kc_ HO392); (case side2 => exact kl_ HO392); (case side3 => exact kc_ HO387); (case side4 => exact kl_ HO387); rintro e w' ⟨rfl, ⟨nd, rfl⟩⟩))
            go_ret
            exact ⟨ew_, (bl_ HB).out⟩
          · rw [if_neg c13] at H
            exact absurd H (by simp)
        · rw [if_neg c12] at H
          exact absurd H (by simp)
      · replace c9 := Bool.eq_false_iff.mpr c9
        subst c9
        have H1 : ((class_Parse.f k t379).bind fun bt394 => (if bt394.2.1 = 0 then (if bt394.2.2 = 0 then ((class_Class_Same.f k bt394.1 t382).bind fun t399 => (some t399)) else (none)) else (none))) = some r := by rw [if_neg (show ¬ (false = true) by decide)] at H; exact H
        clear H
        have H := H1
        clear H1
        replace H := Option.bind_eq_some_iff.mp H
        obtain ⟨⟨t394, t395, t396⟩, A240, H⟩ := H
        replace H : (if t395 = 0 then (if t396 = 0 then ((class_Class_Same.f k t394 t382).bind fun t399 => (some t399)) else (none)) else (none)) = some r := H
        have A24 := Aside0.mk A240
        clear A240
        by_cases c25 : t395 = 0
        · rw [if_pos c25] at H
          have c25b0 : (t395 == 0) = true := beq_iff_eq.mpr c25
          have c25b1 : (t395 != 0) = false := bne_eq_false_iff_eq.mpr c25
          clear c25
          by_cases c26 : t396 = 0
          · rw [if_pos c26] at H
            have c26b0 : (t396 == 0) = true := beq_iff_eq.mpr c26
            have c26b1 : (t396 != 0) = false := bne_eq_false_iff_eq.mpr c26
            clear c26
            replace H := Option.bind_eq_some_iff.mp H
            obtain ⟨t399, A270, H⟩ := H
            replace H : (some t399) = some r := H
            have A27 := Aside0.mk A270
            clear A270
            obtain rfl := Option.some.inj H
            go_enter Tryz.func4, Tryz.ntmps4
            go_wp2_with (first | ((with_reducible refine gate_callee (f := 9) rfl ?_); refine gl_ (some 11) Tryz.func9 #[] ?_; (with_reducible refine (florinlaw10_head.calls k  true _ A3.out).mono ?_); rintro e w28 ⟨rfl, hb⟩; refine ⟨_, rfl, ?_⟩; replace HB := Aside0.mk (below_step (bl_ HB).out hb); (try clear hb); (try clear hi)) | ((with_reducible refine gate_callee (f := 17) rfl ?_); refine gl_ (some 19) Tryz.func17 #[.slice A0 l0.length c0, .bool false] ?_; (with_reducible refine (florinlaw10_Write.calls k _ _ l0 false t378 t379 _ ?side1 ?side2 A7.out).mono ?_); (case side1 => repeat (first | exact (Kd.C_below HR0.out HB.out) | (with_reducible refine Kd.C_alloc ?_ _) | (with_reducible refine Kd.C_drewN ?_ _) | (with_reducible refine Kd.C_drew ?_))); (case side2 => exact HC0.out); rintro e w29 ⟨v380, rfl, ho0, hb⟩; refine ⟨_, rfl, ?_⟩; have HO381 := Aside0.mk (Kd.R_lower ho0 (below_size (bl_ HB).out)); replace HB := Aside0.mk (below_step (bl_ HB).out hb); (try clear hb); (try clear ho0); obtain ⟨Ao30, co30, eo30⟩ := Kd.R_slice HO381.out; subst eo30) | ((with_reducible refine gate_callee (f := 11) rfl ?_); refine gl_ (some 23) Tryz.func11 #[.slice Ao30 t378.length co30] ?_; (with_reducible refine (class_Made.calls k _ _ t378 t382 _ ?side1 ?side2 A8.out).mono ?_); (case side1 => exact kc_ HO381); (case side2 => exact kl_ HO381); rintro e w31 ⟨v383, rfl, ho0, hb⟩; refine ⟨_, rfl, ?_⟩; have HO384 := Aside0.mk (Kd.R_lower (Kd.R_new' ho0 (kx_ HO381)) (below_size (bl_ HB).out)); replace HO381 := ke_ HO381 ho0 hb; replace HB := Aside0.mk (below_step (bl_ HB).out hb); (try clear hb); (try clear ho0)) | ((with_reducible refine gate_callee (f := 19) rfl ?_); refine gl_ (some 29) Tryz.func19 #[.string t379] ?_; (with_reducible refine (class_Parse.calls k t379 t394 t395 t396 _ A24.out).mono ?_); rintro e w32 ⟨v397, rfl, ho0, hb⟩; refine ⟨_, rfl, ?_⟩; have HO398 := Aside0.mk (Kd.R_lower (Kd.R_new' (Kd.R_new' ho0 (kx_ HO381)) (kx_ HO384)) (below_size (bl_ HB).out)); replace HO381 := ke_ HO381 ho0 hb; replace HO384 := ke_ HO384 ho0 hb; replace HB := Aside0.mk (below_step (bl_ HB).out hb); (try clear hb); (try clear ho0); obtain ⟨Ao33, co33, eo33⟩ := Kd.R_slice HO398.out; subst eo33; obtain ⟨Ao34, co34, eo34⟩ := Kd.R_slice HO384.out; subst eo34) | (go_at_call 16; (with_reducible refine (class_Class_Same.calls k _ _ t394 _ _ t382 t399 _ ?side1 ?side2 ?side3 ?side4 A27.out).mono ?_); (case side1 => exact kc_ HO398); (case side2 => exact kl_ HO398); (case side3 => exact kc_ HO384); (case side4 => exact kl_ HO384); rintro e w' ⟨rfl, ⟨nd, rfl⟩⟩))
            go_ret
            exact ⟨ew_, (bl_ HB).out⟩
          · rw [if_neg c26] at H
            exact absurd H (by simp)
        · rw [if_neg c25] at H
          exact absurd H (by simp)
  · replace c4 := Bool.eq_false_iff.mpr c4
    subst c4
    have H1 : (none) = some r := by rw [if_neg (show ¬ (false = true) by decide)] at H; exact H
    clear H
    have H := H1
    clear H1
    exact absurd H (by simp)

end Go.Proofs.YtnpohgoacbpcjaaGreatDoor.P
