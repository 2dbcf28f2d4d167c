-- written by a program of this session (wip/p2)
import Derived.Test.YtnpohgoacbpcjaaDoorPx0
import Derived.Test.YtnpohgoacbpcjaaDoorPx2
import Derived.Test.YtnpohgoacbpcjaaDoorPx6
namespace Go.Proofs.YtnpohgoacbpcjaaDoor.P
open Go.RowKit Go.Proofs.YtnpohgoacbpcjaaDoorW.PrintWords Go.Proofs.YtnpohgoacbpcjaaDoorW.PrintLast Go.Proofs.YtnpohgoacbpcjaaDoorW.PrintMore
attribute [local go_sem] max2_int min2_int max_two min_two max_three min_three max_four min_four   -- for this text's walks alone
set_option linter.unusedVariables false
set_option linter.unusedSimpArgs false

/-! ### florinlaw10_head: function 4 -/
def florinlaw10_head.f (k : Nat)  : Option (Bool) := (class_Parse.f k (⟨#[91, 97, 45, 99, 32, 120, 93]⟩ : ByteArray)).bind fun bt252 => (if bt252.2.1 = 0 then ((class_Class_Has.f bt252.1 97).bind fun t257 => (if t257 = true then ((class_Class_Has.f bt252.1 120).bind fun t258 => (if t258 = true then ((class_Class_Has.f bt252.1 100).bind fun t259 => (if t259 = true then (some false) else ((class_Class_String.f bt252.1).bind fun t260 => (some (t260.toList == ([91, 97, 45, 99, 120, 93] : List UInt8)))))) else (some false))) else (some false))) else (some false))
theorem florinlaw10_head.mono : ∀ k, LeO (florinlaw10_head.f k ) (florinlaw10_head.f (k + 1) ) := by
  intro  k
  unfold florinlaw10_head.f
  repeat' first
      | (with_reducible exact class_Parse.mono _ _)
      | (with_reducible exact LeO.refl _)
      | (with_reducible exact LeO.none _)
      | (with_reducible refine LeO.ite ?_ ?_)
      | (with_reducible refine LeO.bind ?_ (fun _ => ?_))
      | exact class_Parse.mono _ _
      | exact LeO.none _
      | refine LeO.ite ?_ ?_
      | refine LeO.bind ?_ (fun _ => ?_)
set_option maxHeartbeats 64000000 in
set_option maxRecDepth 100000 in
theorem florinlaw10_head.calls (k : Nat)  (r : Bool) (w : World) (h : florinlaw10_head.f k  = some r) (ht : GTabs w := by first | assumption | exact gtb_ (by assumption) (bl_ (by assumption)).out) :
    Calls Tryd.prog 4 #[] w fun e w' => e = .returned (.bool r) ∧ Below w.heap.size w w' := by
  have HB := Aside0.mk (Below.refl w.heap.size w)
  have H : ((class_Parse.f k (⟨#[91, 97, 45, 99, 32, 120, 93]⟩ : ByteArray)).bind fun bt252 => (if bt252.2.1 = 0 then ((class_Class_Has.f bt252.1 97).bind fun t257 => (if t257 = true then ((class_Class_Has.f bt252.1 120).bind fun t258 => (if t258 = true then ((class_Class_Has.f bt252.1 100).bind fun t259 => (if t259 = true then (some false) else ((class_Class_String.f bt252.1).bind fun t260 => (some (t260.toList == ([91, 97, 45, 99, 120, 93] : List UInt8)))))) else (some false))) else (some false))) else (some false))) = some r := h
  clear h
  replace H := Option.bind_eq_some_iff.mp H
  obtain ⟨⟨t252, t253, t254⟩, A10, H⟩ := H
  replace H : (if t253 = 0 then ((class_Class_Has.f t252 97).bind fun t257 => (if t257 = true then ((class_Class_Has.f t252 120).bind fun t258 => (if t258 = true then ((class_Class_Has.f t252 100).bind fun t259 => (if t259 = true then (some false) else ((class_Class_String.f t252).bind fun t260 => (some (t260.toList == ([91, 97, 45, 99, 120, 93] : List UInt8)))))) else (some false))) else (some false))) else (some false)) = some r := H
  have A1 := Aside0.mk A10
  clear A10
  by_cases c2 : t253 = 0
  · rw [if_pos c2] at H
    have c2b0 : (t253 == 0) = true := beq_iff_eq.mpr c2
    have c2b1 : (t253 != 0) = false := bne_eq_false_iff_eq.mpr c2
    clear c2
    replace H := Option.bind_eq_some_iff.mp H
    obtain ⟨t257, A30, H⟩ := H
    replace H : (if t257 = true then ((class_Class_Has.f t252 120).bind fun t258 => (if t258 = true then ((class_Class_Has.f t252 100).bind fun t259 => (if t259 = true then (some false) else ((class_Class_String.f t252).bind fun t260 => (some (t260.toList == ([91, 97, 45, 99, 120, 93] : List UInt8)))))) else (some false))) else (some false)) = some r := H
    have A3 := Aside0.mk A30
    clear A30
    by_cases c4 : t257 = true
    · subst c4
      have H1 : ((class_Class_Has.f t252 120).bind fun t258 => (if t258 = true then ((class_Class_Has.f t252 100).bind fun t259 => (if t259 = true then (some false) else ((class_Class_String.f t252).bind fun t260 => (some (t260.toList == ([91, 97, 45, 99, 120, 93] : List UInt8)))))) else (some false))) = some r := by rw [if_pos rfl] at H; exact H
      clear H
      have H := H1
      clear H1
      replace H := Option.bind_eq_some_iff.mp H
      obtain ⟨t258, A50, H⟩ := H
      replace H : (if t258 = true then ((class_Class_Has.f t252 100).bind fun t259 => (if t259 = true then (some false) else ((class_Class_String.f t252).bind fun t260 => (some (t260.toList == ([91, 97, 45, 99, 120, 93] : List UInt8)))))) else (some false)) = some r := H
      have A5 := Aside0.mk A50
      clear A50
      by_cases c6 : t258 = true
      · subst c6
        have H1 : ((class_Class_Has.f t252 100).bind fun t259 => (if t259 = true then (some false) else ((class_Class_String.f t252).bind fun t260 => (some (t260.toList == ([91, 97, 45, 99, 120, 93] : List UInt8)))))) = some r := by rw [if_pos rfl] at H; exact H
        clear H
        have H := H1
        clear H1
        replace H := Option.bind_eq_some_iff.mp H
        obtain ⟨t259, A70, H⟩ := H
        replace H : (if t259 = true then (some false) else ((class_Class_String.f t252).bind fun t260 => (some (t260.toList == ([91, 97, 45, 99, 120, 93] : List UInt8))))) = some r := H
        have A7 := Aside0.mk A70
        clear A70
        by_cases c8 : t259 = true
        · subst c8
          have H1 : (some false) = some r := by rw [if_pos rfl] at H; exact H
          clear H
          have H := H1
          clear H1
          obtain rfl := Option.some.inj H
          go_enter Tryd.func4, Tryd.ntmps4
          go_wp2_with (first | ((with_reducible refine gate_callee (f := 5) rfl ?_); refine gl_ (some 5) Tryd.func5 #[.string (⟨#[91, 97, 45, 99, 32, 120, 93]⟩ : ByteArray)] ?_; (with_reducible refine (class_Parse.calls k (⟨#[91, 97, 45, 99, 32, 120, 93]⟩ : ByteArray) t252 t253 t254 _ A1.out).mono ?_); rintro e w9 ⟨v255, rfl, ho0, hb⟩; refine ⟨_, rfl, ?_⟩; have HO256 := Aside0.mk (Kd.R_lower ho0 (below_size (bl_ HB).out)); replace HB := Aside0.mk (below_step (bl_ HB).out hb); (try clear hb); (try clear ho0); obtain ⟨Ao10, co10, eo10⟩ := Kd.R_slice HO256.out; subst eo10) | (go_at_call 6; (with_reducible refine (class_Class_Has.calls _ _ t252 97 true _ ?side1 ?side2 A3.out).mono ?_); (case side1 => exact kc_ HO256); (case side2 => exact kl_ HO256); rintro e w11 ⟨rfl, hb⟩; replace HO256 := kb_ HO256 hb; replace HB := Aside0.mk (below_step (bl_ HB).out hb); (try clear hb); (try clear hi)) | (go_at_call 6; (with_reducible refine (class_Class_Has.calls _ _ t252 120 true _ ?side1 ?side2 A5.out).mono ?_); (case side1 => exact kc_ HO256); (case side2 => exact kl_ HO256); rintro e w12 ⟨rfl, hb⟩; replace HO256 := kb_ HO256 hb; replace HB := Aside0.mk (below_step (bl_ HB).out hb); (try clear hb); (try clear hi)) | (go_at_call 6; (with_reducible refine (class_Class_Has.calls _ _ t252 100 true _ ?side1 ?side2 A7.out).mono ?_); (case side1 => exact kc_ HO256); (case side2 => exact kl_ HO256); rintro e w13 ⟨rfl, hb⟩; replace HO256 := kb_ HO256 hb; replace HB := Aside0.mk (below_step (bl_ HB).out hb); (try clear hb); (try clear hi)))
          go_ret
          exact ⟨ew_, (bl_ HB).out⟩
        · replace c8 := Bool.eq_false_iff.mpr c8
          subst c8
          have H1 : ((class_Class_String.f t252).bind fun t260 => (some (t260.toList == ([91, 97, 45, 99, 120, 93] : List UInt8)))) = some r := by rw [if_neg (show ¬ (false = true) by decide)] at H; exact H
          clear H
          have H := H1
          clear H1
          replace H := Option.bind_eq_some_iff.mp H
          obtain ⟨t260, A140, H⟩ := H
          replace H : (some (t260.toList == ([91, 97, 45, 99, 120, 93] : List UInt8))) = some r := H
          have A14 := Aside0.mk A140
          clear A140
          obtain rfl := Option.some.inj H
          go_enter Tryd.func4, Tryd.ntmps4
          go_wp2_with (first | ((with_reducible refine gate_callee (f := 5) rfl ?_); refine gl_ (some 5) Tryd.func5 #[.string (⟨#[91, 97, 45, 99, 32, 120, 93]⟩ : ByteArray)] ?_; (with_reducible refine (class_Parse.calls k (⟨#[91, 97, 45, 99, 32, 120, 93]⟩ : ByteArray) t252 t253 t254 _ A1.out).mono ?_); rintro e w15 ⟨v255, rfl, ho0, hb⟩; refine ⟨_, rfl, ?_⟩; have HO256 := Aside0.mk (Kd.R_lower ho0 (below_size (bl_ HB).out)); replace HB := Aside0.mk (below_step (bl_ HB).out hb); (try clear hb); (try clear ho0); obtain ⟨Ao16, co16, eo16⟩ := Kd.R_slice HO256.out; subst eo16) | (go_at_call 6; (with_reducible refine (class_Class_Has.calls _ _ t252 97 true _ ?side1 ?side2 A3.out).mono ?_); (case side1 => exact kc_ HO256); (case side2 => exact kl_ HO256); rintro e w17 ⟨rfl, hb⟩; replace HO256 := kb_ HO256 hb; replace HB := Aside0.mk (below_step (bl_ HB).out hb); (try clear hb); (try clear hi)) | (go_at_call 6; (with_reducible refine (class_Class_Has.calls _ _ t252 120 true _ ?side1 ?side2 A5.out).mono ?_); (case side1 => exact kc_ HO256); (case side2 => exact kl_ HO256); rintro e w18 ⟨rfl, hb⟩; replace HO256 := kb_ HO256 hb; replace HB := Aside0.mk (below_step (bl_ HB).out hb); (try clear hb); (try clear hi)) | (go_at_call 6; (with_reducible refine (class_Class_Has.calls _ _ t252 100 false _ ?side1 ?side2 A7.out).mono ?_); (case side1 => exact kc_ HO256); (case side2 => exact kl_ HO256); rintro e w19 ⟨rfl, hb⟩; replace HO256 := kb_ HO256 hb; replace HB := Aside0.mk (below_step (bl_ HB).out hb); (try clear hb); (try clear hi)) | (go_at_call 7; (with_reducible refine (class_Class_String.calls _ _ t252 t260 _ ?side1 ?side2 A14.out).mono ?_); (case side1 => exact kc_ HO256); (case side2 => exact kl_ HO256); rintro e w20 ⟨rfl, hb⟩; replace HO256 := kb_ HO256 hb; replace HB := Aside0.mk (below_step (bl_ HB).out hb); (try clear hb); (try clear hi)))
          go_ret
          exact ⟨ew_, (bl_ HB).out⟩
      · replace c6 := Bool.eq_false_iff.mpr c6
        subst c6
        have H1 : (some false) = some r := by rw [if_neg (show ¬ (false = true) by decide)] at H; exact H
        clear H
        have H := H1
        clear H1
        obtain rfl := Option.some.inj H
        go_enter Tryd.func4, Tryd.ntmps4
        go_wp2_with (first | ((with_reducible refine gate_callee (f := 5) rfl ?_); refine gl_ (some 5) Tryd.func5 #[.string (⟨#[91, 97, 45, 99, 32, 120, 93]⟩ : ByteArray)] ?_; (with_reducible refine (class_Parse.calls k (⟨#[91, 97, 45, 99, 32, 120, 93]⟩ : ByteArray) t252 t253 t254 _ A1.out).mono ?_); rintro e w21 ⟨v255, rfl, ho0, hb⟩; refine ⟨_, rfl, ?_⟩; have HO256 := Aside0.mk (Kd.R_lower ho0 (below_size (bl_ HB).out)); replace HB := Aside0.mk (below_step (bl_ HB).out hb); (try clear hb); (try clear ho0); obtain ⟨Ao22, co22, eo22⟩ := Kd.R_slice HO256.out; subst eo22) | (go_at_call 6; (with_reducible refine (class_Class_Has.calls _ _ t252 97 true _ ?side1 ?side2 A3.out).mono ?_); (case side1 => exact kc_ HO256); (case side2 => exact kl_ HO256); rintro e w23 ⟨rfl, hb⟩; replace HO256 := kb_ HO256 hb; replace HB := Aside0.mk (below_step (bl_ HB).out hb); (try clear hb); (try clear hi)) | (go_at_call 6; (with_reducible refine (class_Class_Has.calls _ _ t252 120 false _ ?side1 ?side2 A5.out).mono ?_); (case side1 => exact kc_ HO256); (case side2 => exact kl_ HO256); rintro e w24 ⟨rfl, hb⟩; replace HO256 := kb_ HO256 hb; replace HB := Aside0.mk (below_step (bl_ HB).out hb); (try clear hb); (try clear hi)))
        go_ret
        exact ⟨ew_, (bl_ HB).out⟩
    · replace c4 := Bool.eq_false_iff.mpr c4
      subst c4
      have H1 : (some false) = some r := by rw [if_neg (show ¬ (false = true) by decide)] at H; exact H
      clear H
      have H := H1
      clear H1
      obtain rfl := Option.some.inj H
      go_enter Tryd.func4, Tryd.ntmps4
      go_wp2_with (first | ((with_reducible refine gate_callee (f := 5) rfl ?_); refine gl_ (some 5) Tryd.func5 #[.string (⟨#[91, 97, 45, 99, 32, 120, 93]⟩ : ByteArray)] ?_; (with_reducible refine (class_Parse.calls k (⟨#[91, 97, 45, 99, 32, 120, 93]⟩ : ByteArray) t252 t253 t254 _ A1.out).mono ?_); rintro e w25 ⟨v255, rfl, ho0, hb⟩; refine ⟨_, rfl, ?_⟩; have HO256 := Aside0.mk (Kd.R_lower ho0 (below_size (bl_ HB).out)); replace HB := Aside0.mk (below_step (bl_ HB).out hb); (try clear hb); (try clear ho0); obtain ⟨Ao26, co26, eo26⟩ := Kd.R_slice HO256.out; subst eo26) | (go_at_call 6; (with_reducible refine (class_Class_Has.calls _ _ t252 97 false _ ?side1 ?side2 A3.out).mono ?_); (case side1 => exact kc_ HO256); (case side2 => exact kl_ HO256); rintro e w27 ⟨rfl, hb⟩; replace HO256 := kb_ HO256 hb; replace HB := Aside0.mk (below_step (bl_ HB).out hb); (try clear hb); (try clear hi)))
      go_ret
      exact ⟨ew_, (bl_ HB).out⟩
  · rw [if_neg c2] at H
    have c2b0 : (t253 == 0) = false := beq_eq_false_iff_ne.mpr c2
    have c2b1 : (t253 != 0) = true := bne_iff_ne.mpr c2
    obtain rfl := Option.some.inj H
    go_enter Tryd.func4, Tryd.ntmps4
    go_wp2_with (first | ((with_reducible refine gate_callee (f := 5) rfl ?_); refine gl_ (some 5) Tryd.func5 #[.string (⟨#[91, 97, 45, 99, 32, 120, 93]⟩ : ByteArray)] ?_; (with_reducible refine (class_Parse.calls k (⟨#[91, 97, 45, 99, 32, 120, 93]⟩ : ByteArray) t252 t253 t254 _ A1.out).mono ?_); rintro e w28 ⟨v255, rfl, ho0, hb⟩; refine ⟨_, rfl, ?_⟩; have HO256 := Aside0.mk (Kd.R_lower ho0 (below_size (bl_ HB).out)); replace HB := Aside0.mk (below_step (bl_ HB).out hb); (try clear hb); (try clear ho0)))
    go_ret
    exact ⟨ew_, (bl_ HB).out⟩

end Go.Proofs.YtnpohgoacbpcjaaDoor.P
