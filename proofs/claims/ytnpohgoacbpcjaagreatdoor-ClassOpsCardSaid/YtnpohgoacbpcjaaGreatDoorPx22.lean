-- written by a program of this session (wip/p2)
import Derived.Test.YtnpohgoacbpcjaaGreatDoorPx0
import Derived.Test.YtnpohgoacbpcjaaGreatDoorPx2
import Derived.Test.YtnpohgoacbpcjaaGreatDoorPx3
import Derived.Test.YtnpohgoacbpcjaaGreatDoorPx5
import Derived.Test.YtnpohgoacbpcjaaGreatDoorPx8
import Derived.Test.YtnpohgoacbpcjaaGreatDoorPx9
import Derived.Test.YtnpohgoacbpcjaaGreatDoorPx10
import Derived.Test.YtnpohgoacbpcjaaGreatDoorPx21
namespace Go.Proofs.YtnpohgoacbpcjaaGreatDoor.P
open Go.RowKit Go.Proofs.YtnpohgoacbpcjaaGreatDoorW.PrintWords Go.Proofs.YtnpohgoacbpcjaaGreatDoorW.PrintLast Go.Proofs.YtnpohgoacbpcjaaGreatDoorW.PrintMore
attribute [local go_sem] max2_int min2_int max_two min_two max_three min_three max_four min_four   -- for this text's walks alone
set_option linter.unusedVariables false
set_option linter.unusedSimpArgs false

/-! ### florinlaw10_ClassOps: function 7 -/
mutual
def florinlaw10_ClassOps.j0 : Nat → List (S28) → List (S28) → List (S28) → List (S28) → List (S28) → List (S28) → List (S28) → List (S28) → Bool → Option (Bool)
 | 0, _, _, _, _, _, _, _, _, _ => none
 | k + 1, x0, x1, x5, x6, x7, x8, x9, x10, x78 => if x78 = true then (none) else ((florinlaw10_bounds.f k (([x0, x1] : List (List (S28))))).bind fun t523 => (florinlaw10_ClassOps.l0 k x0 x1 x5 x6 x7 x8 x9 x10 true t523 (t523.length : Int) 0))
def florinlaw10_ClassOps.l0 : Nat → List (S28) → List (S28) → List (S28) → List (S28) → List (S28) → List (S28) → List (S28) → List (S28) → Bool → List Int → Int → Int → Option (Bool)
 | 0, _, _, _, _, _, _, _, _, _, _, _, _ => none
 | k + 1, x0, x1, x5, x6, x7, x8, x9, x10, x11, x82, x83, x84 => if x84 < x83 then (if 0 ≤ x84 then (if x84 < (x82.length : Int) then ((florinlaw10_in.f k x0 (rd x82 x84)).bind fun t527 => ((florinlaw10_in.f k x1 (rd x82 x84)).bind fun t528 => ((class_Class_Has.f x7 (rd x82 x84)).bind fun t529 => (if t527 = true then (if (t529 != true) = true then (none) else ((class_Class_Has.f x8 (rd x82 x84)).bind fun t530 => (if (t530 != t528) = true then (none) else ((class_Class_Has.f x9 (rd x82 x84)).bind fun t531 => (if (t531 != (!t528)) = true then (none) else ((class_Class_Has.f x10 (rd x82 x84)).bind fun t532 => (if (t532 != false) = true then (none) else (if x11 = true then (florinlaw10_ClassOps.l0 k x0 x1 x5 x6 x7 x8 x9 x10 (t527 == t528) x82 x83 (wrap64 (x84 + 1))) else (florinlaw10_ClassOps.l0 k x0 x1 x5 x6 x7 x8 x9 x10 false x82 x83 (wrap64 (x84 + 1))))))))))) else (if (t529 != t528) = true then (none) else ((class_Class_Has.f x8 (rd x82 x84)).bind fun t533 => (if (t533 != false) = true then (none) else ((class_Class_Has.f x9 (rd x82 x84)).bind fun t534 => (if (t534 != false) = true then (none) else ((class_Class_Has.f x10 (rd x82 x84)).bind fun t535 => (if (rd x82 x84) ≥ 0 then (if (t535 != (decide ((rd x82 x84) ≤ 1114111))) = true then (none) else (if x11 = true then (florinlaw10_ClassOps.l0 k x0 x1 x5 x6 x7 x8 x9 x10 (t527 == t528) x82 x83 (wrap64 (x84 + 1))) else (florinlaw10_ClassOps.l0 k x0 x1 x5 x6 x7 x8 x9 x10 false x82 x83 (wrap64 (x84 + 1))))) else (if (t535 != false) = true then (none) else (if x11 = true then (florinlaw10_ClassOps.l0 k x0 x1 x5 x6 x7 x8 x9 x10 (t527 == t528) x82 x83 (wrap64 (x84 + 1))) else (florinlaw10_ClassOps.l0 k x0 x1 x5 x6 x7 x8 x9 x10 false x82 x83 (wrap64 (x84 + 1)))))))))))))))) else (none)) else (none)) else ((class_Class_Same.f k x5 x6).bind fun t536 => (if (t536 == x11) = true then ((class_Class_Minus.f k x5 x5).bind fun t537 => ((class_Made.f k ([] : List (S28))).bind fun t540 => ((class_Class_Same.f k t537 t540).bind fun t543 => (if t543 = true then ((class_Class_Or.f k x5 x10).bind fun t544 => ((class_Made.f k (([(⟨0, 1114111⟩ : S28)] : List (S28)))).bind fun t550 => ((class_Class_Same.f k t544 t550).bind fun t553 => (florinlaw10_ClassOps.j2 k t553)))) else (florinlaw10_ClassOps.j2 k false))))) else (florinlaw10_ClassOps.j2 k false)))
def florinlaw10_ClassOps.j2 : Nat → Bool → Option (Bool)
 | 0, _ => none
 | k + 1, x4 => some x4
end
def florinlaw10_ClassOps.f (k : Nat) (l0 : List (S28)) (l1 : List (S28)) : Option (Bool) := (florinlaw10_head.f k).bind fun t481 => (if t481 = true then ((florinlaw10_few.f k (([l0, l1] : List (List (S28))))).bind fun t485 => (if t485 = true then ((class_Made.f k l0).bind fun t486 => ((class_Made.f k l1).bind fun t489 => ((class_Class_Or.f k t486 t489).bind fun t492 => ((class_Class_And.f k t486 t489).bind fun t495 => ((class_Class_Minus.f k t486 t489).bind fun t498 => ((class_Class_Not.f k t486).bind fun t501 => ((florinlaw10_settled.f k t492).bind fun t504 => (if t504 = true then ((florinlaw10_settled.f k t495).bind fun t505 => (if t505 = true then ((florinlaw10_settled.f k t498).bind fun t506 => (if t506 = true then ((florinlaw10_settled.f k t501).bind fun t507 => (if t507 = true then ((class_Class_Not.f k t501).bind fun t508 => ((class_Class_Same.f k t508 t486).bind fun t511 => (if t511 = true then ((class_Class_Or.f k t489 t486).bind fun t512 => ((class_Class_Same.f k t492 t512).bind fun t515 => (if t515 = true then ((class_Class_And.f k t489 t486).bind fun t516 => ((class_Class_Same.f k t495 t516).bind fun t519 => (florinlaw10_ClassOps.j0 k l0 l1 t486 t489 t492 t495 t498 t501 (!t519)))) else (none)))) else (none)))) else (none))) else (none))) else (none))) else (none))))))))) else (some true))) else (none))
theorem florinlaw10_ClassOps.mono_l : ∀ k, (∀ y0 y1 y2 y3 y4 y5 y6 y7 y8, LeO (florinlaw10_ClassOps.j0 k y0 y1 y2 y3 y4 y5 y6 y7 y8) (florinlaw10_ClassOps.j0 (k + 1) y0 y1 y2 y3 y4 y5 y6 y7 y8)) ∧ (∀ y0 y1 y2 y3 y4 y5 y6 y7 y8 y9 y10 y11, LeO (florinlaw10_ClassOps.l0 k y0 y1 y2 y3 y4 y5 y6 y7 y8 y9 y10 y11) (florinlaw10_ClassOps.l0 (k + 1) y0 y1 y2 y3 y4 y5 y6 y7 y8 y9 y10 y11)) ∧ (∀ y0, LeO (florinlaw10_ClassOps.j2 k y0) (florinlaw10_ClassOps.j2 (k + 1) y0))
 | 0 => ⟨fun _ _ _ _ _ _ _ _ _ r h => by simp [florinlaw10_ClassOps.j0] at h, fun _ _ _ _ _ _ _ _ _ _ _ _ r h => by simp [florinlaw10_ClassOps.l0] at h, fun _ r h => by simp [florinlaw10_ClassOps.j2] at h⟩
 | k + 1 => by
  obtain ⟨ih0, ih1, ih2⟩ := florinlaw10_ClassOps.mono_l k
  refine ⟨?_, ?_, ?_⟩
  ·intro y0 y1 y2 y3 y4 y5 y6 y7 y8
   unfold florinlaw10_ClassOps.j0
   repeat' first
   | (with_reducible exact ih0 _ _ _ _ _ _ _ _ _)
   | (with_reducible exact ih1 _ _ _ _ _ _ _ _ _ _ _ _)
   | (with_reducible exact ih2 _)
   | (with_reducible exact class_Class_And.mono _ _ _)
   | (with_reducible exact class_Class_Minus.mono _ _ _)
   | (with_reducible exact class_Class_Not.mono _ _)
   | (with_reducible exact class_Class_Or.mono _ _ _)
   | (with_reducible exact class_Class_Same.mono _ _ _)
   | (with_reducible exact class_Made.mono _ _)
   | (with_reducible exact florinlaw10_bounds.mono _ _)
   | (with_reducible exact florinlaw10_few.mono _ _)
   | (with_reducible exact florinlaw10_head.mono _)
   | (with_reducible exact florinlaw10_in.mono _ _ _)
   | (with_reducible exact florinlaw10_settled.mono _ _)
   | (with_reducible exact LeO.refl _)
   | (with_reducible exact LeO.none _)
   | (with_reducible refine LeO.ite ?_ ?_)
   | (with_reducible refine LeO.bind ?_ (fun _ => ?_))
   | exact ih0 _ _ _ _ _ _ _ _ _
   | exact ih1 _ _ _ _ _ _ _ _ _ _ _ _
   | exact ih2 _
   | exact class_Class_And.mono _ _ _
   | exact class_Class_Minus.mono _ _ _
   | exact class_Class_Not.mono _ _
   | exact class_Class_Or.mono _ _ _
   | exact class_Class_Same.mono _ _ _
   | exact class_Made.mono _ _
   | exact florinlaw10_bounds.mono _ _
   | exact florinlaw10_few.mono _ _
   | exact florinlaw10_head.mono _
   | exact florinlaw10_in.mono _ _ _
   | exact florinlaw10_settled.mono _ _
   | exact LeO.none _
   | refine LeO.ite ?_ ?_
   | refine LeO.bind ?_ (fun _ => ?_)
  ·intro y0 y1 y2 y3 y4 y5 y6 y7 y8 y9 y10 y11
   unfold florinlaw10_ClassOps.l0
   repeat' first
   | (with_reducible exact ih0 _ _ _ _ _ _ _ _ _)
   | (with_reducible exact ih1 _ _ _ _ _ _ _ _ _ _ _ _)
   | (with_reducible exact ih2 _)
   | (with_reducible exact class_Class_And.mono _ _ _)
   | (with_reducible exact class_Class_Minus.mono _ _ _)
   | (with_reducible exact class_Class_Not.mono _ _)
   | (with_reducible exact class_Class_Or.mono _ _ _)
   | (with_reducible exact class_Class_Same.mono _ _ _)
   | (with_reducible exact class_Made.mono _ _)
   | (with_reducible exact florinlaw10_bounds.mono _ _)
   | (with_reducible exact florinlaw10_few.mono _ _)
   | (with_reducible exact florinlaw10_head.mono _)
   | (with_reducible exact florinlaw10_in.mono _ _ _)
   | (with_reducible exact florinlaw10_settled.mono _ _)
   | (with_reducible exact LeO.refl _)
   | (with_reducible exact LeO.none _)
   | (with_reducible refine LeO.ite ?_ ?_)
   | (with_reducible refine LeO.bind ?_ (fun _ => ?_))
   | exact ih0 _ _ _ _ _ _ _ _ _
   | exact ih1 _ _ _ _ _ _ _ _ _ _ _ _
   | exact ih2 _
   | exact class_Class_And.mono _ _ _
   | exact class_Class_Minus.mono _ _ _
   | exact class_Class_Not.mono _ _
   | exact class_Class_Or.mono _ _ _
   | exact class_Class_Same.mono _ _ _
   | exact class_Made.mono _ _
   | exact florinlaw10_bounds.mono _ _
   | exact florinlaw10_few.mono _ _
   | exact florinlaw10_head.mono _
   | exact florinlaw10_in.mono _ _ _
   | exact florinlaw10_settled.mono _ _
   | exact LeO.none _
   | refine LeO.ite ?_ ?_
   | refine LeO.bind ?_ (fun _ => ?_)
  ·intro y0
   unfold florinlaw10_ClassOps.j2
   repeat' first
   | (with_reducible exact ih0 _ _ _ _ _ _ _ _ _)
   | (with_reducible exact ih1 _ _ _ _ _ _ _ _ _ _ _ _)
   | (with_reducible exact ih2 _)
   | (with_reducible exact class_Class_And.mono _ _ _)
   | (with_reducible exact class_Class_Minus.mono _ _ _)
   | (with_reducible exact class_Class_Not.mono _ _)
   | (with_reducible exact class_Class_Or.mono _ _ _)
   | (with_reducible exact class_Class_Same.mono _ _ _)
   | (with_reducible exact class_Made.mono _ _)
   | (with_reducible exact florinlaw10_bounds.mono _ _)
   | (with_reducible exact florinlaw10_few.mono _ _)
   | (with_reducible exact florinlaw10_head.mono _)
   | (with_reducible exact florinlaw10_in.mono _ _ _)
   | (with_reducible exact florinlaw10_settled.mono _ _)
   | (with_reducible exact LeO.refl _)
   | (with_reducible exact LeO.none _)
   | (with_reducible refine LeO.ite ?_ ?_)
   | (with_reducible refine LeO.bind ?_ (fun _ => ?_))
   | exact ih0 _ _ _ _ _ _ _ _ _
   | exact ih1 _ _ _ _ _ _ _ _ _ _ _ _
   | exact ih2 _
   | exact class_Class_And.mono _ _ _
   | exact class_Class_Minus.mono _ _ _
   | exact class_Class_Not.mono _ _
   | exact class_Class_Or.mono _ _ _
   | exact class_Class_Same.mono _ _ _
   | exact class_Made.mono _ _
   | exact florinlaw10_bounds.mono _ _
   | exact florinlaw10_few.mono _ _
   | exact florinlaw10_head.mono _
   | exact florinlaw10_in.mono _ _ _
   | exact florinlaw10_settled.mono _ _
   | exact LeO.none _
   | refine LeO.ite ?_ ?_
   | refine LeO.bind ?_ (fun _ => ?_)
theorem florinlaw10_ClassOps.mono : ∀ a0 a1 k, LeO (florinlaw10_ClassOps.f k a0 a1) (florinlaw10_ClassOps.f (k + 1) a0 a1) := by
 intro a0 a1 k
 obtain ⟨ih0, ih1, ih2⟩ := florinlaw10_ClassOps.mono_l k
 unfold florinlaw10_ClassOps.f
 repeat' first
   | (with_reducible exact ih0 _ _ _ _ _ _ _ _ _)
   | (with_reducible exact ih1 _ _ _ _ _ _ _ _ _ _ _ _)
   | (with_reducible exact ih2 _)
   | (with_reducible exact class_Class_And.mono _ _ _)
   | (with_reducible exact class_Class_Minus.mono _ _ _)
   | (with_reducible exact class_Class_Not.mono _ _)
   | (with_reducible exact class_Class_Or.mono _ _ _)
   | (with_reducible exact class_Class_Same.mono _ _ _)
   | (with_reducible exact class_Made.mono _ _)
   | (with_reducible exact florinlaw10_bounds.mono _ _)
   | (with_reducible exact florinlaw10_few.mono _ _)
   | (with_reducible exact florinlaw10_head.mono _)
   | (with_reducible exact florinlaw10_in.mono _ _ _)
   | (with_reducible exact florinlaw10_settled.mono _ _)
   | (with_reducible exact LeO.refl _)
   | (with_reducible exact LeO.none _)
   | (with_reducible refine LeO.ite ?_ ?_)
   | (with_reducible refine LeO.bind ?_ (fun _ => ?_))
   | exact ih0 _ _ _ _ _ _ _ _ _
   | exact ih1 _ _ _ _ _ _ _ _ _ _ _ _
   | exact ih2 _
   | exact class_Class_And.mono _ _ _
   | exact class_Class_Minus.mono _ _ _
   | exact class_Class_Not.mono _ _
   | exact class_Class_Or.mono _ _ _
   | exact class_Class_Same.mono _ _ _
   | exact class_Made.mono _ _
   | exact florinlaw10_bounds.mono _ _
   | exact florinlaw10_few.mono _ _
   | exact florinlaw10_head.mono _
   | exact florinlaw10_in.mono _ _ _
   | exact florinlaw10_settled.mono _ _
   | exact LeO.none _
   | refine LeO.ite ?_ ?_
   | refine LeO.bind ?_ (fun _ => ?_)
set_option maxHeartbeats 64000000 in
set_option maxRecDepth 100000 in
theorem florinlaw10_ClassOps.calls (k : Nat) (P0_ : Nat → Prop) (A0 : Option Addr) (c0 : Nat) (l0 : List (S28)) (P1_ : Nat → Prop) (A1 : Option Addr) (c1 : Nat) (l1 : List (S28)) (r : Bool) (w : World) (hs0 : Kd.V k28 28 w w.heap.size (fun k_ => P0_ k_) (.slice A0 l0.length c0) l0) (hs1 : Kd.V k28 28 w w.heap.size (fun k_ => P1_ k_) (.slice A1 l1.length c1) l1) (h : florinlaw10_ClassOps.f k l0 l1 = some r) (ht : GTabs w := by first | assumption | exact gtb_ (by assumption) (bl_ (by assumption)).out) :
  Calls Tryz.prog 7 #[.slice A0 l0.length c0, .slice A1 l1.length c1] w fun e w' => e = .returned (.bool r) ∧ Below w.heap.size w w' := by
 have hu28 := Tryz.underlying28
 have HO0 := Aside0.mk (show Kd.V k28 28 w w.heap.size (fun k_ => ((P0_ k_ ∨ P1_ k_) ∨ w.heap.size ≤ k_)) (.slice A0 l0.length c0) l0 from Kd.V_mono hs0 (fun k_ hk => .inl (.inl hk)))
 have HO1 := Aside0.mk (show Kd.V k28 28 w w.heap.size (fun k_ => ((P0_ k_ ∨ P1_ k_) ∨ w.heap.size ≤ k_)) (.slice A1 l1.length c1) l1 from Kd.V_mono hs1 (fun k_ hk => .inl (.inr hk)))
 have HB := Aside0.mk (Below.refl w.heap.size w)
 have H : ((florinlaw10_head.f k).bind fun t481 => (if t481 = true then ((florinlaw10_few.f k (([l0, l1] : List (List (S28))))).bind fun t485 => (if t485 = true then ((class_Made.f k l0).bind fun t486 => ((class_Made.f k l1).bind fun t489 => ((class_Class_Or.f k t486 t489).bind fun t492 => ((class_Class_And.f k t486 t489).bind fun t495 => ((class_Class_Minus.f k t486 t489).bind fun t498 => ((class_Class_Not.f k t486).bind fun t501 => ((florinlaw10_settled.f k t492).bind fun t504 => (if t504 = true then ((florinlaw10_settled.f k t495).bind fun t505 => (if t505 = true then ((florinlaw10_settled.f k t498).bind fun t506 => (if t506 = true then ((florinlaw10_settled.f k t501).bind fun t507 => (if t507 = true then ((class_Class_Not.f k t501).bind fun t508 => ((class_Class_Same.f k t508 t486).bind fun t511 => (if t511 = true then ((class_Class_Or.f k t489 t486).bind fun t512 => ((class_Class_Same.f k t492 t512).bind fun t515 => (if t515 = true then ((class_Class_And.f k t489 t486).bind fun t516 => ((class_Class_Same.f k t495 t516).bind fun t519 => (florinlaw10_ClassOps.j0 k l0 l1 t486 t489 t492 t495 t498 t501 (!t519)))) else (none)))) else (none)))) else (none))) else (none))) else (none))) else (none))))))))) else (some true))) else (none))) = some r := h
 clear h
 replace H := Option.bind_eq_some_iff.mp H
 obtain ⟨t481, A30, H⟩ := H
 replace H : (if t481 = true then ((florinlaw10_few.f k (([l0, l1] : List (List (S28))))).bind fun t485 => (if t485 = true then ((class_Made.f k l0).bind fun t486 => ((class_Made.f k l1).bind fun t489 => ((class_Class_Or.f k t486 t489).bind fun t492 => ((class_Class_And.f k t486 t489).bind fun t495 => ((class_Class_Minus.f k t486 t489).bind fun t498 => ((class_Class_Not.f k t486).bind fun t501 => ((florinlaw10_settled.f k t492).bind fun t504 => (if t504 = true then ((florinlaw10_settled.f k t495).bind fun t505 => (if t505 = true then ((florinlaw10_settled.f k t498).bind fun t506 => (if t506 = true then ((florinlaw10_settled.f k t501).bind fun t507 => (if t507 = true then ((class_Class_Not.f k t501).bind fun t508 => ((class_Class_Same.f k t508 t486).bind fun t511 => (if t511 = true then ((class_Class_Or.f k t489 t486).bind fun t512 => ((class_Class_Same.f k t492 t512).bind fun t515 => (if t515 = true then ((class_Class_And.f k t489 t486).bind fun t516 => ((class_Class_Same.f k t495 t516).bind fun t519 => (florinlaw10_ClassOps.j0 k l0 l1 t486 t489 t492 t495 t498 t501 (!t519)))) else (none)))) else (none)))) else (none))) else (none))) else (none))) else (none))))))))) else (some true))) else (none)) = some r := H
 have A3 := Aside0.mk A30
 clear A30
 by_cases c4 : t481 = true
 ·subst c4
  have H1 : ((florinlaw10_few.f k (([l0, l1] : List (List (S28))))).bind fun t485 => (if t485 = true then ((class_Made.f k l0).bind fun t486 => ((class_Made.f k l1).bind fun t489 => ((class_Class_Or.f k t486 t489).bind fun t492 => ((class_Class_And.f k t486 t489).bind fun t495 => ((class_Class_Minus.f k t486 t489).bind fun t498 => ((class_Class_Not.f k t486).bind fun t501 => ((florinlaw10_settled.f k t492).bind fun t504 => (if t504 = true then ((florinlaw10_settled.f k t495).bind fun t505 => (if t505 = true then ((florinlaw10_settled.f k t498).bind fun t506 => (if t506 = true then ((florinlaw10_settled.f k t501).bind fun t507 => (if t507 = true then ((class_Class_Not.f k t501).bind fun t508 => ((class_Class_Same.f k t508 t486).bind fun t511 => (if t511 = true then ((class_Class_Or.f k t489 t486).bind fun t512 => ((class_Class_Same.f k t492 t512).bind fun t515 => (if t515 = true then ((class_Class_And.f k t489 t486).bind fun t516 => ((class_Class_Same.f k t495 t516).bind fun t519 => (florinlaw10_ClassOps.j0 k l0 l1 t486 t489 t492 t495 t498 t501 (!t519)))) else (none)))) else (none)))) else (none))) else (none))) else (none))) else (none))))))))) else (some true))) = some r := by rw [if_pos rfl] at H; exact H
  clear H
  have H := H1
  clear H1
  obtain ⟨y482, hy482⟩ : ∃ y_ : List (List (S28)), y_ = (([l0, l1] : List (List (S28)))) := ⟨_, rfl⟩
  replace H : ((florinlaw10_few.f k y482).bind fun t485 => (if t485 = true then ((class_Made.f k l0).bind fun t486 => ((class_Made.f k l1).bind fun t489 => ((class_Class_Or.f k t486 t489).bind fun t492 => ((class_Class_And.f k t486 t489).bind fun t495 => ((class_Class_Minus.f k t486 t489).bind fun t498 => ((class_Class_Not.f k t486).bind fun t501 => ((florinlaw10_settled.f k t492).bind fun t504 => (if t504 = true then ((florinlaw10_settled.f k t495).bind fun t505 => (if t505 = true then ((florinlaw10_settled.f k t498).bind fun t506 => (if t506 = true then ((florinlaw10_settled.f k t501).bind fun t507 => (if t507 = true then ((class_Class_Not.f k t501).bind fun t508 => ((class_Class_Same.f k t508 t486).bind fun t511 => (if t511 = true then ((class_Class_Or.f k t489 t486).bind fun t512 => ((class_Class_Same.f k t492 t512).bind fun t515 => (if t515 = true then ((class_Class_And.f k t489 t486).bind fun t516 => ((class_Class_Same.f k t495 t516).bind fun t519 => (florinlaw10_ClassOps.j0 k l0 l1 t486 t489 t492 t495 t498 t501 (!t519)))) else (none)))) else (none)))) else (none))) else (none))) else (none))) else (none))))))))) else (some true))) = some r := by first | (rw [hy482]; with_reducible exact H) | (have H2_ := (Option.bind_some _ _).symm.trans H; rw [hy482]; with_reducible exact H2_) | (have H2_ := (Option.bind_some _ _).symm.trans H; with_reducible exact H2_) | with_reducible exact H | (rw [hy482]; exact H) | exact H
  have Ny482 := Aside0.mk hy482
  clear hy482
  replace H := Option.bind_eq_some_iff.mp H
  obtain ⟨t485, A50, H⟩ := H
  replace H : (if t485 = true then ((class_Made.f k l0).bind fun t486 => ((class_Made.f k l1).bind fun t489 => ((class_Class_Or.f k t486 t489).bind fun t492 => ((class_Class_And.f k t486 t489).bind fun t495 => ((class_Class_Minus.f k t486 t489).bind fun t498 => ((class_Class_Not.f k t486).bind fun t501 => ((florinlaw10_settled.f k t492).bind fun t504 => (if t504 = true then ((florinlaw10_settled.f k t495).bind fun t505 => (if t505 = true then ((florinlaw10_settled.f k t498).bind fun t506 => (if t506 = true then ((florinlaw10_settled.f k t501).bind fun t507 => (if t507 = true then ((class_Class_Not.f k t501).bind fun t508 => ((class_Class_Same.f k t508 t486).bind fun t511 => (if t511 = true then ((class_Class_Or.f k t489 t486).bind fun t512 => ((class_Class_Same.f k t492 t512).bind fun t515 => (if t515 = true then ((class_Class_And.f k t489 t486).bind fun t516 => ((class_Class_Same.f k t495 t516).bind fun t519 => (florinlaw10_ClassOps.j0 k l0 l1 t486 t489 t492 t495 t498 t501 (!t519)))) else (none)))) else (none)))) else (none))) else (none))) else (none))) else (none))))))))) else (some true)) = some r := H
  have A5 := Aside0.mk A50
  clear A50
  by_cases c6 : t485 = true
  ·subst c6
   have H1 : ((class_Made.f k l0).bind fun t486 => ((class_Made.f k l1).bind fun t489 => ((class_Class_Or.f k t486 t489).bind fun t492 => ((class_Class_And.f k t486 t489).bind fun t495 => ((class_Class_Minus.f k t486 t489).bind fun t498 => ((class_Class_Not.f k t486).bind fun t501 => ((florinlaw10_settled.f k t492).bind fun t504 => (if t504 = true then ((florinlaw10_settled.f k t495).bind fun t505 => (if t505 = true then ((florinlaw10_settled.f k t498).bind fun t506 => (if t506 = true then ((florinlaw10_settled.f k t501).bind fun t507 => (if t507 = true then ((class_Class_Not.f k t501).bind fun t508 => ((class_Class_Same.f k t508 t486).bind fun t511 => (if t511 = true then ((class_Class_Or.f k t489 t486).bind fun t512 => ((class_Class_Same.f k t492 t512).bind fun t515 => (if t515 = true then ((class_Class_And.f k t489 t486).bind fun t516 => ((class_Class_Same.f k t495 t516).bind fun t519 => (florinlaw10_ClassOps.j0 k l0 l1 t486 t489 t492 t495 t498 t501 (!t519)))) else (none)))) else (none)))) else (none))) else (none))) else (none))) else (none))))))))) = some r := by rw [if_pos rfl] at H; exact H
   clear H
   have H := H1
   clear H1
   replace H := Option.bind_eq_some_iff.mp H
   obtain ⟨t486, A70, H⟩ := H
   replace H : ((class_Made.f k l1).bind fun t489 => ((class_Class_Or.f k t486 t489).bind fun t492 => ((class_Class_And.f k t486 t489).bind fun t495 => ((class_Class_Minus.f k t486 t489).bind fun t498 => ((class_Class_Not.f k t486).bind fun t501 => ((florinlaw10_settled.f k t492).bind fun t504 => (if t504 = true then ((florinlaw10_settled.f k t495).bind fun t505 => (if t505 = true then ((florinlaw10_settled.f k t498).bind fun t506 => (if t506 = true then ((florinlaw10_settled.f k t501).bind fun t507 => (if t507 = true then ((class_Class_Not.f k t501).bind fun t508 => ((class_Class_Same.f k t508 t486).bind fun t511 => (if t511 = true then ((class_Class_Or.f k t489 t486).bind fun t512 => ((class_Class_Same.f k t492 t512).bind fun t515 => (if t515 = true then ((class_Class_And.f k t489 t486).bind fun t516 => ((class_Class_Same.f k t495 t516).bind fun t519 => (florinlaw10_ClassOps.j0 k l0 l1 t486 t489 t492 t495 t498 t501 (!t519)))) else (none)))) else (none)))) else (none))) else (none))) else (none))) else (none)))))))) = some r := H
   have A7 := Aside0.mk A70
   clear A70
   replace H := Option.bind_eq_some_iff.mp H
   obtain ⟨t489, A80, H⟩ := H
   replace H : ((class_Class_Or.f k t486 t489).bind fun t492 => ((class_Class_And.f k t486 t489).bind fun t495 => ((class_Class_Minus.f k t486 t489).bind fun t498 => ((class_Class_Not.f k t486).bind fun t501 => ((florinlaw10_settled.f k t492).bind fun t504 => (if t504 = true then ((florinlaw10_settled.f k t495).bind fun t505 => (if t505 = true then ((florinlaw10_settled.f k t498).bind fun t506 => (if t506 = true then ((florinlaw10_settled.f k t501).bind fun t507 => (if t507 = true then ((class_Class_Not.f k t501).bind fun t508 => ((class_Class_Same.f k t508 t486).bind fun t511 => (if t511 = true then ((class_Class_Or.f k t489 t486).bind fun t512 => ((class_Class_Same.f k t492 t512).bind fun t515 => (if t515 = true then ((class_Class_And.f k t489 t486).bind fun t516 => ((class_Class_Same.f k t495 t516).bind fun t519 => (florinlaw10_ClassOps.j0 k l0 l1 t486 t489 t492 t495 t498 t501 (!t519)))) else (none)))) else (none)))) else (none))) else (none))) else (none))) else (none))))))) = some r := H
   have A8 := Aside0.mk A80
   clear A80
   replace H := Option.bind_eq_some_iff.mp H
   obtain ⟨t492, A90, H⟩ := H
   replace H : ((class_Class_And.f k t486 t489).bind fun t495 => ((class_Class_Minus.f k t486 t489).bind fun t498 => ((class_Class_Not.f k t486).bind fun t501 => ((florinlaw10_settled.f k t492).bind fun t504 => (if t504 = true then ((florinlaw10_settled.f k t495).bind fun t505 => (if t505 = true then ((florinlaw10_settled.f k t498).bind fun t506 => (if t506 = true then ((florinlaw10_settled.f k t501).bind fun t507 => (if t507 = true then ((class_Class_Not.f k t501).bind fun t508 => ((class_Class_Same.f k t508 t486).bind fun t511 => (if t511 = true then ((class_Class_Or.f k t489 t486).bind fun t512 => ((class_Class_Same.f k t492 t512).bind fun t515 => (if t515 = true then ((class_Class_And.f k t489 t486).bind fun t516 => ((class_Class_Same.f k t495 t516).bind fun t519 => (florinlaw10_ClassOps.j0 k l0 l1 t486 t489 t492 t495 t498 t501 (!t519)))) else (none)))) else (none)))) else (none))) else (none))) else (none))) else (none)))))) = some r := H
   have A9 := Aside0.mk A90
   clear A90
   replace H := Option.bind_eq_some_iff.mp H
   obtain ⟨t495, A100, H⟩ := H
   replace H : ((class_Class_Minus.f k t486 t489).bind fun t498 => ((class_Class_Not.f k t486).bind fun t501 => ((florinlaw10_settled.f k t492).bind fun t504 => (if t504 = true then ((florinlaw10_settled.f k t495).bind fun t505 => (if t505 = true then ((florinlaw10_settled.f k t498).bind fun t506 => (if t506 = true then ((florinlaw10_settled.f k t501).bind fun t507 => (if t507 = true then ((class_Class_Not.f k t501).bind fun t508 => ((class_Class_Same.f k t508 t486).bind fun t511 => (if t511 = true then ((class_Class_Or.f k t489 t486).bind fun t512 => ((class_Class_Same.f k t492 t512).bind fun t515 => (if t515 = true then ((class_Class_And.f k t489 t486).bind fun t516 => ((class_Class_Same.f k t495 t516).bind fun t519 => (florinlaw10_ClassOps.j0 k l0 l1 t486 t489 t492 t495 t498 t501 (!t519)))) else (none)))) else (none)))) else (none))) else (none))) else (none))) else (none))))) = some r := H
   have A10 := Aside0.mk A100
   clear A100
   replace H := Option.bind_eq_some_iff.mp H
   obtain ⟨t498, A110, H⟩ := H
   replace H : ((class_Class_Not.f k t486).bind fun t501 => ((florinlaw10_settled.f k t492).bind fun t504 => (if t504 = true then ((florinlaw10_settled.f k t495).bind fun t505 => (if t505 = true then ((florinlaw10_settled.f k t498).bind fun t506 => (if t506 = true then ((florinlaw10_settled.f k t501).bind fun t507 => (if t507 = true then ((class_Class_Not.f k t501).bind fun t508 => ((class_Class_Same.f k t508 t486).bind fun t511 => (if t511 = true then ((class_Class_Or.f k t489 t486).bind fun t512 => ((class_Class_Same.f k t492 t512).bind fun t515 => (if t515 = true then ((class_Class_And.f k t489 t486).bind fun t516 => ((class_Class_Same.f k t495 t516).bind fun t519 => (florinlaw10_ClassOps.j0 k l0 l1 t486 t489 t492 t495 t498 t501 (!t519)))) else (none)))) else (none)))) else (none))) else (none))) else (none))) else (none)))) = some r := H
   have A11 := Aside0.mk A110
   clear A110
   replace H := Option.bind_eq_some_iff.mp H
   obtain ⟨t501, A120, H⟩ := H
   replace H : ((florinlaw10_settled.f k t492).bind fun t504 => (if t504 = true then ((florinlaw10_settled.f k t495).bind fun t505 => (if t505 = true then ((florinlaw10_settled.f k t498).bind fun t506 => (if t506 = true then ((florinlaw10_settled.f k t501).bind fun t507 => (if t507 = true then ((class_Class_Not.f k t501).bind fun t508 => ((class_Class_Same.f k t508 t486).bind fun t511 => (if t511 = true then ((class_Class_Or.f k t489 t486).bind fun t512 => ((class_Class_Same.f k t492 t512).bind fun t515 => (if t515 = true then ((class_Class_And.f k t489 t486).bind fun t516 => ((class_Class_Same.f k t495 t516).bind fun t519 => (florinlaw10_ClassOps.j0 k l0 l1 t486 t489 t492 t495 t498 t501 (!t519)))) else (none)))) else (none)))) else (none))) else (none))) else (none))) else (none))) = some r := H
   have A12 := Aside0.mk A120
   clear A120
   have HC13 := Aside0.mk H
   clear H
   go_enter Tryz.func7, Tryz.ntmps7
   go_upto_region 11 with (first | ((with_reducible refine gate_callee (f := 9) rfl ?_); refine gl_ (some 16) Tryz.func9 #[] ?_; (with_reducible refine (florinlaw10_head.calls k  true _ A3.out).mono ?_); rintro e w14 ⟨rfl, hb⟩; refine ⟨_, rfl, ?_⟩; replace HO0 := Aside0.mk (Kd.V_below (krV_ HO0) hb); replace HO1 := Aside0.mk (Kd.V_below (krV_ HO1) hb); replace HB := Aside0.mk (below_step (bl_ HB).out hb); (try clear hb); (try clear hi)) | ((with_reducible refine gate_dst (N := 20) rfl ?_); (try (refine gate_guard (by rfl) ?_; dsimp only)); refine Kd.N_lit (Kd.slice 28 k28) _ 22 ?hg (N' := 20) ?hd (xs := ([l0, l1] : List (List (S28)))) (inner := [.slice A0 l0.length c0, .slice A1 l1.length c1]) (ok := (fun k_ => ((P0_ k_ ∨ P1_ k_) ∨ w.heap.size ≤ k_))) (okp := (fun k_ => ((P0_ k_ ∨ P1_ k_) ∨ w.heap.size ≤ k_))) ?hr ?hp (fun _ hk => hk) ((show ∀ k_, w14.heap.size ≤ k_ → (fun k_ => ((P0_ k_ ∨ P1_ k_) ∨ w.heap.size ≤ k_)) k_ from fun k_ hk => (.inr (Nat.le_trans (below_size (bl_ HB).out) hk))) _ (Nat.le_refl _)) (Below.refl _ _) (Nat.le_refl _) (by simp) ?_; (case hd => rfl); (case hg => rfl); (case hr => first | (go_simp; done) | (go_simp; rfl)); (case hp => exact (Reps.one (show Kd.FK (Kd.slice 28 k28) _ _ l0 [.slice A0 l0.length c0] from (Kd.FK_slice_mk (Kd.V_reads' (Kd.V_mono (ok' := (fun k_ => ((P0_ k_ ∨ P1_ k_) ∨ w.heap.size ≤ k_))) (HO0.out) (fun k_ hk => hk))).2.1 (Kd.V_F (Kd.V_mono (ok' := (fun k_ => ((P0_ k_ ∨ P1_ k_) ∨ w.heap.size ≤ k_))) (HO0.out) (fun k_ hk => hk))))) (Reps.one (show Kd.FK (Kd.slice 28 k28) _ _ l1 [.slice A1 l1.length c1] from (Kd.FK_slice_mk (Kd.V_reads' (Kd.V_mono (ok' := (fun k_ => ((P0_ k_ ∨ P1_ k_) ∨ w.heap.size ≤ k_))) (HO1.out) (fun k_ hk => hk))).2.1 (Kd.V_F (Kd.V_mono (ok' := (fun k_ => ((P0_ k_ ∨ P1_ k_) ∨ w.heap.size ≤ k_))) (HO1.out) (fun k_ hk => hk))))) (Reps.none _ _)))); intro v483 w15 ho16 hb hg_ hnew_; clear hg_ hnew_; (first | rw [← Ny482.out] at ho16 | (simp only [Int.reduceToNat] at ho16; rw [← Ny482.out] at ho16)); have HO484 := Aside0.mk (Kd.N_lower ho16 (below_size (bl_ HB).out)); replace HO0 := Aside0.mk (Kd.V_elder' (krV_ HO0) (Kd.N_base ho16) hb); replace HO1 := Aside0.mk (Kd.V_elder' (krV_ HO1) (Kd.N_base ho16) hb); replace HB := Aside0.mk (below_step (bl_ HB).out hb); clear hb ho16; obtain ⟨Ao17, co17, eo17⟩ := Kd.N_slice HO484.out; subst eo17) | ((with_reducible refine gate_callee (f := 10) rfl ?_); refine gl_ (some 21) Tryz.func10 #[.slice Ao17 y482.length co17] ?_; (with_reducible refine (florinlaw10_few.calls k _ _ y482 true _ ?side1 ?side2 A5.out).mono ?_); (case side1 => repeat (first | exact (Kd.N_reads' HO484.out).2.2 | (with_reducible refine Kd.C_alloc ?_ _) | (with_reducible refine Kd.C_drewN ?_ _) | (with_reducible refine Kd.C_drew ?_))); (case side2 => exact (Kd.N_reads' HO484.out).2.1); rintro e w' ⟨rfl, ⟨nd, rfl⟩⟩; refine ⟨_, rfl, ?_⟩) | ((with_reducible refine gate_callee (f := 11) rfl ?_); refine gl_ (some 24) Tryz.func11 #[.slice A0 l0.length c0] ?_; (with_reducible refine (class_Made.calls k _ _ l0 t486 _ ?side1 ?side2 A7.out).mono ?_); (case side1 => repeat (first | exact (Kd.V_reads' HO0.out).2.2 | (with_reducible refine Kd.C_alloc ?_ _) | (with_reducible refine Kd.C_drewN ?_ _) | (with_reducible refine Kd.C_drew ?_))); (case side2 => exact (Kd.V_reads' HO0.out).2.1); rintro e w18 ⟨v487, rfl, ho0, hb⟩; refine ⟨_, rfl, ?_⟩; have HO488 := Aside0.mk (Kd.R_lower (Kd.R_newM (M := fun k_ => (w.heap.size ≤ k_)) ho0 (below_size (bl_ HB).out) (fun k_ h_ => h_)) (below_size (bl_ HB).out)); replace HO0 := Aside0.mk (Kd.V_elder' (krV_ HO0) (Kd.R_base ho0) hb); replace HO1 := Aside0.mk (Kd.V_elder' (krV_ HO1) (Kd.R_base ho0) hb); replace HO484 := Aside0.mk (Kd.N_elder' (krN_ HO484) (Kd.R_base ho0) hb); replace HB := Aside0.mk (below_step (bl_ HB).out hb); (try clear hb); (try clear ho0)) | ((with_reducible refine gate_callee (f := 11) rfl ?_); refine gl_ (some 26) Tryz.func11 #[.slice A1 l1.length c1] ?_; (with_reducible refine (class_Made.calls k _ _ l1 t489 _ ?side1 ?side2 A8.out).mono ?_); (case side1 => repeat (first | exact (Kd.V_reads' HO1.out).2.2 | (with_reducible refine Kd.C_alloc ?_ _) | (with_reducible refine Kd.C_drewN ?_ _) | (with_reducible refine Kd.C_drew ?_))); (case side2 => exact (Kd.V_reads' HO1.out).2.1); rintro e w19 ⟨v490, rfl, ho0, hb⟩; refine ⟨_, rfl, ?_⟩; have HO491 := Aside0.mk (Kd.R_lower (Kd.R_new' (Kd.R_newM (M := fun k_ => (w.heap.size ≤ k_)) ho0 (below_size (bl_ HB).out) (fun k_ h_ => h_)) (kx_ HO488)) (below_size (bl_ HB).out)); replace HO0 := Aside0.mk (Kd.V_elder' (krV_ HO0) (Kd.R_base ho0) hb); replace HO1 := Aside0.mk (Kd.V_elder' (krV_ HO1) (Kd.R_base ho0) hb); replace HO484 := Aside0.mk (Kd.N_elder' (krN_ HO484) (Kd.R_base ho0) hb); replace HO488 := ke_ HO488 ho0 hb; replace HB := Aside0.mk (below_step (bl_ HB).out hb); (try clear hb); (try clear ho0); obtain ⟨Ao20, co20, eo20⟩ := Kd.R_slice HO488.out; subst eo20; obtain ⟨Ao21, co21, eo21⟩ := Kd.R_slice HO491.out; subst eo21) | ((with_reducible refine gate_callee (f := 22) rfl ?_); refine gl_ (some 29) Tryz.func22 #[.slice Ao20 t486.length co20, .slice Ao21 t489.length co21] ?_; (with_reducible refine (class_Class_Or.calls k _ _ t486 _ _ t489 t492 _ ?side1 ?side2 ?side3 ?side4 A9.out).mono ?_); (case side1 => exact kc_ HO488); (case side2 => exact kl_ HO488); (case side3 => exact kc_ HO491); (case side4 => exact kl_ HO491); rintro e w22 ⟨v493, rfl, ho0, hb⟩; refine ⟨_, rfl, ?_⟩; have HO494 := Aside0.mk (Kd.R_lower (Kd.R_new' (Kd.R_new' (Kd.R_newM (M := fun k_ => (w.heap.size ≤ k_)) ho0 (below_size (bl_ HB).out) (fun k_ h_ => h_)) (kx_ HO488)) (kx_ HO491)) (below_size (bl_ HB).out)); replace HO0 := Aside0.mk (Kd.V_elder' (krV_ HO0) (Kd.R_base ho0) hb); replace HO1 := Aside0.mk (Kd.V_elder' (krV_ HO1) (Kd.R_base ho0) hb); replace HO484 := Aside0.mk (Kd.N_elder' (krN_ HO484) (Kd.R_base ho0) hb); replace HO488 := ke_ HO488 ho0 hb; replace HO491 := ke_ HO491 ho0 hb; replace HB := Aside0.mk (below_step (bl_ HB).out hb); (try clear hb); (try clear ho0)) | ((with_reducible refine gate_callee (f := 23) rfl ?_); refine gl_ (some 32) Tryz.func23 #[.slice Ao20 t486.length co20, .slice Ao21 t489.length co21] ?_; (with_reducible refine (class_Class_And.calls k _ _ t486 _ _ t489 t495 _ ?side1 ?side2 ?side3 ?side4 A10.out).mono ?_); (case side1 => exact kc_ HO488); (case side2 => exact kl_ HO488); (case side3 => exact kc_ HO491); (case side4 => exact kl_ HO491); rintro e w23 ⟨v496, rfl, ho0, hb⟩; refine ⟨_, rfl, ?_⟩; have HO497 := Aside0.mk (Kd.R_lower (Kd.R_new' (Kd.R_new' (Kd.R_new' (Kd.R_newM (M := fun k_ => (w.heap.size ≤ k_)) ho0 (below_size (bl_ HB).out) (fun k_ h_ => h_)) (kx_ HO488)) (kx_ HO491)) (kx_ HO494)) (below_size (bl_ HB).out)); replace HO0 := Aside0.mk (Kd.V_elder' (krV_ HO0) (Kd.R_base ho0) hb); replace HO1 := Aside0.mk (Kd.V_elder' (krV_ HO1) (Kd.R_base ho0) hb); replace HO484 := Aside0.mk (Kd.N_elder' (krN_ HO484) (Kd.R_base ho0) hb); replace HO488 := ke_ HO488 ho0 hb; replace HO491 := ke_ HO491 ho0 hb; replace HO494 := ke_ HO494 ho0 hb; replace HB := Aside0.mk (below_step (bl_ HB).out hb); (try clear hb); (try clear ho0)) | ((with_reducible refine gate_callee (f := 24) rfl ?_); refine gl_ (some 35) Tryz.func24 #[.slice Ao20 t486.length co20, .slice Ao21 t489.length co21] ?_; (with_reducible refine (class_Class_Minus.calls k _ _ t486 _ _ t489 t498 _ ?side1 ?side2 ?side3 ?side4 A11.out).mono ?_); (case side1 => exact kc_ HO488); (case side2 => exact kl_ HO488); (case side3 => exact kc_ HO491); (case side4 => exact kl_ HO491); rintro e w24 ⟨v499, rfl, ho0, hb⟩; refine ⟨_, rfl, ?_⟩; have HO500 := Aside0.mk (Kd.R_lower (Kd.R_new' (Kd.R_new' (Kd.R_new' (Kd.R_new' (Kd.R_newM (M := fun k_ => (w.heap.size ≤ k_)) ho0 (below_size (bl_ HB).out) (fun k_ h_ => h_)) (kx_ HO488)) (kx_ HO491)) (kx_ HO494)) (kx_ HO497)) (below_size (bl_ HB).out)); replace HO0 := Aside0.mk (Kd.V_elder' (krV_ HO0) (Kd.R_base ho0) hb); replace HO1 := Aside0.mk (Kd.V_elder' (krV_ HO1) (Kd.R_base ho0) hb); replace HO484 := Aside0.mk (Kd.N_elder' (krN_ HO484) (Kd.R_base ho0) hb); replace HO488 := ke_ HO488 ho0 hb; replace HO491 := ke_ HO491 ho0 hb; replace HO494 := ke_ HO494 ho0 hb; replace HO497 := ke_ HO497 ho0 hb; replace HB := Aside0.mk (below_step (bl_ HB).out hb); (try clear hb); (try clear ho0)) | ((with_reducible refine gate_callee (f := 18) rfl ?_); refine gl_ (some 37) Tryz.func18 #[.slice Ao20 t486.length co20] ?_; (with_reducible refine (class_Class_Not.calls k _ _ t486 t501 _ ?side1 ?side2 A12.out).mono ?_); (case side1 => exact kc_ HO488); (case side2 => exact kl_ HO488); rintro e w25 ⟨v502, rfl, ho0, hb⟩; refine ⟨_, rfl, ?_⟩; have HO503 := Aside0.mk (Kd.R_lower (Kd.R_new' (Kd.R_new' (Kd.R_new' (Kd.R_new' (Kd.R_new' (Kd.R_newM (M := fun k_ => (w.heap.size ≤ k_)) ho0 (below_size (bl_ HB).out) (fun k_ h_ => h_)) (kx_ HO488)) (kx_ HO491)) (kx_ HO494)) (kx_ HO497)) (kx_ HO500)) (below_size (bl_ HB).out)); replace HO0 := Aside0.mk (Kd.V_elder' (krV_ HO0) (Kd.R_base ho0) hb); replace HO1 := Aside0.mk (Kd.V_elder' (krV_ HO1) (Kd.R_base ho0) hb); replace HO484 := Aside0.mk (Kd.N_elder' (krN_ HO484) (Kd.R_base ho0) hb); replace HO488 := ke_ HO488 ho0 hb; replace HO491 := ke_ HO491 ho0 hb; replace HO494 := ke_ HO494 ho0 hb; replace HO497 := ke_ HO497 ho0 hb; replace HO500 := ke_ HO500 ho0 hb; replace HB := Aside0.mk (below_step (bl_ HB).out hb); (try clear hb); (try clear ho0)))
   (try simp only [Act.put, List.setIfInBounds_toArray, List.set_cons_zero, List.set_cons_succ])
   go_cut [78] (fun v78 wc => ∃ (kq : Nat) (x78_12 : Bool), v78 = .bool x78_12 ∧ Aside0 (florinlaw10_ClassOps.j0 kq l0 l1 t486 t489 t492 t495 t498 t501 x78_12 = some r) ∧ Aside0 (kq ≤ k) ∧ Aside0 (Kd.V k28 28 wc w.heap.size (fun k_ => ((P0_ k_ ∨ P1_ k_) ∨ w.heap.size ≤ k_) ∧ some k_ ≠ ((.slice Ao20 t486.length co20) : Value).ownBlock ∧ some k_ ≠ ((.slice Ao21 t489.length co21) : Value).ownBlock ∧ some k_ ≠ (v493 : Value).ownBlock ∧ some k_ ≠ (v496 : Value).ownBlock ∧ some k_ ≠ (v499 : Value).ownBlock ∧ some k_ ≠ (v502 : Value).ownBlock) (.slice A0 l0.length c0) l0) ∧ Aside0 (Kd.V k28 28 wc w.heap.size (fun k_ => ((P0_ k_ ∨ P1_ k_) ∨ w.heap.size ≤ k_) ∧ some k_ ≠ ((.slice Ao20 t486.length co20) : Value).ownBlock ∧ some k_ ≠ ((.slice Ao21 t489.length co21) : Value).ownBlock ∧ some k_ ≠ (v493 : Value).ownBlock ∧ some k_ ≠ (v496 : Value).ownBlock ∧ some k_ ≠ (v499 : Value).ownBlock ∧ some k_ ≠ (v502 : Value).ownBlock) (.slice A1 l1.length c1) l1) ∧ Aside0 (Kd.R k28 28 wc w.heap.size (fun k_ => (w.heap.size ≤ k_) ∧ some k_ ≠ ((.slice Ao21 t489.length co21) : Value).ownBlock ∧ some k_ ≠ (v493 : Value).ownBlock ∧ some k_ ≠ (v496 : Value).ownBlock ∧ some k_ ≠ (v499 : Value).ownBlock ∧ some k_ ≠ (v502 : Value).ownBlock) (.slice Ao20 t486.length co20) t486) ∧ Aside0 (Kd.R k28 28 wc w.heap.size (fun k_ => (w.heap.size ≤ k_) ∧ some k_ ≠ ((.slice Ao20 t486.length co20) : Value).ownBlock ∧ some k_ ≠ (v493 : Value).ownBlock ∧ some k_ ≠ (v496 : Value).ownBlock ∧ some k_ ≠ (v499 : Value).ownBlock ∧ some k_ ≠ (v502 : Value).ownBlock) (.slice Ao21 t489.length co21) t489) ∧ Aside0 (Kd.R k28 28 wc w.heap.size (fun k_ => (w.heap.size ≤ k_) ∧ some k_ ≠ ((.slice Ao20 t486.length co20) : Value).ownBlock ∧ some k_ ≠ ((.slice Ao21 t489.length co21) : Value).ownBlock ∧ some k_ ≠ (v496 : Value).ownBlock ∧ some k_ ≠ (v499 : Value).ownBlock ∧ some k_ ≠ (v502 : Value).ownBlock) v493 t492) ∧ Aside0 (Kd.R k28 28 wc w.heap.size (fun k_ => (w.heap.size ≤ k_) ∧ some k_ ≠ ((.slice Ao20 t486.length co20) : Value).ownBlock ∧ some k_ ≠ ((.slice Ao21 t489.length co21) : Value).ownBlock ∧ some k_ ≠ (v493 : Value).ownBlock ∧ some k_ ≠ (v499 : Value).ownBlock ∧ some k_ ≠ (v502 : Value).ownBlock) v496 t495) ∧ Aside0 (Kd.R k28 28 wc w.heap.size (fun k_ => (w.heap.size ≤ k_) ∧ some k_ ≠ ((.slice Ao20 t486.length co20) : Value).ownBlock ∧ some k_ ≠ ((.slice Ao21 t489.length co21) : Value).ownBlock ∧ some k_ ≠ (v493 : Value).ownBlock ∧ some k_ ≠ (v496 : Value).ownBlock ∧ some k_ ≠ (v502 : Value).ownBlock) v499 t498) ∧ Aside0 (Kd.R k28 28 wc w.heap.size (fun k_ => (w.heap.size ≤ k_) ∧ some k_ ≠ ((.slice Ao20 t486.length co20) : Value).ownBlock ∧ some k_ ≠ ((.slice Ao21 t489.length co21) : Value).ownBlock ∧ some k_ ≠ (v493 : Value).ownBlock ∧ some k_ ≠ (v496 : Value).ownBlock ∧ some k_ ≠ (v499 : Value).ownBlock) v502 t501) ∧ Aside0 (Below w.heap.size w wc))
   case first =>
    have H := HC13.out
    clear HC13
    replace H := Option.bind_eq_some_iff.mp H
    obtain ⟨t504, A260, H⟩ := H
    replace H : (if t504 = true then ((florinlaw10_settled.f k t495).bind fun t505 => (if t505 = true then ((florinlaw10_settled.f k t498).bind fun t506 => (if t506 = true then ((florinlaw10_settled.f k t501).bind fun t507 => (if t507 = true then ((class_Class_Not.f k t501).bind fun t508 => ((class_Class_Same.f k t508 t486).bind fun t511 => (if t511 = true then ((class_Class_Or.f k t489 t486).bind fun t512 => ((class_Class_Same.f k t492 t512).bind fun t515 => (if t515 = true then ((class_Class_And.f k t489 t486).bind fun t516 => ((class_Class_Same.f k t495 t516).bind fun t519 => (florinlaw10_ClassOps.j0 k l0 l1 t486 t489 t492 t495 t498 t501 (!t519)))) else (none)))) else (none)))) else (none))) else (none))) else (none))) else (none)) = some r := H
    have A26 := Aside0.mk A260
    clear A260
    by_cases c27 : t504 = true
    ·subst c27
     have H1 : ((florinlaw10_settled.f k t495).bind fun t505 => (if t505 = true then ((florinlaw10_settled.f k t498).bind fun t506 => (if t506 = true then ((florinlaw10_settled.f k t501).bind fun t507 => (if t507 = true then ((class_Class_Not.f k t501).bind fun t508 => ((class_Class_Same.f k t508 t486).bind fun t511 => (if t511 = true then ((class_Class_Or.f k t489 t486).bind fun t512 => ((class_Class_Same.f k t492 t512).bind fun t515 => (if t515 = true then ((class_Class_And.f k t489 t486).bind fun t516 => ((class_Class_Same.f k t495 t516).bind fun t519 => (florinlaw10_ClassOps.j0 k l0 l1 t486 t489 t492 t495 t498 t501 (!t519)))) else (none)))) else (none)))) else (none))) else (none))) else (none))) = some r := by rw [if_pos rfl] at H; exact H
     clear H
     have H := H1
     clear H1
     replace H := Option.bind_eq_some_iff.mp H
     obtain ⟨t505, A280, H⟩ := H
     replace H : (if t505 = true then ((florinlaw10_settled.f k t498).bind fun t506 => (if t506 = true then ((florinlaw10_settled.f k t501).bind fun t507 => (if t507 = true then ((class_Class_Not.f k t501).bind fun t508 => ((class_Class_Same.f k t508 t486).bind fun t511 => (if t511 = true then ((class_Class_Or.f k t489 t486).bind fun t512 => ((class_Class_Same.f k t492 t512).bind fun t515 => (if t515 = true then ((class_Class_And.f k t489 t486).bind fun t516 => ((class_Class_Same.f k t495 t516).bind fun t519 => (florinlaw10_ClassOps.j0 k l0 l1 t486 t489 t492 t495 t498 t501 (!t519)))) else (none)))) else (none)))) else (none))) else (none))) else (none)) = some r := H
     have A28 := Aside0.mk A280
     clear A280
     by_cases c29 : t505 = true
     ·subst c29
      have H1 : ((florinlaw10_settled.f k t498).bind fun t506 => (if t506 = true then ((florinlaw10_settled.f k t501).bind fun t507 => (if t507 = true then ((class_Class_Not.f k t501).bind fun t508 => ((class_Class_Same.f k t508 t486).bind fun t511 => (if t511 = true then ((class_Class_Or.f k t489 t486).bind fun t512 => ((class_Class_Same.f k t492 t512).bind fun t515 => (if t515 = true then ((class_Class_And.f k t489 t486).bind fun t516 => ((class_Class_Same.f k t495 t516).bind fun t519 => (florinlaw10_ClassOps.j0 k l0 l1 t486 t489 t492 t495 t498 t501 (!t519)))) else (none)))) else (none)))) else (none))) else (none))) = some r := by rw [if_pos rfl] at H; exact H
      clear H
      have H := H1
      clear H1
      replace H := Option.bind_eq_some_iff.mp H
      obtain ⟨t506, A300, H⟩ := H
      replace H : (if t506 = true then ((florinlaw10_settled.f k t501).bind fun t507 => (if t507 = true then ((class_Class_Not.f k t501).bind fun t508 => ((class_Class_Same.f k t508 t486).bind fun t511 => (if t511 = true then ((class_Class_Or.f k t489 t486).bind fun t512 => ((class_Class_Same.f k t492 t512).bind fun t515 => (if t515 = true then ((class_Class_And.f k t489 t486).bind fun t516 => ((class_Class_Same.f k t495 t516).bind fun t519 => (florinlaw10_ClassOps.j0 k l0 l1 t486 t489 t492 t495 t498 t501 (!t519)))) else (none)))) else (none)))) else (none))) else (none)) = some r := H
      have A30 := Aside0.mk A300
      clear A300
      by_cases c31 : t506 = true
      ·subst c31
       have H1 : ((florinlaw10_settled.f k t501).bind fun t507 => (if t507 = true then ((class_Class_Not.f k t501).bind fun t508 => ((class_Class_Same.f k t508 t486).bind fun t511 => (if t511 = true then ((class_Class_Or.f k t489 t486).bind fun t512 => ((class_Class_Same.f k t492 t512).bind fun t515 => (if t515 = true then ((class_Class_And.f k t489 t486).bind fun t516 => ((class_Class_Same.f k t495 t516).bind fun t519 => (florinlaw10_ClassOps.j0 k l0 l1 t486 t489 t492 t495 t498 t501 (!t519)))) else (none)))) else (none)))) else (none))) = some r := by rw [if_pos rfl] at H; exact H
       clear H
       have H := H1
       clear H1
       replace H := Option.bind_eq_some_iff.mp H
       obtain ⟨t507, A320, H⟩ := H
       replace H : (if t507 = true then ((class_Class_Not.f k t501).bind fun t508 => ((class_Class_Same.f k t508 t486).bind fun t511 => (if t511 = true then ((class_Class_Or.f k t489 t486).bind fun t512 => ((class_Class_Same.f k t492 t512).bind fun t515 => (if t515 = true then ((class_Class_And.f k t489 t486).bind fun t516 => ((class_Class_Same.f k t495 t516).bind fun t519 => (florinlaw10_ClassOps.j0 k l0 l1 t486 t489 t492 t495 t498 t501 (!t519)))) else (none)))) else (none)))) else (none)) = some r := H
       have A32 := Aside0.mk A320
       clear A320
       by_cases c33 : t507 = true
       ·subst c33
        have H1 : ((class_Class_Not.f k t501).bind fun t508 => ((class_Class_Same.f k t508 t486).bind fun t511 => (if t511 = true then ((class_Class_Or.f k t489 t486).bind fun t512 => ((class_Class_Same.f k t492 t512).bind fun t515 => (if t515 = true then ((class_Class_And.f k t489 t486).bind fun t516 => ((class_Class_Same.f k t495 t516).bind fun t519 => (florinlaw10_ClassOps.j0 k l0 l1 t486 t489 t492 t495 t498 t501 (!t519)))) else (none)))) else (none)))) = some r := by rw [if_pos rfl] at H; exact H
        clear H
        have H := H1
        clear H1
        replace H := Option.bind_eq_some_iff.mp H
        obtain ⟨t508, A340, H⟩ := H
        replace H : ((class_Class_Same.f k t508 t486).bind fun t511 => (if t511 = true then ((class_Class_Or.f k t489 t486).bind fun t512 => ((class_Class_Same.f k t492 t512).bind fun t515 => (if t515 = true then ((class_Class_And.f k t489 t486).bind fun t516 => ((class_Class_Same.f k t495 t516).bind fun t519 => (florinlaw10_ClassOps.j0 k l0 l1 t486 t489 t492 t495 t498 t501 (!t519)))) else (none)))) else (none))) = some r := H
        have A34 := Aside0.mk A340
        clear A340
        replace H := Option.bind_eq_some_iff.mp H
        obtain ⟨t511, A350, H⟩ := H
        replace H : (if t511 = true then ((class_Class_Or.f k t489 t486).bind fun t512 => ((class_Class_Same.f k t492 t512).bind fun t515 => (if t515 = true then ((class_Class_And.f k t489 t486).bind fun t516 => ((class_Class_Same.f k t495 t516).bind fun t519 => (florinlaw10_ClassOps.j0 k l0 l1 t486 t489 t492 t495 t498 t501 (!t519)))) else (none)))) else (none)) = some r := H
        have A35 := Aside0.mk A350
        clear A350
        by_cases c36 : t511 = true
        ·subst c36
         have H1 : ((class_Class_Or.f k t489 t486).bind fun t512 => ((class_Class_Same.f k t492 t512).bind fun t515 => (if t515 = true then ((class_Class_And.f k t489 t486).bind fun t516 => ((class_Class_Same.f k t495 t516).bind fun t519 => (florinlaw10_ClassOps.j0 k l0 l1 t486 t489 t492 t495 t498 t501 (!t519)))) else (none)))) = some r := by rw [if_pos rfl] at H; exact H
         clear H
         have H := H1
         clear H1
         replace H := Option.bind_eq_some_iff.mp H
         obtain ⟨t512, A370, H⟩ := H
         replace H : ((class_Class_Same.f k t492 t512).bind fun t515 => (if t515 = true then ((class_Class_And.f k t489 t486).bind fun t516 => ((class_Class_Same.f k t495 t516).bind fun t519 => (florinlaw10_ClassOps.j0 k l0 l1 t486 t489 t492 t495 t498 t501 (!t519)))) else (none))) = some r := H
         have A37 := Aside0.mk A370
         clear A370
         replace H := Option.bind_eq_some_iff.mp H
         obtain ⟨t515, A380, H⟩ := H
         replace H : (if t515 = true then ((class_Class_And.f k t489 t486).bind fun t516 => ((class_Class_Same.f k t495 t516).bind fun t519 => (florinlaw10_ClassOps.j0 k l0 l1 t486 t489 t492 t495 t498 t501 (!t519)))) else (none)) = some r := H
         have A38 := Aside0.mk A380
         clear A380
         by_cases c39 : t515 = true
         ·subst c39
          have H1 : ((class_Class_And.f k t489 t486).bind fun t516 => ((class_Class_Same.f k t495 t516).bind fun t519 => (florinlaw10_ClassOps.j0 k l0 l1 t486 t489 t492 t495 t498 t501 (!t519)))) = some r := by rw [if_pos rfl] at H; exact H
          clear H
          have H := H1
          clear H1
          replace H := Option.bind_eq_some_iff.mp H
          obtain ⟨t516, A400, H⟩ := H
          replace H : ((class_Class_Same.f k t495 t516).bind fun t519 => (florinlaw10_ClassOps.j0 k l0 l1 t486 t489 t492 t495 t498 t501 (!t519))) = some r := H
          have A40 := Aside0.mk A400
          clear A400
          replace H := Option.bind_eq_some_iff.mp H
          obtain ⟨t519, A410, H⟩ := H
          replace H : (florinlaw10_ClassOps.j0 k l0 l1 t486 t489 t492 t495 t498 t501 (!t519)) = some r := H
          have A41 := Aside0.mk A410
          clear A410
          have H' := Aside0.mk H
          clear H
          obtain ⟨Ao42, co42, eo42⟩ := Kd.R_slice HO494.out
          subst eo42
          go_wp2_with (first | ((with_reducible refine gate_callee (f := 15) rfl ?_); refine gl_ (some 39) Tryz.func15 #[.slice Ao42 t492.length co42] ?_; (with_reducible refine (florinlaw10_settled.calls k _ _ t492 true _ ?side1 ?side2 A26.out).mono ?_); (case side1 => exact kc_ HO494); (case side2 => exact kl_ HO494); rintro e w43 ⟨rfl, hb⟩; refine ⟨_, rfl, ?_⟩; replace HO0 := Aside0.mk (Kd.V_below (krV_ HO0) hb); replace HO1 := Aside0.mk (Kd.V_below (krV_ HO1) hb); replace HO484 := Aside0.mk (Kd.N_below (krN_ HO484) hb); replace HO488 := kb_ HO488 hb; replace HO491 := kb_ HO491 hb; replace HO494 := kb_ HO494 hb; replace HO497 := kb_ HO497 hb; replace HO500 := kb_ HO500 hb; replace HO503 := kb_ HO503 hb; replace HB := Aside0.mk (below_step (bl_ HB).out hb); (try clear hb); obtain ⟨Ao44, co44, eo44⟩ := Kd.R_slice HO497.out; subst eo44) | (go_at_call 15; (with_reducible refine (florinlaw10_settled.calls k _ _ t495 true _ ?side1 ?side2 A28.out).mono ?_); (case side1 => exact kc_ HO497); (case side2 => exact kl_ HO497); rintro e w45 ⟨rfl, hb⟩; replace HO0 := Aside0.mk (Kd.V_below (krV_ HO0) hb); replace HO1 := Aside0.mk (Kd.V_below (krV_ HO1) hb); replace HO484 := Aside0.mk (Kd.N_below (krN_ HO484) hb); replace HO488 := kb_ HO488 hb; replace HO491 := kb_ HO491 hb; replace HO494 := kb_ HO494 hb; replace HO497 := kb_ HO497 hb; replace HO500 := kb_ HO500 hb; replace HO503 := kb_ HO503 hb; replace HB := Aside0.mk (below_step (bl_ HB).out hb); (try clear hb); obtain ⟨Ao46, co46, eo46⟩ := Kd.R_slice HO500.out; subst eo46) | (go_at_call 15; (with_reducible refine (florinlaw10_settled.calls k _ _ t498 true _ ?side1 ?side2 A30.out).mono ?_); (case side1 => exact kc_ HO500); (case side2 => exact kl_ HO500); rintro e w47 ⟨rfl, hb⟩; replace HO0 := Aside0.mk (Kd.V_below (krV_ HO0) hb); replace HO1 := Aside0.mk (Kd.V_below (krV_ HO1) hb); replace HO484 := Aside0.mk (Kd.N_below (krN_ HO484) hb); replace HO488 := kb_ HO488 hb; replace HO491 := kb_ HO491 hb; replace HO494 := kb_ HO494 hb; replace HO497 := kb_ HO497 hb; replace HO500 := kb_ HO500 hb; replace HO503 := kb_ HO503 hb; replace HB := Aside0.mk (below_step (bl_ HB).out hb); (try clear hb); obtain ⟨Ao48, co48, eo48⟩ := Kd.R_slice HO503.out; subst eo48) | (go_at_call 15; (with_reducible refine (florinlaw10_settled.calls k _ _ t501 true _ ?side1 ?side2 A32.out).mono ?_); (case side1 => exact kc_ HO503); (case side2 => exact kl_ HO503); rintro e w49 ⟨rfl, hb⟩; replace HO0 := Aside0.mk (Kd.V_below (krV_ HO0) hb); replace HO1 := Aside0.mk (Kd.V_below (krV_ HO1) hb); replace HO484 := Aside0.mk (Kd.N_below (krN_ HO484) hb); replace HO488 := kb_ HO488 hb; replace HO491 := kb_ HO491 hb; replace HO494 := kb_ HO494 hb; replace HO497 := kb_ HO497 hb; replace HO500 := kb_ HO500 hb; replace HO503 := kb_ HO503 hb; replace HB := Aside0.mk (below_step (bl_ HB).out hb); (try clear hb); (try clear hi)) | (go_at_call 18; (with_reducible refine (class_Class_Not.calls k _ _ t501 t508 _ ?side1 ?side2 A34.out).mono ?_); (case side1 => exact kc_ HO503); (case side2 => exact kl_ HO503); rintro e w50 ⟨v509, rfl, ho0, hb⟩; have HO510 := Aside0.mk (Kd.R_lower (Kd.R_new' (Kd.R_new' (Kd.R_new' (Kd.R_new' (Kd.R_new' (Kd.R_new' (Kd.R_newM (M := fun k_ => (w.heap.size ≤ k_)) ho0 (below_size (bl_ HB).out) (fun k_ h_ => h_)) (kx_ HO488)) (kx_ HO491)) (kx_ HO494)) (kx_ HO497)) (kx_ HO500)) (kx_ HO503)) (below_size (bl_ HB).out)); replace HO0 := Aside0.mk (Kd.V_elder' (krV_ HO0) (Kd.R_base ho0) hb); replace HO1 := Aside0.mk (Kd.V_elder' (krV_ HO1) (Kd.R_base ho0) hb); replace HO484 := Aside0.mk (Kd.N_elder' (krN_ HO484) (Kd.R_base ho0) hb); replace HO488 := ke_ HO488 ho0 hb; replace HO491 := ke_ HO491 ho0 hb; replace HO494 := ke_ HO494 ho0 hb; replace HO497 := ke_ HO497 ho0 hb; replace HO500 := ke_ HO500 ho0 hb; replace HO503 := ke_ HO503 ho0 hb; replace HB := Aside0.mk (below_step (bl_ HB).out hb); (try clear hb); (try clear ho0); obtain ⟨Ao51, co51, eo51⟩ := Kd.R_slice HO510.out; subst eo51) | (go_at_call 16; (with_reducible refine (class_Class_Same.calls k _ _ t508 _ _ t486 true _ ?side1 ?side2 ?side3 ?side4 A35.out).mono ?_); (case side1 => exact kc_ HO510); (case side2 => exact kl_ HO510); (case side3 => exact kc_ HO488); (case side4 => exact kl_ HO488); rintro e w' ⟨rfl, ⟨nd, rfl⟩⟩) | (go_at_call 22; (with_reducible refine (class_Class_Or.calls k _ _ t489 _ _ t486 t512 _ ?side1 ?side2 ?side3 ?side4 A37.out).mono ?_); (case side1 => exact kc_ HO491); (case side2 => exact kl_ HO491); (case side3 => exact kc_ HO488); (case side4 => exact kl_ HO488); rintro e w52 ⟨v513, rfl, ho0, hb⟩; have HO514 := Aside0.mk (Kd.R_lower (Kd.R_new' (Kd.R_new' (Kd.R_new' (Kd.R_new' (Kd.R_new' (Kd.R_new' (Kd.R_new' (Kd.R_newM (M := fun k_ => (w.heap.size ≤ k_)) ho0 (below_size (bl_ HB).out) (fun k_ h_ => h_)) (kx_ HO488)) (kx_ HO491)) (kx_ HO494)) (kx_ HO497)) (kx_ HO500)) (kx_ HO503)) (kx_ HO510)) (below_size (bl_ HB).out)); replace HO0 := Aside0.mk (Kd.V_elder' (krV_ HO0) (Kd.R_base ho0) hb); replace HO1 := Aside0.mk (Kd.V_elder' (krV_ HO1) (Kd.R_base ho0) hb); replace HO484 := Aside0.mk (Kd.N_elder' (krN_ HO484) (Kd.R_base ho0) hb); replace HO488 := ke_ HO488 ho0 hb; replace HO491 := ke_ HO491 ho0 hb; replace HO494 := ke_ HO494 ho0 hb; replace HO497 := ke_ HO497 ho0 hb; replace HO500 := ke_ HO500 ho0 hb; replace HO503 := ke_ HO503 ho0 hb; replace HO510 := ke_ HO510 ho0 hb; replace HB := Aside0.mk (below_step (bl_ HB).out hb); (try clear hb); (try clear ho0); obtain ⟨Ao53, co53, eo53⟩ := Kd.R_slice HO514.out; subst eo53) | (go_at_call 16; (with_reducible refine (class_Class_Same.calls k _ _ t492 _ _ t512 true _ ?side1 ?side2 ?side3 ?side4 A38.out).mono ?_); (case side1 => exact kc_ HO494); (case side2 => exact kl_ HO494); (case side3 => exact kc_ HO514); (case side4 => exact kl_ HO514); rintro e w' ⟨rfl, ⟨nd, rfl⟩⟩) | (go_at_call 23; (with_reducible refine (class_Class_And.calls k _ _ t489 _ _ t486 t516 _ ?side1 ?side2 ?side3 ?side4 A40.out).mono ?_); (case side1 => exact kc_ HO491); (case side2 => exact kl_ HO491); (case side3 => exact kc_ HO488); (case side4 => exact kl_ HO488); rintro e w54 ⟨v517, rfl, ho0, hb⟩; have HO518 := Aside0.mk (Kd.R_lower (Kd.R_new' (Kd.R_new' (Kd.R_new' (Kd.R_new' (Kd.R_new' (Kd.R_new' (Kd.R_new' (Kd.R_new' (Kd.R_newM (M := fun k_ => (w.heap.size ≤ k_)) ho0 (below_size (bl_ HB).out) (fun k_ h_ => h_)) (kx_ HO488)) (kx_ HO491)) (kx_ HO494)) (kx_ HO497)) (kx_ HO500)) (kx_ HO503)) (kx_ HO510)) (kx_ HO514)) (below_size (bl_ HB).out)); replace HO0 := Aside0.mk (Kd.V_elder' (krV_ HO0) (Kd.R_base ho0) hb); replace HO1 := Aside0.mk (Kd.V_elder' (krV_ HO1) (Kd.R_base ho0) hb); replace HO484 := Aside0.mk (Kd.N_elder' (krN_ HO484) (Kd.R_base ho0) hb); replace HO488 := ke_ HO488 ho0 hb; replace HO491 := ke_ HO491 ho0 hb; replace HO494 := ke_ HO494 ho0 hb; replace HO497 := ke_ HO497 ho0 hb; replace HO500 := ke_ HO500 ho0 hb; replace HO503 := ke_ HO503 ho0 hb; replace HO510 := ke_ HO510 ho0 hb; replace HO514 := ke_ HO514 ho0 hb; replace HB := Aside0.mk (below_step (bl_ HB).out hb); (try clear hb); (try clear ho0); obtain ⟨Ao55, co55, eo55⟩ := Kd.R_slice HO518.out; subst eo55) | (go_at_call 16; (with_reducible refine (class_Class_Same.calls k _ _ t495 _ _ t516 t519 _ ?side1 ?side2 ?side3 ?side4 A41.out).mono ?_); (case side1 => exact kc_ HO497); (case side2 => exact kl_ HO497); (case side3 => exact kc_ HO518); (case side4 => exact kl_ HO518); rintro e w' ⟨rfl, ⟨nd, rfl⟩⟩))
          go_meet
          case rel => exact ⟨_, (!t519), eq_, H', ⟨by first | omega | exact Nat.le_refl _⟩, ⟨by (with_reducible repeat (first | apply Kd.V_alloc | apply Kd.V_drewN | apply Kd.V_drew)); exact Kd.V_mono HO0.out (fun _ hk => ⟨hk.1.1.1.1.1.1.1.1.1.1, ⟨hk.1.1.1.1.1.1.1.1.2, ⟨hk.1.1.1.1.1.1.1.2, ⟨hk.1.1.1.1.1.1.2, ⟨hk.1.1.1.1.1.2, ⟨hk.1.1.1.1.2, hk.1.1.1.2⟩⟩⟩⟩⟩⟩)⟩, ⟨by (with_reducible repeat (first | apply Kd.V_alloc | apply Kd.V_drewN | apply Kd.V_drew)); exact Kd.V_mono HO1.out (fun _ hk => ⟨hk.1.1.1.1.1.1.1.1.1.1, ⟨hk.1.1.1.1.1.1.1.1.2, ⟨hk.1.1.1.1.1.1.1.2, ⟨hk.1.1.1.1.1.1.2, ⟨hk.1.1.1.1.1.2, ⟨hk.1.1.1.1.2, hk.1.1.1.2⟩⟩⟩⟩⟩⟩)⟩, ⟨by (with_reducible repeat (first | apply Kd.R_alloc | apply Kd.R_drewN | apply Kd.R_drew)); exact Kd.R_mono HO488.out (fun _ hk => ⟨hk.1.1.1.1.1.1.1.1.1, ⟨hk.1.1.1.1.1.1.1.2, ⟨hk.1.1.1.1.1.1.2, ⟨hk.1.1.1.1.1.2, ⟨hk.1.1.1.1.2, hk.1.1.1.2⟩⟩⟩⟩⟩)⟩, ⟨by (with_reducible repeat (first | apply Kd.R_alloc | apply Kd.R_drewN | apply Kd.R_drew)); exact Kd.R_mono HO491.out (fun _ hk => ⟨hk.1.1.1.1.1.1.1.1.1, ⟨hk.1.1.1.1.1.1.1.2, ⟨hk.1.1.1.1.1.1.2, ⟨hk.1.1.1.1.1.2, ⟨hk.1.1.1.1.2, hk.1.1.1.2⟩⟩⟩⟩⟩)⟩, ⟨by (with_reducible repeat (first | apply Kd.R_alloc | apply Kd.R_drewN | apply Kd.R_drew)); exact Kd.R_mono HO494.out (fun _ hk => ⟨hk.1.1.1.1.1.1.1.1.1, ⟨hk.1.1.1.1.1.1.1.2, ⟨hk.1.1.1.1.1.1.2, ⟨hk.1.1.1.1.1.2, ⟨hk.1.1.1.1.2, hk.1.1.1.2⟩⟩⟩⟩⟩)⟩, ⟨by (with_reducible repeat (first | apply Kd.R_alloc | apply Kd.R_drewN | apply Kd.R_drew)); exact Kd.R_mono HO497.out (fun _ hk => ⟨hk.1.1.1.1.1.1.1.1.1, ⟨hk.1.1.1.1.1.1.1.2, ⟨hk.1.1.1.1.1.1.2, ⟨hk.1.1.1.1.1.2, ⟨hk.1.1.1.1.2, hk.1.1.1.2⟩⟩⟩⟩⟩)⟩, ⟨by (with_reducible repeat (first | apply Kd.R_alloc | apply Kd.R_drewN | apply Kd.R_drew)); exact Kd.R_mono HO500.out (fun _ hk => ⟨hk.1.1.1.1.1.1.1.1.1, ⟨hk.1.1.1.1.1.1.1.2, ⟨hk.1.1.1.1.1.1.2, ⟨hk.1.1.1.1.1.2, ⟨hk.1.1.1.1.2, hk.1.1.1.2⟩⟩⟩⟩⟩)⟩, ⟨by (with_reducible repeat (first | apply Kd.R_alloc | apply Kd.R_drewN | apply Kd.R_drew)); exact Kd.R_mono HO503.out (fun _ hk => ⟨hk.1.1.1.1.1.1.1.1.1, ⟨hk.1.1.1.1.1.1.1.2, ⟨hk.1.1.1.1.1.1.2, ⟨hk.1.1.1.1.1.2, ⟨hk.1.1.1.1.2, hk.1.1.1.2⟩⟩⟩⟩⟩)⟩, (bl_ HB)⟩
         ·replace c39 := Bool.eq_false_iff.mpr c39
          subst c39
          have H1 : (none) = some r := by rw [if_neg (show ¬ (false = true) by decide)] at H; exact H
          clear H
          have H := H1
          clear H1
          exact absurd H (by simp)
        ·replace c36 := Bool.eq_false_iff.mpr c36
         subst c36
         have H1 : (none) = some r := by rw [if_neg (show ¬ (false = true) by decide)] at H; exact H
         clear H
         have H := H1
         clear H1
         exact absurd H (by simp)
       ·replace c33 := Bool.eq_false_iff.mpr c33
        subst c33
        have H1 : (none) = some r := by rw [if_neg (show ¬ (false = true) by decide)] at H; exact H
        clear H
        have H := H1
        clear H1
        exact absurd H (by simp)
      ·replace c31 := Bool.eq_false_iff.mpr c31
       subst c31
       have H1 : (none) = some r := by rw [if_neg (show ¬ (false = true) by decide)] at H; exact H
       clear H
       have H := H1
       clear H1
       exact absurd H (by simp)
     ·replace c29 := Bool.eq_false_iff.mpr c29
      subst c29
      have H1 : (none) = some r := by rw [if_neg (show ¬ (false = true) by decide)] at H; exact H
      clear H
      have H := H1
      clear H1
      exact absurd H (by simp)
    ·replace c27 := Bool.eq_false_iff.mpr c27
     subst c27
     have H1 : (none) = some r := by rw [if_neg (show ¬ (false = true) by decide)] at H; exact H
     clear H
     have H := H1
     clear H1
     exact absurd H (by simp)
   case rest =>
    clear HC13
    try clear c1
    try clear c2
    try clear p2
    try clear c3
    try clear c4
    try clear c6
    try clear p6
    try clear c7
    try clear c9
    try clear c10
    try clear c11
    try clear c15
    try clear c18
    try clear c22
    try clear c23
    try clear c24
    try clear c27
    try clear c29
    try clear c31
    try clear c33
    try clear c36
    try clear c39
    obtain ⟨kq, x78_12, rfl, HA, HJ12, HO_0, HO_1, HO_5, HO_6, HO_7, HO_8, HO_9, HO_10, HB⟩ := hcut
    cases kq with
    | zero => exact absurd HA.out (by simp [florinlaw10_ClassOps.j0])
    | succ kj12 =>
     have H := HA.out
     clear HA
     simp only [florinlaw10_ClassOps.j0] at H
     by_cases c56 : x78_12 = true
     ·subst c56
      have H1 : (none) = some r := by rw [if_pos rfl] at H; exact H
      clear H
      have H := H1
      clear H1
      exact absurd H (by simp)
     ·replace c56 := Bool.eq_false_iff.mpr c56
      subst c56
      have H1 : ((florinlaw10_bounds.f kj12 (([l0, l1] : List (List (S28))))).bind fun t523 => (florinlaw10_ClassOps.l0 kj12 l0 l1 t486 t489 t492 t495 t498 t501 true t523 (t523.length : Int) 0)) = some r := by rw [if_neg (show ¬ (false = true) by decide)] at H; exact H
      clear H
      have H := H1
      clear H1
      obtain ⟨y520, hy520⟩ : ∃ y_ : List (List (S28)), y_ = (([l0, l1] : List (List (S28)))) := ⟨_, rfl⟩
      replace H : ((florinlaw10_bounds.f kj12 y520).bind fun t523 => (florinlaw10_ClassOps.l0 kj12 l0 l1 t486 t489 t492 t495 t498 t501 true t523 (t523.length : Int) 0)) = some r := by first | (rw [hy520]; with_reducible exact H) | (have H2_ := (Option.bind_some _ _).symm.trans H; rw [hy520]; with_reducible exact H2_) | (have H2_ := (Option.bind_some _ _).symm.trans H; with_reducible exact H2_) | with_reducible exact H | (rw [hy520]; exact H) | exact H
      have Ny520 := Aside0.mk hy520
      clear hy520
      replace H := Option.bind_eq_some_iff.mp H
      obtain ⟨t523, A570, H⟩ := H
      replace H : (florinlaw10_ClassOps.l0 kj12 l0 l1 t486 t489 t492 t495 t498 t501 true t523 (t523.length : Int) 0) = some r := H
      have A57 := Aside0.mk A570
      clear A570
      have H' := Aside0.mk H
      clear H
      go_wp2_with (first | ((with_reducible refine gate_dst (N := 81) rfl ?_); (try (refine gate_guard (by rfl) ?_; dsimp only)); refine Kd.N_lit (Kd.slice 28 k28) _ 22 ?hg (N' := 81) ?hd (xs := ([l0, l1] : List (List (S28)))) (inner := [.slice A0 l0.length c0, .slice A1 l1.length c1]) (ok := (fun k_ => ((P0_ k_ ∨ P1_ k_) ∨ w.heap.size ≤ k_) ∧ some k_ ≠ (.slice Ao20 t486.length co20 : Value).ownBlock ∧ some k_ ≠ (.slice Ao21 t489.length co21 : Value).ownBlock ∧ some k_ ≠ (v493 : Value).ownBlock ∧ some k_ ≠ (v496 : Value).ownBlock ∧ some k_ ≠ (v499 : Value).ownBlock ∧ some k_ ≠ (v502 : Value).ownBlock)) (okp := (fun k_ => ((P0_ k_ ∨ P1_ k_) ∨ w.heap.size ≤ k_) ∧ some k_ ≠ (.slice Ao20 t486.length co20 : Value).ownBlock ∧ some k_ ≠ (.slice Ao21 t489.length co21 : Value).ownBlock ∧ some k_ ≠ (v493 : Value).ownBlock ∧ some k_ ≠ (v496 : Value).ownBlock ∧ some k_ ≠ (v499 : Value).ownBlock ∧ some k_ ≠ (v502 : Value).ownBlock)) ?hr ?hp (fun _ hk => hk) ((show ∀ k_, wc.heap.size ≤ k_ → (fun k_ => ((P0_ k_ ∨ P1_ k_) ∨ w.heap.size ≤ k_) ∧ some k_ ≠ (.slice Ao20 t486.length co20 : Value).ownBlock ∧ some k_ ≠ (.slice Ao21 t489.length co21 : Value).ownBlock ∧ some k_ ≠ (v493 : Value).ownBlock ∧ some k_ ≠ (v496 : Value).ownBlock ∧ some k_ ≠ (v499 : Value).ownBlock ∧ some k_ ≠ (v502 : Value).ownBlock) k_ from fun k_ hk => ⟨(.inr (Nat.le_trans (below_size (bl_ HB).out) hk)), Kd.fresh' (kx_ HO_5) k_ hk, Kd.fresh' (kx_ HO_6) k_ hk, Kd.fresh' (kx_ HO_7) k_ hk, Kd.fresh' (kx_ HO_8) k_ hk, Kd.fresh' (kx_ HO_9) k_ hk, Kd.fresh' (kx_ HO_10) k_ hk⟩) _ (Nat.le_refl _)) (Below.refl _ _) (Nat.le_refl _) (by simp) ?_; (case hd => rfl); (case hg => rfl); (case hr => first | (go_simp; done) | (go_simp; rfl)); (case hp => exact (Reps.one (show Kd.FK (Kd.slice 28 k28) _ _ l0 [.slice A0 l0.length c0] from (Kd.FK_slice_mk (Kd.V_reads' (Kd.V_mono (ok' := (fun k_ => ((P0_ k_ ∨ P1_ k_) ∨ w.heap.size ≤ k_) ∧ some k_ ≠ (.slice Ao20 t486.length co20 : Value).ownBlock ∧ some k_ ≠ (.slice Ao21 t489.length co21 : Value).ownBlock ∧ some k_ ≠ (v493 : Value).ownBlock ∧ some k_ ≠ (v496 : Value).ownBlock ∧ some k_ ≠ (v499 : Value).ownBlock ∧ some k_ ≠ (v502 : Value).ownBlock)) (HO_0.out) (fun k_ hk => ⟨hk.1, ⟨hk.2.1, ⟨hk.2.2.1, ⟨hk.2.2.2.1, ⟨hk.2.2.2.2.1, ⟨hk.2.2.2.2.2.1, hk.2.2.2.2.2.2⟩⟩⟩⟩⟩⟩))).2.1 (Kd.V_F (Kd.V_mono (ok' := (fun k_ => ((P0_ k_ ∨ P1_ k_) ∨ w.heap.size ≤ k_) ∧ some k_ ≠ (.slice Ao20 t486.length co20 : Value).ownBlock ∧ some k_ ≠ (.slice Ao21 t489.length co21 : Value).ownBlock ∧ some k_ ≠ (v493 : Value).ownBlock ∧ some k_ ≠ (v496 : Value).ownBlock ∧ some k_ ≠ (v499 : Value).ownBlock ∧ some k_ ≠ (v502 : Value).ownBlock)) (HO_0.out) (fun k_ hk => ⟨hk.1, ⟨hk.2.1, ⟨hk.2.2.1, ⟨hk.2.2.2.1, ⟨hk.2.2.2.2.1, ⟨hk.2.2.2.2.2.1, hk.2.2.2.2.2.2⟩⟩⟩⟩⟩⟩))))) (Reps.one (show Kd.FK (Kd.slice 28 k28) _ _ l1 [.slice A1 l1.length c1] from (Kd.FK_slice_mk (Kd.V_reads' (Kd.V_mono (ok' := (fun k_ => ((P0_ k_ ∨ P1_ k_) ∨ w.heap.size ≤ k_) ∧ some k_ ≠ (.slice Ao20 t486.length co20 : Value).ownBlock ∧ some k_ ≠ (.slice Ao21 t489.length co21 : Value).ownBlock ∧ some k_ ≠ (v493 : Value).ownBlock ∧ some k_ ≠ (v496 : Value).ownBlock ∧ some k_ ≠ (v499 : Value).ownBlock ∧ some k_ ≠ (v502 : Value).ownBlock)) (HO_1.out) (fun k_ hk => ⟨hk.1, ⟨hk.2.1, ⟨hk.2.2.1, ⟨hk.2.2.2.1, ⟨hk.2.2.2.2.1, ⟨hk.2.2.2.2.2.1, hk.2.2.2.2.2.2⟩⟩⟩⟩⟩⟩))).2.1 (Kd.V_F (Kd.V_mono (ok' := (fun k_ => ((P0_ k_ ∨ P1_ k_) ∨ w.heap.size ≤ k_) ∧ some k_ ≠ (.slice Ao20 t486.length co20 : Value).ownBlock ∧ some k_ ≠ (.slice Ao21 t489.length co21 : Value).ownBlock ∧ some k_ ≠ (v493 : Value).ownBlock ∧ some k_ ≠ (v496 : Value).ownBlock ∧ some k_ ≠ (v499 : Value).ownBlock ∧ some k_ ≠ (v502 : Value).ownBlock)) (HO_1.out) (fun k_ hk => ⟨hk.1, ⟨hk.2.1, ⟨hk.2.2.1, ⟨hk.2.2.2.1, ⟨hk.2.2.2.2.1, ⟨hk.2.2.2.2.2.1, hk.2.2.2.2.2.2⟩⟩⟩⟩⟩⟩))))) (Reps.none _ _)))); intro v521 w58 ho59 hb hg_ hnew_; clear hg_ hnew_; (first | rw [← Ny520.out] at ho59 | (simp only [Int.reduceToNat] at ho59; rw [← Ny520.out] at ho59)); have HO522 := Aside0.mk (Kd.N_lower ho59 (below_size (bl_ HB).out)); replace HO_0 := Aside0.mk (Kd.V_elder' (krV_ HO_0) (Kd.N_base ho59) hb); replace HO_1 := Aside0.mk (Kd.V_elder' (krV_ HO_1) (Kd.N_base ho59) hb); replace HO_5 := kb_ HO_5 hb; replace HO_6 := kb_ HO_6 hb; replace HO_7 := kb_ HO_7 hb; replace HO_8 := kb_ HO_8 hb; replace HO_9 := kb_ HO_9 hb; replace HO_10 := kb_ HO_10 hb; replace HB := Aside0.mk (below_step (bl_ HB).out hb); clear hb ho59; obtain ⟨Ao60, co60, eo60⟩ := Kd.N_slice HO522.out; subst eo60) | ((with_reducible refine gate_callee (f := 12) rfl ?_); refine gl_ (some 82) Tryz.func12 #[.slice Ao60 y520.length co60] ?_; (with_reducible refine (florinlaw10_bounds.calls kj12 _ _ y520 t523 _ ?side1 ?side2 A57.out).mono ?_); (case side1 => repeat (first | exact (Kd.N_reads' HO522.out).2.2 | (with_reducible refine Kd.C_alloc ?_ _) | (with_reducible refine Kd.C_drewN ?_ _) | (with_reducible refine Kd.C_drew ?_))); (case side2 => exact (Kd.N_reads' HO522.out).2.1); rintro e w61 ⟨v524, rfl, ho0, hb⟩; refine ⟨_, rfl, ?_⟩; have HO525 := Aside0.mk (Kd.R_lower (Kd.R_newM (M := fun k_ => (w.heap.size ≤ k_)) ho0 (below_size (bl_ HB).out) (fun k_ h_ => h_)) (below_size (bl_ HB).out)); replace HO_0 := Aside0.mk (Kd.V_elder' (krV_ HO_0) (Kd.R_base ho0) hb); replace HO_1 := Aside0.mk (Kd.V_elder' (krV_ HO_1) (Kd.R_base ho0) hb); replace HO_5 := kb_ HO_5 hb; replace HO_6 := kb_ HO_6 hb; replace HO_7 := kb_ HO_7 hb; replace HO_8 := kb_ HO_8 hb; replace HO_9 := kb_ HO_9 hb; replace HO_10 := kb_ HO_10 hb; replace HO522 := Aside0.mk (Kd.N_elder' (krN_ HO522) (Kd.R_base ho0) hb); replace HB := Aside0.mk (below_step (bl_ HB).out hb); (try clear hb); (try clear ho0); obtain ⟨Ao62, co62, eo62⟩ := Kd.R_slice HO525.out; subst eo62))
      go_loopg [11, 84] kj12 (fun kq v11 v84 w' => ∃ (x11_2 : Bool) (x84_2 : Int), v11 = .bool x11_2 ∧ v84 = .int .i64 x84_2 ∧ Aside0 (florinlaw10_ClassOps.l0 kq l0 l1 t486 t489 t492 t495 t498 t501 x11_2 t523 (t523.length : Int) x84_2 = some r) ∧ Aside0 (kq ≤ kj12) ∧ Aside0 (Kd.V k28 28 w' w.heap.size (fun k_ => ((P0_ k_ ∨ P1_ k_) ∨ w.heap.size ≤ k_) ∧ some k_ ≠ ((.slice Ao20 t486.length co20) : Value).ownBlock ∧ some k_ ≠ ((.slice Ao21 t489.length co21) : Value).ownBlock ∧ some k_ ≠ (v493 : Value).ownBlock ∧ some k_ ≠ (v496 : Value).ownBlock ∧ some k_ ≠ (v499 : Value).ownBlock ∧ some k_ ≠ (v502 : Value).ownBlock ∧ some k_ ≠ ((.slice Ao62 t523.length co62) : Value).ownBlock) (.slice A0 l0.length c0) l0) ∧ Aside0 (Kd.V k28 28 w' w.heap.size (fun k_ => ((P0_ k_ ∨ P1_ k_) ∨ w.heap.size ≤ k_) ∧ some k_ ≠ ((.slice Ao20 t486.length co20) : Value).ownBlock ∧ some k_ ≠ ((.slice Ao21 t489.length co21) : Value).ownBlock ∧ some k_ ≠ (v493 : Value).ownBlock ∧ some k_ ≠ (v496 : Value).ownBlock ∧ some k_ ≠ (v499 : Value).ownBlock ∧ some k_ ≠ (v502 : Value).ownBlock ∧ some k_ ≠ ((.slice Ao62 t523.length co62) : Value).ownBlock) (.slice A1 l1.length c1) l1) ∧ Aside0 (Kd.R k28 28 w' w.heap.size (fun k_ => (w.heap.size ≤ k_) ∧ some k_ ≠ ((.slice Ao21 t489.length co21) : Value).ownBlock ∧ some k_ ≠ (v493 : Value).ownBlock ∧ some k_ ≠ (v496 : Value).ownBlock ∧ some k_ ≠ (v499 : Value).ownBlock ∧ some k_ ≠ (v502 : Value).ownBlock) (.slice Ao20 t486.length co20) t486) ∧ Aside0 (Kd.R k28 28 w' w.heap.size (fun k_ => (w.heap.size ≤ k_) ∧ some k_ ≠ ((.slice Ao20 t486.length co20) : Value).ownBlock ∧ some k_ ≠ (v493 : Value).ownBlock ∧ some k_ ≠ (v496 : Value).ownBlock ∧ some k_ ≠ (v499 : Value).ownBlock ∧ some k_ ≠ (v502 : Value).ownBlock) (.slice Ao21 t489.length co21) t489) ∧ Aside0 (Kd.R k28 28 w' w.heap.size (fun k_ => (w.heap.size ≤ k_) ∧ some k_ ≠ ((.slice Ao20 t486.length co20) : Value).ownBlock ∧ some k_ ≠ ((.slice Ao21 t489.length co21) : Value).ownBlock ∧ some k_ ≠ (v496 : Value).ownBlock ∧ some k_ ≠ (v499 : Value).ownBlock ∧ some k_ ≠ (v502 : Value).ownBlock) v493 t492) ∧ Aside0 (Kd.R k28 28 w' w.heap.size (fun k_ => (w.heap.size ≤ k_) ∧ some k_ ≠ ((.slice Ao20 t486.length co20) : Value).ownBlock ∧ some k_ ≠ ((.slice Ao21 t489.length co21) : Value).ownBlock ∧ some k_ ≠ (v493 : Value).ownBlock ∧ some k_ ≠ (v499 : Value).ownBlock ∧ some k_ ≠ (v502 : Value).ownBlock) v496 t495) ∧ Aside0 (Kd.R k28 28 w' w.heap.size (fun k_ => (w.heap.size ≤ k_) ∧ some k_ ≠ ((.slice Ao20 t486.length co20) : Value).ownBlock ∧ some k_ ≠ ((.slice Ao21 t489.length co21) : Value).ownBlock ∧ some k_ ≠ (v493 : Value).ownBlock ∧ some k_ ≠ (v496 : Value).ownBlock ∧ some k_ ≠ (v502 : Value).ownBlock) v499 t498) ∧ Aside0 (Kd.R k28 28 w' w.heap.size (fun k_ => (w.heap.size ≤ k_) ∧ some k_ ≠ ((.slice Ao20 t486.length co20) : Value).ownBlock ∧ some k_ ≠ ((.slice Ao21 t489.length co21) : Value).ownBlock ∧ some k_ ≠ (v493 : Value).ownBlock ∧ some k_ ≠ (v496 : Value).ownBlock ∧ some k_ ≠ (v499 : Value).ownBlock) v502 t501) ∧ Aside0 (Kd.R (Kd.int .i32) 21 w' w.heap.size (fun k_ => (w.heap.size ≤ k_)) (.slice Ao62 t523.length co62) t523) ∧ Aside0 (Below w.heap.size w w'))
      case atStart => exact ⟨(true), (0), eq_, eq_, H', ⟨Nat.le_refl _⟩, ⟨by (with_reducible repeat (first | apply Kd.V_alloc | apply Kd.V_drewN | apply Kd.V_drew)); exact Kd.V_mono HO_0.out (fun _ hk => ⟨hk.1.1.1, ⟨hk.1.1.2.1, ⟨hk.1.1.2.2.1, ⟨hk.1.1.2.2.2.1, ⟨hk.1.1.2.2.2.2.1, ⟨hk.1.1.2.2.2.2.2.1, ⟨hk.1.1.2.2.2.2.2.2, hk.2⟩⟩⟩⟩⟩⟩⟩)⟩, ⟨by (with_reducible repeat (first | apply Kd.V_alloc | apply Kd.V_drewN | apply Kd.V_drew)); exact Kd.V_mono HO_1.out (fun _ hk => ⟨hk.1.1.1, ⟨hk.1.1.2.1, ⟨hk.1.1.2.2.1, ⟨hk.1.1.2.2.2.1, ⟨hk.1.1.2.2.2.2.1, ⟨hk.1.1.2.2.2.2.2.1, ⟨hk.1.1.2.2.2.2.2.2, hk.2⟩⟩⟩⟩⟩⟩⟩)⟩, ⟨by (with_reducible repeat (first | apply Kd.R_alloc | apply Kd.R_drewN | apply Kd.R_drew)); exact HO_5.out⟩, ⟨by (with_reducible repeat (first | apply Kd.R_alloc | apply Kd.R_drewN | apply Kd.R_drew)); exact HO_6.out⟩, ⟨by (with_reducible repeat (first | apply Kd.R_alloc | apply Kd.R_drewN | apply Kd.R_drew)); exact HO_7.out⟩, ⟨by (with_reducible repeat (first | apply Kd.R_alloc | apply Kd.R_drewN | apply Kd.R_drew)); exact HO_8.out⟩, ⟨by (with_reducible repeat (first | apply Kd.R_alloc | apply Kd.R_drewN | apply Kd.R_drew)); exact HO_9.out⟩, ⟨by (with_reducible repeat (first | apply Kd.R_alloc | apply Kd.R_drewN | apply Kd.R_drew)); exact HO_10.out⟩, ⟨by (with_reducible repeat (first | apply Kd.R_alloc | apply Kd.R_drewN | apply Kd.R_drew)); exact Kd.R_mono HO525.out (fun _ hk => hk.1)⟩, (bl_ HB)⟩
      case round =>
       clear H'
       try clear c1
       try clear c2
       try clear p2
       try clear c3
       try clear c4
       try clear c5
       try clear c6
       try clear p6
       try clear c7
       try clear c9
       try clear c10
       try clear c11
       try clear c12
       try clear c15
       try clear c18
       try clear c22
       try clear c23
       try clear c24
       try clear c27
       try clear c29
       try clear c31
       try clear c33
       try clear c36
       try clear c39
       try clear c56
       try clear p2
       try clear p6
       obtain ⟨x11_2, x84_2, rfl, rfl, HA, HK2, HO_0, HO_1, HO_5, HO_6, HO_7, HO_8, HO_9, HO_10, HO_82, HB⟩ := hrel
       cases gk with
       | zero => exact absurd HA.out (by simp [florinlaw10_ClassOps.l0])
       | succ k2 =>
        have H := HA.out
        clear HA
        simp only [florinlaw10_ClassOps.l0] at H
        by_cases c63 : x84_2 < (t523.length : Int)
        ·rw [if_pos c63] at H
         have c63b0 : decide (x84_2 < (t523.length : Int)) = true := decide_eq_true c63
         clear c63
         by_cases c64 : 0 ≤ x84_2
         ·rw [if_pos c64] at H
          have c64b0 : decide (0 ≤ x84_2) = true := decide_eq_true c64
          clear c64
          by_cases c65 : x84_2 < (t523.length : Int)
          ·rw [if_pos c65] at H
           have c65b0 : decide (x84_2 < (t523.length : Int)) = true := decide_eq_true c65
           clear c65
           replace H := Option.bind_eq_some_iff.mp H
           obtain ⟨t527, A660, H⟩ := H
           replace H : ((florinlaw10_in.f k2 l1 (rd t523 x84_2)).bind fun t528 => ((class_Class_Has.f t492 (rd t523 x84_2)).bind fun t529 => (if t527 = true then (if (t529 != true) = true then (none) else ((class_Class_Has.f t495 (rd t523 x84_2)).bind fun t530 => (if (t530 != t528) = true then (none) else ((class_Class_Has.f t498 (rd t523 x84_2)).bind fun t531 => (if (t531 != (!t528)) = true then (none) else ((class_Class_Has.f t501 (rd t523 x84_2)).bind fun t532 => (if (t532 != false) = true then (none) else (if x11_2 = true then (florinlaw10_ClassOps.l0 k2 l0 l1 t486 t489 t492 t495 t498 t501 (t527 == t528) t523 (t523.length : Int) (wrap64 (x84_2 + 1))) else (florinlaw10_ClassOps.l0 k2 l0 l1 t486 t489 t492 t495 t498 t501 false t523 (t523.length : Int) (wrap64 (x84_2 + 1))))))))))) else (if (t529 != t528) = true then (none) else ((class_Class_Has.f t495 (rd t523 x84_2)).bind fun t533 => (if (t533 != false) = true then (none) else ((class_Class_Has.f t498 (rd t523 x84_2)).bind fun t534 => (if (t534 != false) = true then (none) else ((class_Class_Has.f t501 (rd t523 x84_2)).bind fun t535 => (if (rd t523 x84_2) ≥ 0 then (if (t535 != (decide ((rd t523 x84_2) ≤ 1114111))) = true then (none) else (if x11_2 = true then (florinlaw10_ClassOps.l0 k2 l0 l1 t486 t489 t492 t495 t498 t501 (t527 == t528) t523 (t523.length : Int) (wrap64 (x84_2 + 1))) else (florinlaw10_ClassOps.l0 k2 l0 l1 t486 t489 t492 t495 t498 t501 false t523 (t523.length : Int) (wrap64 (x84_2 + 1))))) else (if (t535 != false) = true then (none) else (if x11_2 = true then (florinlaw10_ClassOps.l0 k2 l0 l1 t486 t489 t492 t495 t498 t501 (t527 == t528) t523 (t523.length : Int) (wrap64 (x84_2 + 1))) else (florinlaw10_ClassOps.l0 k2 l0 l1 t486 t489 t492 t495 t498 t501 false t523 (t523.length : Int) (wrap64 (x84_2 + 1))))))))))))))) = some r := H
           have A66 := Aside0.mk A660
           clear A660
           replace H := Option.bind_eq_some_iff.mp H
           obtain ⟨t528, A670, H⟩ := H
           replace H : ((class_Class_Has.f t492 (rd t523 x84_2)).bind fun t529 => (if t527 = true then (if (t529 != true) = true then (none) else ((class_Class_Has.f t495 (rd t523 x84_2)).bind fun t530 => (if (t530 != t528) = true then (none) else ((class_Class_Has.f t498 (rd t523 x84_2)).bind fun t531 => (if (t531 != (!t528)) = true then (none) else ((class_Class_Has.f t501 (rd t523 x84_2)).bind fun t532 => (if (t532 != false) = true then (none) else (if x11_2 = true then (florinlaw10_ClassOps.l0 k2 l0 l1 t486 t489 t492 t495 t498 t501 (t527 == t528) t523 (t523.length : Int) (wrap64 (x84_2 + 1))) else (florinlaw10_ClassOps.l0 k2 l0 l1 t486 t489 t492 t495 t498 t501 false t523 (t523.length : Int) (wrap64 (x84_2 + 1))))))))))) else (if (t529 != t528) = true then (none) else ((class_Class_Has.f t495 (rd t523 x84_2)).bind fun t533 => (if (t533 != false) = true then (none) else ((class_Class_Has.f t498 (rd t523 x84_2)).bind fun t534 => (if (t534 != false) = true then (none) else ((class_Class_Has.f t501 (rd t523 x84_2)).bind fun t535 => (if (rd t523 x84_2) ≥ 0 then (if (t535 != (decide ((rd t523 x84_2) ≤ 1114111))) = true then (none) else (if x11_2 = true then (florinlaw10_ClassOps.l0 k2 l0 l1 t486 t489 t492 t495 t498 t501 (t527 == t528) t523 (t523.length : Int) (wrap64 (x84_2 + 1))) else (florinlaw10_ClassOps.l0 k2 l0 l1 t486 t489 t492 t495 t498 t501 false t523 (t523.length : Int) (wrap64 (x84_2 + 1))))) else (if (t535 != false) = true then (none) else (if x11_2 = true then (florinlaw10_ClassOps.l0 k2 l0 l1 t486 t489 t492 t495 t498 t501 (t527 == t528) t523 (t523.length : Int) (wrap64 (x84_2 + 1))) else (florinlaw10_ClassOps.l0 k2 l0 l1 t486 t489 t492 t495 t498 t501 false t523 (t523.length : Int) (wrap64 (x84_2 + 1)))))))))))))) = some r := H
           have A67 := Aside0.mk A670
           clear A670
           replace H := Option.bind_eq_some_iff.mp H
           obtain ⟨t529, A680, H⟩ := H
           replace H : (if t527 = true then (if (t529 != true) = true then (none) else ((class_Class_Has.f t495 (rd t523 x84_2)).bind fun t530 => (if (t530 != t528) = true then (none) else ((class_Class_Has.f t498 (rd t523 x84_2)).bind fun t531 => (if (t531 != (!t528)) = true then (none) else ((class_Class_Has.f t501 (rd t523 x84_2)).bind fun t532 => (if (t532 != false) = true then (none) else (if x11_2 = true then (florinlaw10_ClassOps.l0 k2 l0 l1 t486 t489 t492 t495 t498 t501 (t527 == t528) t523 (t523.length : Int) (wrap64 (x84_2 + 1))) else (florinlaw10_ClassOps.l0 k2 l0 l1 t486 t489 t492 t495 t498 t501 false t523 (t523.length : Int) (wrap64 (x84_2 + 1))))))))))) else (if (t529 != t528) = true then (none) else ((class_Class_Has.f t495 (rd t523 x84_2)).bind fun t533 => (if (t533 != false) = true then (none) else ((class_Class_Has.f t498 (rd t523 x84_2)).bind fun t534 => (if (t534 != false) = true then (none) else ((class_Class_Has.f t501 (rd t523 x84_2)).bind fun t535 => (if (rd t523 x84_2) ≥ 0 then (if (t535 != (decide ((rd t523 x84_2) ≤ 1114111))) = true then (none) else (if x11_2 = true then (florinlaw10_ClassOps.l0 k2 l0 l1 t486 t489 t492 t495 t498 t501 (t527 == t528) t523 (t523.length : Int) (wrap64 (x84_2 + 1))) else (florinlaw10_ClassOps.l0 k2 l0 l1 t486 t489 t492 t495 t498 t501 false t523 (t523.length : Int) (wrap64 (x84_2 + 1))))) else (if (t535 != false) = true then (none) else (if x11_2 = true then (florinlaw10_ClassOps.l0 k2 l0 l1 t486 t489 t492 t495 t498 t501 (t527 == t528) t523 (t523.length : Int) (wrap64 (x84_2 + 1))) else (florinlaw10_ClassOps.l0 k2 l0 l1 t486 t489 t492 t495 t498 t501 false t523 (t523.length : Int) (wrap64 (x84_2 + 1))))))))))))) = some r := H
           have A68 := Aside0.mk A680
           clear A680
           by_cases c69 : t527 = true
           ·subst c69
            have H1 : (if (t529 != true) = true then (none) else ((class_Class_Has.f t495 (rd t523 x84_2)).bind fun t530 => (if (t530 != t528) = true then (none) else ((class_Class_Has.f t498 (rd t523 x84_2)).bind fun t531 => (if (t531 != (!t528)) = true then (none) else ((class_Class_Has.f t501 (rd t523 x84_2)).bind fun t532 => (if (t532 != false) = true then (none) else (if x11_2 = true then (florinlaw10_ClassOps.l0 k2 l0 l1 t486 t489 t492 t495 t498 t501 (true == t528) t523 (t523.length : Int) (wrap64 (x84_2 + 1))) else (florinlaw10_ClassOps.l0 k2 l0 l1 t486 t489 t492 t495 t498 t501 false t523 (t523.length : Int) (wrap64 (x84_2 + 1))))))))))) = some r := by rw [if_pos rfl] at H; exact H
            clear H
            have H := H1
            clear H1
            by_cases c70 : (t529 != true) = true
            ·rw [if_pos c70] at H
             exact absurd H (by simp)
            ·rw [if_neg c70] at H
             have c70b0 : (t529 != true) = false := by simpa using c70
             (try (have c70b1 : decide (t529 = true) = true := by simpa using c70))
             (try (have c70b2 : (t529 == true) = true := by simpa using c70))
             (try (have c70b3 : (t529 = true) = True := eq_true (by simpa using c70)))
             clear c70
             replace H := Option.bind_eq_some_iff.mp H
             obtain ⟨t530, A710, H⟩ := H
             replace H : (if (t530 != t528) = true then (none) else ((class_Class_Has.f t498 (rd t523 x84_2)).bind fun t531 => (if (t531 != (!t528)) = true then (none) else ((class_Class_Has.f t501 (rd t523 x84_2)).bind fun t532 => (if (t532 != false) = true then (none) else (if x11_2 = true then (florinlaw10_ClassOps.l0 k2 l0 l1 t486 t489 t492 t495 t498 t501 (true == t528) t523 (t523.length : Int) (wrap64 (x84_2 + 1))) else (florinlaw10_ClassOps.l0 k2 l0 l1 t486 t489 t492 t495 t498 t501 false t523 (t523.length : Int) (wrap64 (x84_2 + 1))))))))) = some r := H
             have A71 := Aside0.mk A710
             clear A710
             by_cases c72 : (t530 != t528) = true
             ·rw [if_pos c72] at H
              exact absurd H (by simp)
             ·rw [if_neg c72] at H
              have c72b0 : (t530 != t528) = false := by simpa using c72
              (try (have c72b1 : decide (t530 = t528) = true := by simpa using c72))
              (try (have c72b2 : (t530 == t528) = true := by simpa using c72))
              (try (have c72b3 : (t530 = t528) = True := eq_true (by simpa using c72)))
              clear c72
              replace H := Option.bind_eq_some_iff.mp H
              obtain ⟨t531, A730, H⟩ := H
              replace H : (if (t531 != (!t528)) = true then (none) else ((class_Class_Has.f t501 (rd t523 x84_2)).bind fun t532 => (if (t532 != false) = true then (none) else (if x11_2 = true then (florinlaw10_ClassOps.l0 k2 l0 l1 t486 t489 t492 t495 t498 t501 (true == t528) t523 (t523.length : Int) (wrap64 (x84_2 + 1))) else (florinlaw10_ClassOps.l0 k2 l0 l1 t486 t489 t492 t495 t498 t501 false t523 (t523.length : Int) (wrap64 (x84_2 + 1))))))) = some r := H
              have A73 := Aside0.mk A730
              clear A730
              by_cases c74 : (t531 != (!t528)) = true
              ·rw [if_pos c74] at H
               exact absurd H (by simp)
              ·rw [if_neg c74] at H
               have c74b0 : (t531 != (!t528)) = false := by simpa using c74
               (try (have c74b1 : decide (t531 = (!t528)) = true := by first | simpa using c74 | (revert c74; generalize (t531) = a_; generalize ((!t528)) = b_; cases a_ <;> cases b_ <;> simp)))
               (try (have c74b2 : (t531 == (!t528)) = true := by first | simpa using c74 | (revert c74; generalize (t531) = a_; generalize ((!t528)) = b_; cases a_ <;> cases b_ <;> simp)))
               (try (have c74b3 : (t531 = (!t528)) = True := eq_true (by simpa using c74)))
               clear c74
               replace H := Option.bind_eq_some_iff.mp H
               obtain ⟨t532, A750, H⟩ := H
               replace H : (if (t532 != false) = true then (none) else (if x11_2 = true then (florinlaw10_ClassOps.l0 k2 l0 l1 t486 t489 t492 t495 t498 t501 (true == t528) t523 (t523.length : Int) (wrap64 (x84_2 + 1))) else (florinlaw10_ClassOps.l0 k2 l0 l1 t486 t489 t492 t495 t498 t501 false t523 (t523.length : Int) (wrap64 (x84_2 + 1))))) = some r := H
               have A75 := Aside0.mk A750
               clear A750
               by_cases c76 : (t532 != false) = true
               ·rw [if_pos c76] at H
                exact absurd H (by simp)
               ·rw [if_neg c76] at H
                have c76b0 : (t532 != false) = false := by simpa using c76
                (try (have c76b1 : decide (t532 = false) = true := by simpa using c76))
                (try (have c76b2 : (t532 == false) = true := by simpa using c76))
                (try (have c76b3 : (t532 = false) = True := eq_true (by simpa using c76)))
                clear c76
                by_cases c77 : x11_2 = true
                ·subst c77
                 have H1 : (florinlaw10_ClassOps.l0 k2 l0 l1 t486 t489 t492 t495 t498 t501 (true == t528) t523 (t523.length : Int) (wrap64 (x84_2 + 1))) = some r := by rw [if_pos rfl] at H; exact H
                 clear H
                 have H := H1
                 clear H1
                 have H' := Aside0.mk H
                 clear H
                 have p526 : 0 ≤ (x84_2 : Int) := of_decide_eq_true (by first | (with_reducible assumption) | assumption)
                 have q526 : x84_2 < (t523.length : Int) := of_decide_eq_true (by first | (with_reducible assumption) | assumption)
                 obtain ⟨ad526, e526, hx526_0⟩ := Kd.at_int (Kd.R_reads' HO_82.out).2.2 x84_2 p526 q526
                 cases e526
                 replace p526 := eq_true p526
                 replace q526 := eq_true q526
                 go_wp2_with (first | ((with_reducible refine gate_callee (f := 14) rfl ?_); refine gl_ (some 90) Tryz.func14 #[.slice A0 l0.length c0, .int .i32 (rd t523 x84_2)] ?_; (with_reducible refine (florinlaw10_in.calls k2 _ _ l0 (rd t523 x84_2) true _ ?side1 ?side2 A66.out).mono ?_); (case side1 => repeat (first | exact (Kd.V_reads' HO_0.out).2.2 | (with_reducible refine Kd.C_alloc ?_ _) | (with_reducible refine Kd.C_drewN ?_ _) | (with_reducible refine Kd.C_drew ?_))); (case side2 => exact (Kd.V_reads' HO_0.out).2.1); rintro e w78 ⟨rfl, hb⟩; refine ⟨_, rfl, ?_⟩; replace HO_0 := Aside0.mk (Kd.V_below (krV_ HO_0) hb); replace HO_1 := Aside0.mk (Kd.V_below (krV_ HO_1) hb); replace HO_5 := kb_ HO_5 hb; replace HO_6 := kb_ HO_6 hb; replace HO_7 := kb_ HO_7 hb; replace HO_8 := kb_ HO_8 hb; replace HO_9 := kb_ HO_9 hb; replace HO_10 := kb_ HO_10 hb; replace HO_82 := kb_ HO_82 hb; replace HB := Aside0.mk (below_step (bl_ HB).out hb); (try clear hb); (try clear hi)) | ((with_reducible refine gate_callee (f := 14) rfl ?_); refine gl_ (some 93) Tryz.func14 #[.slice A1 l1.length c1, .int .i32 (rd t523 x84_2)] ?_; (with_reducible refine (florinlaw10_in.calls k2 _ _ l1 (rd t523 x84_2) t528 _ ?side1 ?side2 A67.out).mono ?_); (case side1 => repeat (first | exact (Kd.V_reads' HO_1.out).2.2 | (with_reducible refine Kd.C_alloc ?_ _) | (with_reducible refine Kd.C_drewN ?_ _) | (with_reducible refine Kd.C_drew ?_))); (case side2 => exact (Kd.V_reads' HO_1.out).2.1); rintro e w79 ⟨rfl, hb⟩; refine ⟨_, rfl, ?_⟩; replace HO_0 := Aside0.mk (Kd.V_below (krV_ HO_0) hb); replace HO_1 := Aside0.mk (Kd.V_below (krV_ HO_1) hb); replace HO_5 := kb_ HO_5 hb; replace HO_6 := kb_ HO_6 hb; replace HO_7 := kb_ HO_7 hb; replace HO_8 := kb_ HO_8 hb; replace HO_9 := kb_ HO_9 hb; replace HO_10 := kb_ HO_10 hb; replace HO_82 := kb_ HO_82 hb; replace HB := Aside0.mk (below_step (bl_ HB).out hb); (try clear hb); obtain ⟨Ao80, co80, eo80⟩ := Kd.R_slice HO_7.out; subst eo80) | ((with_reducible refine gate_callee (f := 13) rfl ?_); refine gl_ (some 96) Tryz.func13 #[.slice Ao80 t492.length co80, .int .i32 (rd t523 x84_2)] ?_; (with_reducible refine (class_Class_Has.calls _ _ t492 (rd t523 x84_2) t529 _ ?side1 ?side2 A68.out).mono ?_); (case side1 => exact kc_ HO_7); (case side2 => exact kl_ HO_7); rintro e w81 ⟨rfl, hb⟩; refine ⟨_, rfl, ?_⟩; replace HO_0 := Aside0.mk (Kd.V_below (krV_ HO_0) hb); replace HO_1 := Aside0.mk (Kd.V_below (krV_ HO_1) hb); replace HO_5 := kb_ HO_5 hb; replace HO_6 := kb_ HO_6 hb; replace HO_7 := kb_ HO_7 hb; replace HO_8 := kb_ HO_8 hb; replace HO_9 := kb_ HO_9 hb; replace HO_10 := kb_ HO_10 hb; replace HO_82 := kb_ HO_82 hb; replace HB := Aside0.mk (below_step (bl_ HB).out hb); (try clear hb); obtain ⟨Ao82, co82, eo82⟩ := Kd.R_slice HO_8.out; subst eo82) | (go_at_call 13; (with_reducible refine (class_Class_Has.calls _ _ t495 (rd t523 x84_2) t530 _ ?side1 ?side2 A71.out).mono ?_); (case side1 => exact kc_ HO_8); (case side2 => exact kl_ HO_8); rintro e w83 ⟨rfl, hb⟩; replace HO_0 := Aside0.mk (Kd.V_below (krV_ HO_0) hb); replace HO_1 := Aside0.mk (Kd.V_below (krV_ HO_1) hb); replace HO_5 := kb_ HO_5 hb; replace HO_6 := kb_ HO_6 hb; replace HO_7 := kb_ HO_7 hb; replace HO_8 := kb_ HO_8 hb; replace HO_9 := kb_ HO_9 hb; replace HO_10 := kb_ HO_10 hb; replace HO_82 := kb_ HO_82 hb; replace HB := Aside0.mk (below_step (bl_ HB).out hb); (try clear hb); obtain ⟨Ao84, co84, eo84⟩ := Kd.R_slice HO_9.out; subst eo84) | (go_at_call 13; (with_reducible refine (class_Class_Has.calls _ _ t498 (rd t523 x84_2) t531 _ ?side1 ?side2 A73.out).mono ?_); (case side1 => exact kc_ HO_9); (case side2 => exact kl_ HO_9); rintro e w85 ⟨rfl, hb⟩; replace HO_0 := Aside0.mk (Kd.V_below (krV_ HO_0) hb); replace HO_1 := Aside0.mk (Kd.V_below (krV_ HO_1) hb); replace HO_5 := kb_ HO_5 hb; replace HO_6 := kb_ HO_6 hb; replace HO_7 := kb_ HO_7 hb; replace HO_8 := kb_ HO_8 hb; replace HO_9 := kb_ HO_9 hb; replace HO_10 := kb_ HO_10 hb; replace HO_82 := kb_ HO_82 hb; replace HB := Aside0.mk (below_step (bl_ HB).out hb); (try clear hb); obtain ⟨Ao86, co86, eo86⟩ := Kd.R_slice HO_10.out; subst eo86) | (go_at_call 13; (with_reducible refine (class_Class_Has.calls _ _ t501 (rd t523 x84_2) t532 _ ?side1 ?side2 A75.out).mono ?_); (case side1 => exact kc_ HO_10); (case side2 => exact kl_ HO_10); rintro e w87 ⟨rfl, hb⟩; replace HO_0 := Aside0.mk (Kd.V_below (krV_ HO_0) hb); replace HO_1 := Aside0.mk (Kd.V_below (krV_ HO_1) hb); replace HO_5 := kb_ HO_5 hb; replace HO_6 := kb_ HO_6 hb; replace HO_7 := kb_ HO_7 hb; replace HO_8 := kb_ HO_8 hb; replace HO_9 := kb_ HO_9 hb; replace HO_10 := kb_ HO_10 hb; replace HO_82 := kb_ HO_82 hb; replace HB := Aside0.mk (below_step (bl_ HB).out hb); (try clear hb); (try clear hi)))
                 go_roundg k2
                 case measure => have := HJ12.out; have := HK2.out; omega
                 case rel => exact ⟨((true == t528)), (wrap64 (x84_2 + 1)), eq_, eq_, H', ⟨by have := HJ12.out; have := HK2.out; omega⟩, ⟨by (with_reducible repeat (first | apply Kd.V_alloc | apply Kd.V_drewN | apply Kd.V_drew)); exact HO_0.out⟩, ⟨by (with_reducible repeat (first | apply Kd.V_alloc | apply Kd.V_drewN | apply Kd.V_drew)); exact HO_1.out⟩, ⟨by (with_reducible repeat (first | apply Kd.R_alloc | apply Kd.R_drewN | apply Kd.R_drew)); exact HO_5.out⟩, ⟨by (with_reducible repeat (first | apply Kd.R_alloc | apply Kd.R_drewN | apply Kd.R_drew)); exact HO_6.out⟩, ⟨by (with_reducible repeat (first | apply Kd.R_alloc | apply Kd.R_drewN | apply Kd.R_drew)); exact HO_7.out⟩, ⟨by (with_reducible repeat (first | apply Kd.R_alloc | apply Kd.R_drewN | apply Kd.R_drew)); exact HO_8.out⟩, ⟨by (with_reducible repeat (first | apply Kd.R_alloc | apply Kd.R_drewN | apply Kd.R_drew)); exact HO_9.out⟩, ⟨by (with_reducible repeat (first | apply Kd.R_alloc | apply Kd.R_drewN | apply Kd.R_drew)); exact HO_10.out⟩, ⟨by (with_reducible repeat (first | apply Kd.R_alloc | apply Kd.R_drewN | apply Kd.R_drew)); exact HO_82.out⟩, (bl_ HB)⟩
                ·replace c77 := Bool.eq_false_iff.mpr c77
                 subst c77
                 have H1 : (florinlaw10_ClassOps.l0 k2 l0 l1 t486 t489 t492 t495 t498 t501 false t523 (t523.length : Int) (wrap64 (x84_2 + 1))) = some r := by rw [if_neg (show ¬ (false = true) by decide)] at H; exact H
                 clear H
                 have H := H1
                 clear H1
                 have H' := Aside0.mk H
                 clear H
                 have p526 : 0 ≤ (x84_2 : Int) := of_decide_eq_true (by first | (with_reducible assumption) | assumption)
                 have q526 : x84_2 < (t523.length : Int) := of_decide_eq_true (by first | (with_reducible assumption) | assumption)
                 obtain ⟨ad526, e526, hx526_0⟩ := Kd.at_int (Kd.R_reads' HO_82.out).2.2 x84_2 p526 q526
                 cases e526
                 replace p526 := eq_true p526
                 replace q526 := eq_true q526
                 go_wp2_with (first | ((with_reducible refine gate_callee (f := 14) rfl ?_); refine gl_ (some 90) Tryz.func14 #[.slice A0 l0.length c0, .int .i32 (rd t523 x84_2)] ?_; (with_reducible refine (florinlaw10_in.calls k2 _ _ l0 (rd t523 x84_2) true _ ?side1 ?side2 A66.out).mono ?_); (case side1 => repeat (first | exact (Kd.V_reads' HO_0.out).2.2 | (with_reducible refine Kd.C_alloc ?_ _) | (with_reducible refine Kd.C_drewN ?_ _) | (with_reducible refine Kd.C_drew ?_))); (case side2 => exact (Kd.V_reads' HO_0.out).2.1); rintro e w88 ⟨rfl, hb⟩; refine ⟨_, rfl, ?_⟩; replace HO_0 := Aside0.mk (Kd.V_below (krV_ HO_0) hb); replace HO_1 := Aside0.mk (Kd.V_below (krV_ HO_1) hb); replace HO_5 := kb_ HO_5 hb; replace HO_6 := kb_ HO_6 hb; replace HO_7 := kb_ HO_7 hb; replace HO_8 := kb_ HO_8 hb; replace HO_9 := kb_ HO_9 hb; replace HO_10 := kb_ HO_10 hb; replace HO_82 := kb_ HO_82 hb; replace HB := Aside0.mk (below_step (bl_ HB).out hb); (try clear hb); (try clear hi)) | ((with_reducible refine gate_callee (f := 14) rfl ?_); refine gl_ (some 93) Tryz.func14 #[.slice A1 l1.length c1, .int .i32 (rd t523 x84_2)] ?_; (with_reducible refine (florinlaw10_in.calls k2 _ _ l1 (rd t523 x84_2) t528 _ ?side1 ?side2 A67.out).mono ?_); (case side1 => repeat (first | exact (Kd.V_reads' HO_1.out).2.2 | (with_reducible refine Kd.C_alloc ?_ _) | (with_reducible refine Kd.C_drewN ?_ _) | (with_reducible refine Kd.C_drew ?_))); (case side2 => exact (Kd.V_reads' HO_1.out).2.1); rintro e w89 ⟨rfl, hb⟩; refine ⟨_, rfl, ?_⟩; replace HO_0 := Aside0.mk (Kd.V_below (krV_ HO_0) hb); replace HO_1 := Aside0.mk (Kd.V_below (krV_ HO_1) hb); replace HO_5 := kb_ HO_5 hb; replace HO_6 := kb_ HO_6 hb; replace HO_7 := kb_ HO_7 hb; replace HO_8 := kb_ HO_8 hb; replace HO_9 := kb_ HO_9 hb; replace HO_10 := kb_ HO_10 hb; replace HO_82 := kb_ HO_82 hb; replace HB := Aside0.mk (below_step (bl_ HB).out hb); (try clear hb); obtain ⟨Ao90, co90, eo90⟩ := Kd.R_slice HO_7.out; subst eo90) | ((with_reducible refine gate_callee (f := 13) rfl ?_); refine gl_ (some 96) Tryz.func13 #[.slice Ao90 t492.length co90, .int .i32 (rd t523 x84_2)] ?_; (with_reducible refine (class_Class_Has.calls _ _ t492 (rd t523 x84_2) t529 _ ?side1 ?side2 A68.out).mono ?_); (case side1 => exact kc_ HO_7); (case side2 => exact kl_ HO_7); rintro e w91 ⟨rfl, hb⟩; refine ⟨_, rfl, ?_⟩; replace HO_0 := Aside0.mk (Kd.V_below (krV_ HO_0) hb); replace HO_1 := Aside0.mk (Kd.V_below (krV_ HO_1) hb); replace HO_5 := kb_ HO_5 hb; replace HO_6 := kb_ HO_6 hb; replace HO_7 := kb_ HO_7 hb; replace HO_8 := kb_ HO_8 hb; replace HO_9 := kb_ HO_9 hb; replace HO_10 := kb_ HO_10 hb; replace HO_82 := kb_ HO_82 hb; replace HB := Aside0.mk (below_step (bl_ HB).out hb); (try clear hb); obtain ⟨Ao92, co92, eo92⟩ := Kd.R_slice HO_8.out; subst eo92) | (go_at_call 13; (with_reducible refine (class_Class_Has.calls _ _ t495 (rd t523 x84_2) t530 _ ?side1 ?side2 A71.out).mono ?_); (case side1 => exact kc_ HO_8); (case side2 => exact kl_ HO_8); rintro e w93 ⟨rfl, hb⟩; replace HO_0 := Aside0.mk (Kd.V_below (krV_ HO_0) hb); replace HO_1 := Aside0.mk (Kd.V_below (krV_ HO_1) hb); replace HO_5 := kb_ HO_5 hb; replace HO_6 := kb_ HO_6 hb; replace HO_7 := kb_ HO_7 hb; replace HO_8 := kb_ HO_8 hb; replace HO_9 := kb_ HO_9 hb; replace HO_10 := kb_ HO_10 hb; replace HO_82 := kb_ HO_82 hb; replace HB := Aside0.mk (below_step (bl_ HB).out hb); (try clear hb); obtain ⟨Ao94, co94, eo94⟩ := Kd.R_slice HO_9.out; subst eo94) | (go_at_call 13; (with_reducible refine (class_Class_Has.calls _ _ t498 (rd t523 x84_2) t531 _ ?side1 ?side2 A73.out).mono ?_); (case side1 => exact kc_ HO_9); (case side2 => exact kl_ HO_9); rintro e w95 ⟨rfl, hb⟩; replace HO_0 := Aside0.mk (Kd.V_below (krV_ HO_0) hb); replace HO_1 := Aside0.mk (Kd.V_below (krV_ HO_1) hb); replace HO_5 := kb_ HO_5 hb; replace HO_6 := kb_ HO_6 hb; replace HO_7 := kb_ HO_7 hb; replace HO_8 := kb_ HO_8 hb; replace HO_9 := kb_ HO_9 hb; replace HO_10 := kb_ HO_10 hb; replace HO_82 := kb_ HO_82 hb; replace HB := Aside0.mk (below_step (bl_ HB).out hb); (try clear hb); obtain ⟨Ao96, co96, eo96⟩ := Kd.R_slice HO_10.out; subst eo96) | (go_at_call 13; (with_reducible refine (class_Class_Has.calls _ _ t501 (rd t523 x84_2) t532 _ ?side1 ?side2 A75.out).mono ?_); (case side1 => exact kc_ HO_10); (case side2 => exact kl_ HO_10); rintro e w97 ⟨rfl, hb⟩; replace HO_0 := Aside0.mk (Kd.V_below (krV_ HO_0) hb); replace HO_1 := Aside0.mk (Kd.V_below (krV_ HO_1) hb); replace HO_5 := kb_ HO_5 hb; replace HO_6 := kb_ HO_6 hb; replace HO_7 := kb_ HO_7 hb; replace HO_8 := kb_ HO_8 hb; replace HO_9 := kb_ HO_9 hb; replace HO_10 := kb_ HO_10 hb; replace HO_82 := kb_ HO_82 hb; replace HB := Aside0.mk (below_step (bl_ HB).out hb); (try clear hb); (try clear hi)))
                 go_roundg k2
                 case measure => have := HJ12.out; have := HK2.out; omega
                 case rel => exact ⟨(false), (wrap64 (x84_2 + 1)), eq_, eq_, H', ⟨by have := HJ12.out; have := HK2.out; omega⟩, ⟨by (with_reducible repeat (first | apply Kd.V_alloc | apply Kd.V_drewN | apply Kd.V_drew)); exact HO_0.out⟩, ⟨by (with_reducible repeat (first | apply Kd.V_alloc | apply Kd.V_drewN | apply Kd.V_drew)); exact HO_1.out⟩, ⟨by (with_reducible repeat (first | apply Kd.R_alloc | apply Kd.R_drewN | apply Kd.R_drew)); exact HO_5.out⟩, ⟨by (with_reducible repeat (first | apply Kd.R_alloc | apply Kd.R_drewN | apply Kd.R_drew)); exact HO_6.out⟩, ⟨by (with_reducible repeat (first | apply Kd.R_alloc | apply Kd.R_drewN | apply Kd.R_drew)); exact HO_7.out⟩, ⟨by (with_reducible repeat (first | apply Kd.R_alloc | apply Kd.R_drewN | apply Kd.R_drew)); exact HO_8.out⟩, ⟨by (with_reducible repeat (first | apply Kd.R_alloc | apply Kd.R_drewN | apply Kd.R_drew)); exact HO_9.out⟩, ⟨by (with_reducible repeat (first | apply Kd.R_alloc | apply Kd.R_drewN | apply Kd.R_drew)); exact HO_10.out⟩, ⟨by (with_reducible repeat (first | apply Kd.R_alloc | apply Kd.R_drewN | apply Kd.R_drew)); exact HO_82.out⟩, (bl_ HB)⟩
           ·replace c69 := Bool.eq_false_iff.mpr c69
            subst c69
            have H1 : (if (t529 != t528) = true then (none) else ((class_Class_Has.f t495 (rd t523 x84_2)).bind fun t533 => (if (t533 != false) = true then (none) else ((class_Class_Has.f t498 (rd t523 x84_2)).bind fun t534 => (if (t534 != false) = true then (none) else ((class_Class_Has.f t501 (rd t523 x84_2)).bind fun t535 => (if (rd t523 x84_2) ≥ 0 then (if (t535 != (decide ((rd t523 x84_2) ≤ 1114111))) = true then (none) else (if x11_2 = true then (florinlaw10_ClassOps.l0 k2 l0 l1 t486 t489 t492 t495 t498 t501 (false == t528) t523 (t523.length : Int) (wrap64 (x84_2 + 1))) else (florinlaw10_ClassOps.l0 k2 l0 l1 t486 t489 t492 t495 t498 t501 false t523 (t523.length : Int) (wrap64 (x84_2 + 1))))) else (if (t535 != false) = true then (none) else (if x11_2 = true then (florinlaw10_ClassOps.l0 k2 l0 l1 t486 t489 t492 t495 t498 t501 (false == t528) t523 (t523.length : Int) (wrap64 (x84_2 + 1))) else (florinlaw10_ClassOps.l0 k2 l0 l1 t486 t489 t492 t495 t498 t501 false t523 (t523.length : Int) (wrap64 (x84_2 + 1)))))))))))) = some r := by rw [if_neg (show ¬ (false = true) by decide)] at H; exact H
            clear H
            have H := H1
            clear H1
            by_cases c98 : (t529 != t528) = true
            ·rw [if_pos c98] at H
             exact absurd H (by simp)
            ·rw [if_neg c98] at H
             have c98b0 : (t529 != t528) = false := by simpa using c98
             (try (have c98b1 : decide (t529 = t528) = true := by simpa using c98))
             (try (have c98b2 : (t529 == t528) = true := by simpa using c98))
             (try (have c98b3 : (t529 = t528) = True := eq_true (by simpa using c98)))
             clear c98
             replace H := Option.bind_eq_some_iff.mp H
             obtain ⟨t533, A990, H⟩ := H
             replace H : (if (t533 != false) = true then (none) else ((class_Class_Has.f t498 (rd t523 x84_2)).bind fun t534 => (if (t534 != false) = true then (none) else ((class_Class_Has.f t501 (rd t523 x84_2)).bind fun t535 => (if (rd t523 x84_2) ≥ 0 then (if (t535 != (decide ((rd t523 x84_2) ≤ 1114111))) = true then (none) else (if x11_2 = true then (florinlaw10_ClassOps.l0 k2 l0 l1 t486 t489 t492 t495 t498 t501 (false == t528) t523 (t523.length : Int) (wrap64 (x84_2 + 1))) else (florinlaw10_ClassOps.l0 k2 l0 l1 t486 t489 t492 t495 t498 t501 false t523 (t523.length : Int) (wrap64 (x84_2 + 1))))) else (if (t535 != false) = true then (none) else (if x11_2 = true then (florinlaw10_ClassOps.l0 k2 l0 l1 t486 t489 t492 t495 t498 t501 (false == t528) t523 (t523.length : Int) (wrap64 (x84_2 + 1))) else (florinlaw10_ClassOps.l0 k2 l0 l1 t486 t489 t492 t495 t498 t501 false t523 (t523.length : Int) (wrap64 (x84_2 + 1)))))))))) = some r := H
             have A99 := Aside0.mk A990
             clear A990
             by_cases c100 : (t533 != false) = true
             ·rw [if_pos c100] at H
              exact absurd H (by simp)
             ·rw [if_neg c100] at H
              have c100b0 : (t533 != false) = false := by simpa using c100
              (try (have c100b1 : decide (t533 = false) = true := by simpa using c100))
              (try (have c100b2 : (t533 == false) = true := by simpa using c100))
              (try (have c100b3 : (t533 = false) = True := eq_true (by simpa using c100)))
              clear c100
              replace H := Option.bind_eq_some_iff.mp H
              obtain ⟨t534, A1010, H⟩ := H
              replace H : (if (t534 != false) = true then (none) else ((class_Class_Has.f t501 (rd t523 x84_2)).bind fun t535 => (if (rd t523 x84_2) ≥ 0 then (if (t535 != (decide ((rd t523 x84_2) ≤ 1114111))) = true then (none) else (if x11_2 = true then (florinlaw10_ClassOps.l0 k2 l0 l1 t486 t489 t492 t495 t498 t501 (false == t528) t523 (t523.length : Int) (wrap64 (x84_2 + 1))) else (florinlaw10_ClassOps.l0 k2 l0 l1 t486 t489 t492 t495 t498 t501 false t523 (t523.length : Int) (wrap64 (x84_2 + 1))))) else (if (t535 != false) = true then (none) else (if x11_2 = true then (florinlaw10_ClassOps.l0 k2 l0 l1 t486 t489 t492 t495 t498 t501 (false == t528) t523 (t523.length : Int) (wrap64 (x84_2 + 1))) else (florinlaw10_ClassOps.l0 k2 l0 l1 t486 t489 t492 t495 t498 t501 false t523 (t523.length : Int) (wrap64 (x84_2 + 1)))))))) = some r := H
              have A101 := Aside0.mk A1010
              clear A1010
              by_cases c102 : (t534 != false) = true
              ·rw [if_pos c102] at H
               exact absurd H (by simp)
              ·rw [if_neg c102] at H
               have c102b0 : (t534 != false) = false := by simpa using c102
               (try (have c102b1 : decide (t534 = false) = true := by simpa using c102))
               (try (have c102b2 : (t534 == false) = true := by simpa using c102))
               (try (have c102b3 : (t534 = false) = True := eq_true (by simpa using c102)))
               clear c102
               replace H := Option.bind_eq_some_iff.mp H
               obtain ⟨t535, A1030, H⟩ := H
               replace H : (if (rd t523 x84_2) ≥ 0 then (if (t535 != (decide ((rd t523 x84_2) ≤ 1114111))) = true then (none) else (if x11_2 = true then (florinlaw10_ClassOps.l0 k2 l0 l1 t486 t489 t492 t495 t498 t501 (false == t528) t523 (t523.length : Int) (wrap64 (x84_2 + 1))) else (florinlaw10_ClassOps.l0 k2 l0 l1 t486 t489 t492 t495 t498 t501 false t523 (t523.length : Int) (wrap64 (x84_2 + 1))))) else (if (t535 != false) = true then (none) else (if x11_2 = true then (florinlaw10_ClassOps.l0 k2 l0 l1 t486 t489 t492 t495 t498 t501 (false == t528) t523 (t523.length : Int) (wrap64 (x84_2 + 1))) else (florinlaw10_ClassOps.l0 k2 l0 l1 t486 t489 t492 t495 t498 t501 false t523 (t523.length : Int) (wrap64 (x84_2 + 1)))))) = some r := H
               have A103 := Aside0.mk A1030
               clear A1030
               by_cases c104 : (rd t523 x84_2) ≥ 0
               ·rw [if_pos c104] at H
                have c104b0 : decide (0 ≤ (rd t523 x84_2)) = true := decide_eq_true c104
                clear c104
                by_cases c105 : (t535 != (decide ((rd t523 x84_2) ≤ 1114111))) = true
                ·rw [if_pos c105] at H
                 exact absurd H (by simp)
                ·rw [if_neg c105] at H
                 have c105b0 : (t535 != (decide ((rd t523 x84_2) ≤ 1114111))) = false := by simpa using c105
                 (try (have c105b1 : decide (t535 = (decide ((rd t523 x84_2) ≤ 1114111))) = true := by simpa using c105))
                 (try (have c105b2 : (t535 == (decide ((rd t523 x84_2) ≤ 1114111))) = true := by simpa using c105))
                 (try (have c105b3 : (t535 = (decide ((rd t523 x84_2) ≤ 1114111))) = True := eq_true (by simpa using c105)))
                 clear c105
                 by_cases c106 : x11_2 = true
                 ·subst c106
                  have H1 : (florinlaw10_ClassOps.l0 k2 l0 l1 t486 t489 t492 t495 t498 t501 (false == t528) t523 (t523.length : Int) (wrap64 (x84_2 + 1))) = some r := by rw [if_pos rfl] at H; exact H
                  clear H
                  have H := H1
                  clear H1
                  have H' := Aside0.mk H
                  clear H
                  have p526 : 0 ≤ (x84_2 : Int) := of_decide_eq_true (by first | (with_reducible assumption) | assumption)
                  have q526 : x84_2 < (t523.length : Int) := of_decide_eq_true (by first | (with_reducible assumption) | assumption)
                  obtain ⟨ad526, e526, hx526_0⟩ := Kd.at_int (Kd.R_reads' HO_82.out).2.2 x84_2 p526 q526
                  cases e526
                  replace p526 := eq_true p526
                  replace q526 := eq_true q526
                  go_wp2_with (first | ((with_reducible refine gate_callee (f := 14) rfl ?_); refine gl_ (some 90) Tryz.func14 #[.slice A0 l0.length c0, .int .i32 (rd t523 x84_2)] ?_; (with_reducible refine (florinlaw10_in.calls k2 _ _ l0 (rd t523 x84_2) false _ ?side1 ?side2 A66.out).mono ?_); (case side1 => repeat (first | exact (Kd.V_reads' HO_0.out).2.2 | (with_reducible refine Kd.C_alloc ?_ _) | (with_reducible refine Kd.C_drewN ?_ _) | (with_reducible refine Kd.C_drew ?_))); (case side2 => exact (Kd.V_reads' HO_0.out).2.1); rintro e w107 ⟨rfl, hb⟩; refine ⟨_, rfl, ?_⟩; replace HO_0 := Aside0.mk (Kd.V_below (krV_ HO_0) hb); replace HO_1 := Aside0.mk (Kd.V_below (krV_ HO_1) hb); replace HO_5 := kb_ HO_5 hb; replace HO_6 := kb_ HO_6 hb; replace HO_7 := kb_ HO_7 hb; replace HO_8 := kb_ HO_8 hb; replace HO_9 := kb_ HO_9 hb; replace HO_10 := kb_ HO_10 hb; replace HO_82 := kb_ HO_82 hb; replace HB := Aside0.mk (below_step (bl_ HB).out hb); (try clear hb); (try clear hi)) | ((with_reducible refine gate_callee (f := 14) rfl ?_); refine gl_ (some 93) Tryz.func14 #[.slice A1 l1.length c1, .int .i32 (rd t523 x84_2)] ?_; (with_reducible refine (florinlaw10_in.calls k2 _ _ l1 (rd t523 x84_2) t528 _ ?side1 ?side2 A67.out).mono ?_); (case side1 => repeat (first | exact (Kd.V_reads' HO_1.out).2.2 | (with_reducible refine Kd.C_alloc ?_ _) | (with_reducible refine Kd.C_drewN ?_ _) | (with_reducible refine Kd.C_drew ?_))); (case side2 => exact (Kd.V_reads' HO_1.out).2.1); rintro e w108 ⟨rfl, hb⟩; refine ⟨_, rfl, ?_⟩; replace HO_0 := Aside0.mk (Kd.V_below (krV_ HO_0) hb); replace HO_1 := Aside0.mk (Kd.V_below (krV_ HO_1) hb); replace HO_5 := kb_ HO_5 hb; replace HO_6 := kb_ HO_6 hb; replace HO_7 := kb_ HO_7 hb; replace HO_8 := kb_ HO_8 hb; replace HO_9 := kb_ HO_9 hb; replace HO_10 := kb_ HO_10 hb; replace HO_82 := kb_ HO_82 hb; replace HB := Aside0.mk (below_step (bl_ HB).out hb); (try clear hb); obtain ⟨Ao109, co109, eo109⟩ := Kd.R_slice HO_7.out; subst eo109) | ((with_reducible refine gate_callee (f := 13) rfl ?_); refine gl_ (some 96) Tryz.func13 #[.slice Ao109 t492.length co109, .int .i32 (rd t523 x84_2)] ?_; (with_reducible refine (class_Class_Has.calls _ _ t492 (rd t523 x84_2) t529 _ ?side1 ?side2 A68.out).mono ?_); (case side1 => exact kc_ HO_7); (case side2 => exact kl_ HO_7); rintro e w110 ⟨rfl, hb⟩; refine ⟨_, rfl, ?_⟩; replace HO_0 := Aside0.mk (Kd.V_below (krV_ HO_0) hb); replace HO_1 := Aside0.mk (Kd.V_below (krV_ HO_1) hb); replace HO_5 := kb_ HO_5 hb; replace HO_6 := kb_ HO_6 hb; replace HO_7 := kb_ HO_7 hb; replace HO_8 := kb_ HO_8 hb; replace HO_9 := kb_ HO_9 hb; replace HO_10 := kb_ HO_10 hb; replace HO_82 := kb_ HO_82 hb; replace HB := Aside0.mk (below_step (bl_ HB).out hb); (try clear hb); obtain ⟨Ao111, co111, eo111⟩ := Kd.R_slice HO_8.out; subst eo111) | (go_at_call 13; (with_reducible refine (class_Class_Has.calls _ _ t495 (rd t523 x84_2) t533 _ ?side1 ?side2 A99.out).mono ?_); (case side1 => exact kc_ HO_8); (case side2 => exact kl_ HO_8); rintro e w112 ⟨rfl, hb⟩; replace HO_0 := Aside0.mk (Kd.V_below (krV_ HO_0) hb); replace HO_1 := Aside0.mk (Kd.V_below (krV_ HO_1) hb); replace HO_5 := kb_ HO_5 hb; replace HO_6 := kb_ HO_6 hb; replace HO_7 := kb_ HO_7 hb; replace HO_8 := kb_ HO_8 hb; replace HO_9 := kb_ HO_9 hb; replace HO_10 := kb_ HO_10 hb; replace HO_82 := kb_ HO_82 hb; replace HB := Aside0.mk (below_step (bl_ HB).out hb); (try clear hb); obtain ⟨Ao113, co113, eo113⟩ := Kd.R_slice HO_9.out; subst eo113) | (go_at_call 13; (with_reducible refine (class_Class_Has.calls _ _ t498 (rd t523 x84_2) t534 _ ?side1 ?side2 A101.out).mono ?_); (case side1 => exact kc_ HO_9); (case side2 => exact kl_ HO_9); rintro e w114 ⟨rfl, hb⟩; replace HO_0 := Aside0.mk (Kd.V_below (krV_ HO_0) hb); replace HO_1 := Aside0.mk (Kd.V_below (krV_ HO_1) hb); replace HO_5 := kb_ HO_5 hb; replace HO_6 := kb_ HO_6 hb; replace HO_7 := kb_ HO_7 hb; replace HO_8 := kb_ HO_8 hb; replace HO_9 := kb_ HO_9 hb; replace HO_10 := kb_ HO_10 hb; replace HO_82 := kb_ HO_82 hb; replace HB := Aside0.mk (below_step (bl_ HB).out hb); (try clear hb); obtain ⟨Ao115, co115, eo115⟩ := Kd.R_slice HO_10.out; subst eo115) | (go_at_call 13; (with_reducible refine (class_Class_Has.calls _ _ t501 (rd t523 x84_2) t535 _ ?side1 ?side2 A103.out).mono ?_); (case side1 => exact kc_ HO_10); (case side2 => exact kl_ HO_10); rintro e w116 ⟨rfl, hb⟩; replace HO_0 := Aside0.mk (Kd.V_below (krV_ HO_0) hb); replace HO_1 := Aside0.mk (Kd.V_below (krV_ HO_1) hb); replace HO_5 := kb_ HO_5 hb; replace HO_6 := kb_ HO_6 hb; replace HO_7 := kb_ HO_7 hb; replace HO_8 := kb_ HO_8 hb; replace HO_9 := kb_ HO_9 hb; replace HO_10 := kb_ HO_10 hb; replace HO_82 := kb_ HO_82 hb; replace HB := Aside0.mk (below_step (bl_ HB).out hb); (try clear hb); (try clear hi)))
                  go_roundg k2
                  case measure => have := HJ12.out; have := HK2.out; omega
                  case rel => exact ⟨((false == t528)), (wrap64 (x84_2 + 1)), eq_, eq_, H', ⟨by have := HJ12.out; have := HK2.out; omega⟩, ⟨by (with_reducible repeat (first | apply Kd.V_alloc | apply Kd.V_drewN | apply Kd.V_drew)); exact HO_0.out⟩, ⟨by (with_reducible repeat (first | apply Kd.V_alloc | apply Kd.V_drewN | apply Kd.V_drew)); exact HO_1.out⟩, ⟨by (with_reducible repeat (first | apply Kd.R_alloc | apply Kd.R_drewN | apply Kd.R_drew)); exact HO_5.out⟩, ⟨by (with_reducible repeat (first | apply Kd.R_alloc | apply Kd.R_drewN | apply Kd.R_drew)); exact HO_6.out⟩, ⟨by (with_reducible repeat (first | apply Kd.R_alloc | apply Kd.R_drewN | apply Kd.R_drew)); exact HO_7.out⟩, ⟨by (with_reducible repeat (first | apply Kd.R_alloc | apply Kd.R_drewN | apply Kd.R_drew)); exact HO_8.out⟩, ⟨by (with_reducible repeat (first | apply Kd.R_alloc | apply Kd.R_drewN | apply Kd.R_drew)); exact HO_9.out⟩, ⟨by (with_reducible repeat (first | apply Kd.R_alloc | apply Kd.R_drewN | apply Kd.R_drew)); exact HO_10.out⟩, ⟨by (with_reducible repeat (first | apply Kd.R_alloc | apply Kd.R_drewN | apply Kd.R_drew)); exact HO_82.out⟩, (bl_ HB)⟩
                 ·replace c106 := Bool.eq_false_iff.mpr c106
                  subst c106
                  have H1 : (florinlaw10_ClassOps.l0 k2 l0 l1 t486 t489 t492 t495 t498 t501 false t523 (t523.length : Int) (wrap64 (x84_2 + 1))) = some r := by rw [if_neg (show ¬ (false = true) by decide)] at H; exact H
                  clear H
                  have H := H1
                  clear H1
                  have H' := Aside0.mk H
                  clear H
                  have p526 : 0 ≤ (x84_2 : Int) := of_decide_eq_true (by first | (with_reducible assumption) | assumption)
                  have q526 : x84_2 < (t523.length : Int) := of_decide_eq_true (by first | (with_reducible assumption) | assumption)
                  obtain ⟨ad526, e526, hx526_0⟩ := Kd.at_int (Kd.R_reads' HO_82.out).2.2 x84_2 p526 q526
                  cases e526
                  replace p526 := eq_true p526
                  replace q526 := eq_true q526
                  go_wp2_with (first | ((with_reducible refine gate_callee (f := 14) rfl ?_); refine gl_ (some 90) Tryz.func14 #[.slice A0 l0.length c0, .int .i32 (rd t523 x84_2)] ?_; (with_reducible refine (florinlaw10_in.calls k2 _ _ l0 (rd t523 x84_2) false _ ?side1 ?side2 A66.out).mono ?_); (case side1 => repeat (first | exact (Kd.V_reads' HO_0.out).2.2 | (with_reducible refine Kd.C_alloc ?_ _) | (with_reducible refine Kd.C_drewN ?_ _) | (with_reducible refine Kd.C_drew ?_))); (case side2 => exact (Kd.V_reads' HO_0.out).2.1); rintro e w117 ⟨rfl, hb⟩; refine ⟨_, rfl, ?_⟩; replace HO_0 := Aside0.mk (Kd.V_below (krV_ HO_0) hb); replace HO_1 := Aside0.mk (Kd.V_below (krV_ HO_1) hb); replace HO_5 := kb_ HO_5 hb; replace HO_6 := kb_ HO_6 hb; replace HO_7 := kb_ HO_7 hb; replace HO_8 := kb_ HO_8 hb; replace HO_9 := kb_ HO_9 hb; replace HO_10 := kb_ HO_10 hb; replace HO_82 := kb_ HO_82 hb; replace HB := Aside0.mk (below_step (bl_ HB).out hb); (try clear hb); (try clear hi)) | ((with_reducible refine gate_callee (f := 14) rfl ?_); refine gl_ (some 93) Tryz.func14 #[.slice A1 l1.length c1, .int .i32 (rd t523 x84_2)] ?_; (with_reducible refine (florinlaw10_in.calls k2 _ _ l1 (rd t523 x84_2) t528 _ ?side1 ?side2 A67.out).mono ?_); (case side1 => repeat (first | exact (Kd.V_reads' HO_1.out).2.2 | (with_reducible refine Kd.C_alloc ?_ _) | (with_reducible refine Kd.C_drewN ?_ _) | (with_reducible refine Kd.C_drew ?_))); (case side2 => exact (Kd.V_reads' HO_1.out).2.1); rintro e w118 ⟨rfl, hb⟩; refine ⟨_, rfl, ?_⟩; replace HO_0 := Aside0.mk (Kd.V_below (krV_ HO_0) hb); replace HO_1 := Aside0.mk (Kd.V_below (krV_ HO_1) hb); replace HO_5 := kb_ HO_5 hb; replace HO_6 := kb_ HO_6 hb; replace HO_7 := kb_ HO_7 hb; replace HO_8 := kb_ HO_8 hb; replace HO_9 := kb_ HO_9 hb; replace HO_10 := kb_ HO_10 hb; replace HO_82 := kb_ HO_82 hb; replace HB := Aside0.mk (below_step (bl_ HB).out hb); (try clear hb); obtain ⟨Ao119, co119, eo119⟩ := Kd.R_slice HO_7.out; subst eo119) | ((with_reducible refine gate_callee (f := 13) rfl ?_); refine gl_ (some 96) Tryz.func13 #[.slice Ao119 t492.length co119, .int .i32 (rd t523 x84_2)] ?_; (with_reducible refine (class_Class_Has.calls _ _ t492 (rd t523 x84_2) t529 _ ?side1 ?side2 A68.out).mono ?_); (case side1 => exact kc_ HO_7); (case side2 => exact kl_ HO_7); rintro e w120 ⟨rfl, hb⟩; refine ⟨_, rfl, ?_⟩; replace HO_0 := Aside0.mk (Kd.V_below (krV_ HO_0) hb); replace HO_1 := Aside0.mk (Kd.V_below (krV_ HO_1) hb); replace HO_5 := kb_ HO_5 hb; replace HO_6 := kb_ HO_6 hb; replace HO_7 := kb_ HO_7 hb; replace HO_8 := kb_ HO_8 hb; replace HO_9 := kb_ HO_9 hb; replace HO_10 := kb_ HO_10 hb; replace HO_82 := kb_ HO_82 hb; replace HB := Aside0.mk (below_step (bl_ HB).out hb); (try clear hb); obtain ⟨Ao121, co121, eo121⟩ := Kd.R_slice HO_8.out; subst eo121) | (go_at_call 13; (with_reducible refine (class_Class_Has.calls _ _ t495 (rd t523 x84_2) t533 _ ?side1 ?side2 A99.out).mono ?_); (case side1 => exact kc_ HO_8); (case side2 => exact kl_ HO_8); rintro e w122 ⟨rfl, hb⟩; replace HO_0 := Aside0.mk (Kd.V_below (krV_ HO_0) hb); replace HO_1 := Aside0.mk (Kd.V_below (krV_ HO_1) hb); replace HO_5 := kb_ HO_5 hb; replace HO_6 := kb_ HO_6 hb; replace HO_7 := kb_ HO_7 hb; replace HO_8 := kb_ HO_8 hb; replace HO_9 := kb_ HO_9 hb; replace HO_10 := kb_ HO_10 hb; replace HO_82 := kb_ HO_82 hb; replace HB := Aside0.mk (below_step (bl_ HB).out hb); (try clear hb); obtain ⟨Ao123, co123, eo123⟩ := Kd.R_slice HO_9.out; subst eo123) | (go_at_call 13; (with_reducible refine (class_Class_Has.calls _ _ t498 (rd t523 x84_2) t534 _ ?side1 ?side2 A101.out).mono ?_); (case side1 => exact kc_ HO_9); (case side2 => exact kl_ HO_9); rintro e w124 ⟨rfl, hb⟩; replace HO_0 := Aside0.mk (Kd.V_below (krV_ HO_0) hb); replace HO_1 := Aside0.mk (Kd.V_below (krV_ HO_1) hb); replace HO_5 := kb_ HO_5 hb; replace HO_6 := kb_ HO_6 hb; replace HO_7 := kb_ HO_7 hb; replace HO_8 := kb_ HO_8 hb; replace HO_9 := kb_ HO_9 hb; replace HO_10 := kb_ HO_10 hb; replace HO_82 := kb_ HO_82 hb; replace HB := Aside0.mk (below_step (bl_ HB).out hb); (try clear hb); obtain ⟨Ao125, co125, eo125⟩ := Kd.R_slice HO_10.out; subst eo125) | (go_at_call 13; (with_reducible refine (class_Class_Has.calls _ _ t501 (rd t523 x84_2) t535 _ ?side1 ?side2 A103.out).mono ?_); (case side1 => exact kc_ HO_10); (case side2 => exact kl_ HO_10); rintro e w126 ⟨rfl, hb⟩; replace HO_0 := Aside0.mk (Kd.V_below (krV_ HO_0) hb); replace HO_1 := Aside0.mk (Kd.V_below (krV_ HO_1) hb); replace HO_5 := kb_ HO_5 hb; replace HO_6 := kb_ HO_6 hb; replace HO_7 := kb_ HO_7 hb; replace HO_8 := kb_ HO_8 hb; replace HO_9 := kb_ HO_9 hb; replace HO_10 := kb_ HO_10 hb; replace HO_82 := kb_ HO_82 hb; replace HB := Aside0.mk (below_step (bl_ HB).out hb); (try clear hb); (try clear hi)))
                  go_roundg k2
                  case measure => have := HJ12.out; have := HK2.out; omega
                  case rel => exact ⟨(false), (wrap64 (x84_2 + 1)), eq_, eq_, H', ⟨by have := HJ12.out; have := HK2.out; omega⟩, ⟨by (with_reducible repeat (first | apply Kd.V_alloc | apply Kd.V_drewN | apply Kd.V_drew)); exact HO_0.out⟩, ⟨by (with_reducible repeat (first | apply Kd.V_alloc | apply Kd.V_drewN | apply Kd.V_drew)); exact HO_1.out⟩, ⟨by (with_reducible repeat (first | apply Kd.R_alloc | apply Kd.R_drewN | apply Kd.R_drew)); exact HO_5.out⟩, ⟨by (with_reducible repeat (first | apply Kd.R_alloc | apply Kd.R_drewN | apply Kd.R_drew)); exact HO_6.out⟩, ⟨by (with_reducible repeat (first | apply Kd.R_alloc | apply Kd.R_drewN | apply Kd.R_drew)); exact HO_7.out⟩, ⟨by (with_reducible repeat (first | apply Kd.R_alloc | apply Kd.R_drewN | apply Kd.R_drew)); exact HO_8.out⟩, ⟨by (with_reducible repeat (first | apply Kd.R_alloc | apply Kd.R_drewN | apply Kd.R_drew)); exact HO_9.out⟩, ⟨by (with_reducible repeat (first | apply Kd.R_alloc | apply Kd.R_drewN | apply Kd.R_drew)); exact HO_10.out⟩, ⟨by (with_reducible repeat (first | apply Kd.R_alloc | apply Kd.R_drewN | apply Kd.R_drew)); exact HO_82.out⟩, (bl_ HB)⟩
               ·rw [if_neg c104] at H
                have c104b0 : decide (0 ≤ (rd t523 x84_2)) = false := decide_eq_false c104
                clear c104
                by_cases c127 : (t535 != false) = true
                ·rw [if_pos c127] at H
                 exact absurd H (by simp)
                ·rw [if_neg c127] at H
                 have c127b0 : (t535 != false) = false := by simpa using c127
                 (try (have c127b1 : decide (t535 = false) = true := by simpa using c127))
                 (try (have c127b2 : (t535 == false) = true := by simpa using c127))
                 (try (have c127b3 : (t535 = false) = True := eq_true (by simpa using c127)))
                 clear c127
                 by_cases c128 : x11_2 = true
                 ·subst c128
                  have H1 : (florinlaw10_ClassOps.l0 k2 l0 l1 t486 t489 t492 t495 t498 t501 (false == t528) t523 (t523.length : Int) (wrap64 (x84_2 + 1))) = some r := by rw [if_pos rfl] at H; exact H
                  clear H
                  have H := H1
                  clear H1
                  have H' := Aside0.mk H
                  clear H
                  have p526 : 0 ≤ (x84_2 : Int) := of_decide_eq_true (by first | (with_reducible assumption) | assumption)
                  have q526 : x84_2 < (t523.length : Int) := of_decide_eq_true (by first | (with_reducible assumption) | assumption)
                  obtain ⟨ad526, e526, hx526_0⟩ := Kd.at_int (Kd.R_reads' HO_82.out).2.2 x84_2 p526 q526
                  cases e526
                  replace p526 := eq_true p526
                  replace q526 := eq_true q526
                  go_wp2_with (first | ((with_reducible refine gate_callee (f := 14) rfl ?_); refine gl_ (some 90) Tryz.func14 #[.slice A0 l0.length c0, .int .i32 (rd t523 x84_2)] ?_; (with_reducible refine (florinlaw10_in.calls k2 _ _ l0 (rd t523 x84_2) false _ ?side1 ?side2 A66.out).mono ?_); (case side1 => repeat (first | exact (Kd.V_reads' HO_0.out).2.2 | (with_reducible refine Kd.C_alloc ?_ _) | (with_reducible refine Kd.C_drewN ?_ _) | (with_reducible refine Kd.C_drew ?_))); (case side2 => exact (Kd.V_reads' HO_0.out).2.1); rintro e w129 ⟨rfl, hb⟩; refine ⟨_, rfl, ?_⟩; replace HO_0 := Aside0.mk (Kd.V_below (krV_ HO_0) hb); replace HO_1 := Aside0.mk (Kd.V_below (krV_ HO_1) hb); replace HO_5 := kb_ HO_5 hb; replace HO_6 := kb_ HO_6 hb; replace HO_7 := kb_ HO_7 hb; replace HO_8 := kb_ HO_8 hb; replace HO_9 := kb_ HO_9 hb; replace HO_10 := kb_ HO_10 hb; replace HO_82 := kb_ HO_82 hb; replace HB := Aside0.mk (below_step (bl_ HB).out hb); (try clear hb); (try clear hi)) | ((with_reducible refine gate_callee (f := 14) rfl ?_); refine gl_ (some 93) Tryz.func14 #[.slice A1 l1.length c1, .int .i32 (rd t523 x84_2)] ?_; (with_reducible refine (florinlaw10_in.calls k2 _ _ l1 (rd t523 x84_2) t528 _ ?side1 ?side2 A67.out).mono ?_); (case side1 => repeat (first | exact (Kd.V_reads' HO_1.out).2.2 | (with_reducible refine Kd.C_alloc ?_ _) | (with_reducible refine Kd.C_drewN ?_ _) | (with_reducible refine Kd.C_drew ?_))); (case side2 => exact (Kd.V_reads' HO_1.out).2.1); rintro e w130 ⟨rfl, hb⟩; refine ⟨_, rfl, ?_⟩; replace HO_0 := Aside0.mk (Kd.V_below (krV_ HO_0) hb); replace HO_1 := Aside0.mk (Kd.V_below (krV_ HO_1) hb); replace HO_5 := kb_ HO_5 hb; replace HO_6 := kb_ HO_6 hb; replace HO_7 := kb_ HO_7 hb; replace HO_8 := kb_ HO_8 hb; replace HO_9 := kb_ HO_9 hb; replace HO_10 := kb_ HO_10 hb; replace HO_82 := kb_ HO_82 hb; replace HB := Aside0.mk (below_step (bl_ HB).out hb); (try clear hb); obtain ⟨Ao131, co131, eo131⟩ := Kd.R_slice HO_7.out; subst eo131) | ((with_reducible refine gate_callee (f := 13) rfl ?_); refine gl_ (some 96) Tryz.func13 #[.slice Ao131 t492.length co131, .int .i32 (rd t523 x84_2)] ?_; (with_reducible refine (class_Class_Has.calls _ _ t492 (rd t523 x84_2) t529 _ ?side1 ?side2 A68.out).mono ?_); (case side1 => exact kc_ HO_7); (case side2 => exact kl_ HO_7); rintro e w132 ⟨rfl, hb⟩; refine ⟨_, rfl, ?_⟩; replace HO_0 := Aside0.mk (Kd.V_below (krV_ HO_0) hb); replace HO_1 := Aside0.mk (Kd.V_below (krV_ HO_1) hb); replace HO_5 := kb_ HO_5 hb; replace HO_6 := kb_ HO_6 hb; replace HO_7 := kb_ HO_7 hb; replace HO_8 := kb_ HO_8 hb; replace HO_9 := kb_ HO_9 hb; replace HO_10 := kb_ HO_10 hb; replace HO_82 := kb_ HO_82 hb; replace HB := Aside0.mk (below_step (bl_ HB).out hb); (try clear hb); obtain ⟨Ao133, co133, eo133⟩ := Kd.R_slice HO_8.out; subst eo133) | (go_at_call 13; (with_reducible refine (class_Class_Has.calls _ _ t495 (rd t523 x84_2) t533 _ ?side1 ?side2 A99.out).mono ?_); (case side1 => exact kc_ HO_8); (case side2 => exact kl_ HO_8); rintro e w134 ⟨rfl, hb⟩; replace HO_0 := Aside0.mk (Kd.V_below (krV_ HO_0) hb); replace HO_1 := Aside0.mk (Kd.V_below (krV_ HO_1) hb); replace HO_5 := kb_ HO_5 hb; replace HO_6 := kb_ HO_6 hb; replace HO_7 := kb_ HO_7 hb; replace HO_8 := kb_ HO_8 hb; replace HO_9 := kb_ HO_9 hb; replace HO_10 := kb_ HO_10 hb; replace HO_82 := kb_ HO_82 hb; replace HB := Aside0.mk (below_step (bl_ HB).out hb); (try clear hb); obtain ⟨Ao135, co135, eo135⟩ := Kd.R_slice HO_9.out; subst eo135) | (go_at_call 13; (with_reducible refine (class_Class_Has.calls _ _ t498 (rd t523 x84_2) t534 _ ?side1 ?side2 A101.out).mono ?_); (case side1 => exact kc_ HO_9); (case side2 => exact kl_ HO_9); rintro e w136 ⟨rfl, hb⟩; replace HO_0 := Aside0.mk (Kd.V_below (krV_ HO_0) hb); replace HO_1 := Aside0.mk (Kd.V_below (krV_ HO_1) hb); replace HO_5 := kb_ HO_5 hb; replace HO_6 := kb_ HO_6 hb; replace HO_7 := kb_ HO_7 hb; replace HO_8 := kb_ HO_8 hb; replace HO_9 := kb_ HO_9 hb; replace HO_10 := kb_ HO_10 hb; replace HO_82 := kb_ HO_82 hb; replace HB := Aside0.mk (below_step (bl_ HB).out hb); (try clear hb); obtain ⟨Ao137, co137, eo137⟩ := Kd.R_slice HO_10.out; subst eo137) | (go_at_call 13; (with_reducible refine (class_Class_Has.calls _ _ t501 (rd t523 x84_2) t535 _ ?side1 ?side2 A103.out).mono ?_); (case side1 => exact kc_ HO_10); (case side2 => exact kl_ HO_10); rintro e w138 ⟨rfl, hb⟩; replace HO_0 := Aside0.mk (Kd.V_below (krV_ HO_0) hb); replace HO_1 := Aside0.mk (Kd.V_below (krV_ HO_1) hb); replace HO_5 := kb_ HO_5 hb; replace HO_6 := kb_ HO_6 hb; replace HO_7 := kb_ HO_7 hb; replace HO_8 := kb_ HO_8 hb; replace HO_9 := kb_ HO_9 hb; replace HO_10 := kb_ HO_10 hb; replace HO_82 := kb_ HO_82 hb; replace HB := Aside0.mk (below_step (bl_ HB).out hb); (try clear hb); (try clear hi)))
                  go_roundg k2
                  case measure => have := HJ12.out; have := HK2.out; omega
                  case rel => exact ⟨((false == t528)), (wrap64 (x84_2 + 1)), eq_, eq_, H', ⟨by have := HJ12.out; have := HK2.out; omega⟩, ⟨by (with_reducible repeat (first | apply Kd.V_alloc | apply Kd.V_drewN | apply Kd.V_drew)); exact HO_0.out⟩, ⟨by (with_reducible repeat (first | apply Kd.V_alloc | apply Kd.V_drewN | apply Kd.V_drew)); exact HO_1.out⟩, ⟨by (with_reducible repeat (first | apply Kd.R_alloc | apply Kd.R_drewN | apply Kd.R_drew)); exact HO_5.out⟩, ⟨by (with_reducible repeat (first | apply Kd.R_alloc | apply Kd.R_drewN | apply Kd.R_drew)); exact HO_6.out⟩, ⟨by (with_reducible repeat (first | apply Kd.R_alloc | apply Kd.R_drewN | apply Kd.R_drew)); exact HO_7.out⟩, ⟨by (with_reducible repeat (first | apply Kd.R_alloc | apply Kd.R_drewN | apply Kd.R_drew)); exact HO_8.out⟩, ⟨by (with_reducible repeat (first | apply Kd.R_alloc | apply Kd.R_drewN | apply Kd.R_drew)); exact HO_9.out⟩, ⟨by (with_reducible repeat (first | apply Kd.R_alloc | apply Kd.R_drewN | apply Kd.R_drew)); exact HO_10.out⟩, ⟨by (with_reducible repeat (first | apply Kd.R_alloc | apply Kd.R_drewN | apply Kd.R_drew)); exact HO_82.out⟩, (bl_ HB)⟩
                 ·replace c128 := Bool.eq_false_iff.mpr c128
                  subst c128
                  have H1 : (florinlaw10_ClassOps.l0 k2 l0 l1 t486 t489 t492 t495 t498 t501 false t523 (t523.length : Int) (wrap64 (x84_2 + 1))) = some r := by rw [if_neg (show ¬ (false = true) by decide)] at H; exact H
                  clear H
                  have H := H1
                  clear H1
                  have H' := Aside0.mk H
                  clear H
                  have p526 : 0 ≤ (x84_2 : Int) := of_decide_eq_true (by first | (with_reducible assumption) | assumption)
                  have q526 : x84_2 < (t523.length : Int) := of_decide_eq_true (by first | (with_reducible assumption) | assumption)
                  obtain ⟨ad526, e526, hx526_0⟩ := Kd.at_int (Kd.R_reads' HO_82.out).2.2 x84_2 p526 q526
                  cases e526
                  replace p526 := eq_true p526
                  replace q526 := eq_true q526
                  go_wp2_with (first | ((with_reducible refine gate_callee (f := 14) rfl ?_); refine gl_ (some 90) Tryz.func14 #[.slice A0 l0.length c0, .int .i32 (rd t523 x84_2)] ?_; (with_reducible refine (florinlaw10_in.calls k2 _ _ l0 (rd t523 x84_2) false _ ?side1 ?side2 A66.out).mono ?_); (case side1 => repeat (first | exact (Kd.V_reads' HO_0.out).2.2 | (with_reducible refine Kd.C_alloc ?_ _) | (with_reducible refine Kd.C_drewN ?_ _) | (with_reducible refine Kd.C_drew ?_))); (case side2 => exact (Kd.V_reads' HO_0.out).2.1); rintro e w139 ⟨rfl, hb⟩; refine ⟨_, rfl, ?_⟩; replace HO_0 := Aside0.mk (Kd.V_below (krV_ HO_0) hb); replace HO_1 := Aside0.mk (Kd.V_below (krV_ HO_1) hb); replace HO_5 := kb_ HO_5 hb; replace HO_6 := kb_ HO_6 hb; replace HO_7 := kb_ HO_7 hb; replace HO_8 := kb_ HO_8 hb; replace HO_9 := kb_ HO_9 hb; replace HO_10 := kb_ HO_10 hb; replace HO_82 := kb_ HO_82 hb; replace HB := Aside0.mk (below_step (bl_ HB).out hb); (try clear hb); (try clear hi)) | ((with_reducible refine gate_callee (f := 14) rfl ?_); refine gl_ (some 93) Tryz.func14 #[.slice A1 l1.length c1, .int .i32 (rd t523 x84_2)] ?_; (with_reducible refine (florinlaw10_in.calls k2 _ _ l1 (rd t523 x84_2) t528 _ ?side1 ?side2 A67.out).mono ?_); (case side1 => repeat (first | exact (Kd.V_reads' HO_1.out).2.2 | (with_reducible refine Kd.C_alloc ?_ _) | (with_reducible refine Kd.C_drewN ?_ _) | (with_reducible refine Kd.C_drew ?_))); (case side2 => exact (Kd.V_reads' HO_1.out).2.1); rintro e w140 ⟨rfl, hb⟩; refine ⟨_, rfl, ?_⟩; replace HO_0 := Aside0.mk (Kd.V_below (krV_ HO_0) hb); replace HO_1 := Aside0.mk (Kd.V_below (krV_ HO_1) hb); replace HO_5 := kb_ HO_5 hb; replace HO_6 := kb_ HO_6 hb; replace HO_7 := kb_ HO_7 hb; replace HO_8 := kb_ HO_8 hb; replace HO_9 := kb_ HO_9 hb; replace HO_10 := kb_ HO_10 hb; replace HO_82 := kb_ HO_82 hb; replace HB := Aside0.mk (below_step (bl_ HB).out hb); (try clear hb); obtain ⟨Ao141, co141, eo141⟩ := Kd.R_slice HO_7.out; subst eo141) | ((with_reducible refine gate_callee (f := 13) rfl ?_); refine gl_ (some 96) Tryz.func13 #[.slice Ao141 t492.length co141, .int .i32 (rd t523 x84_2)] ?_; (with_reducible refine (class_Class_Has.calls _ _ t492 (rd t523 x84_2) t529 _ ?side1 ?side2 A68.out).mono ?_); (case side1 => exact kc_ HO_7); (case side2 => exact kl_ HO_7); rintro e w142 ⟨rfl, hb⟩; refine ⟨_, rfl, ?_⟩; replace HO_0 := Aside0.mk (Kd.V_below (krV_ HO_0) hb); replace HO_1 := Aside0.mk (Kd.V_below (krV_ HO_1) hb); replace HO_5 := kb_ HO_5 hb; replace HO_6 := kb_ HO_6 hb; replace HO_7 := kb_ HO_7 hb; replace HO_8 := kb_ HO_8 hb; replace HO_9 := kb_ HO_9 hb; replace HO_10 := kb_ HO_10 hb; replace HO_82 := kb_ HO_82 hb; replace HB := Aside0.mk (below_step (bl_ HB).out hb); (try clear hb); obtain ⟨Ao143, co143, eo143⟩ := Kd.R_slice HO_8.out; subst eo143) | (go_at_call 13; (with_reducible refine (class_Class_Has.calls _ _ t495 (rd t523 x84_2) t533 _ ?side1 ?side2 A99.out).mono ?_); (case side1 => exact kc_ HO_8); (case side2 => exact kl_ HO_8); rintro e w144 ⟨rfl, hb⟩; replace HO_0 := Aside0.mk (Kd.V_below (krV_ HO_0) hb); replace HO_1 := Aside0.mk (Kd.V_below (krV_ HO_1) hb); replace HO_5 := kb_ HO_5 hb; replace HO_6 := kb_ HO_6 hb; replace HO_7 := kb_ HO_7 hb; replace HO_8 := kb_ HO_8 hb; replace HO_9 := kb_ HO_9 hb; replace HO_10 := kb_ HO_10 hb; replace HO_82 := kb_ HO_82 hb; replace HB := Aside0.mk (below_step (bl_ HB).out hb); (try clear hb); obtain ⟨Ao145, co145, eo145⟩ := Kd.R_slice HO_9.out; subst eo145) | (go_at_call 13; (with_reducible refine (class_Class_Has.calls _ _ t498 (rd t523 x84_2) t534 _ ?side1 ?side2 A101.out).mono ?_); (case side1 => exact kc_ HO_9); (case side2 => exact kl_ HO_9); rintro e w146 ⟨rfl, hb⟩; replace HO_0 := Aside0.mk (Kd.V_below (krV_ HO_0) hb); replace HO_1 := Aside0.mk (Kd.V_below (krV_ HO_1) hb); replace HO_5 := kb_ HO_5 hb; replace HO_6 := kb_ HO_6 hb; replace HO_7 := kb_ HO_7 hb; replace HO_8 := kb_ HO_8 hb; replace HO_9 := kb_ HO_9 hb; replace HO_10 := kb_ HO_10 hb; replace HO_82 := kb_ HO_82 hb; replace HB := Aside0.mk (below_step (bl_ HB).out hb); (try clear hb); obtain ⟨Ao147, co147, eo147⟩ := Kd.R_slice HO_10.out; subst eo147) | (go_at_call 13; (with_reducible refine (class_Class_Has.calls _ _ t501 (rd t523 x84_2) t535 _ ?side1 ?side2 A103.out).mono ?_); (case side1 => exact kc_ HO_10); (case side2 => exact kl_ HO_10); rintro e w148 ⟨rfl, hb⟩; replace HO_0 := Aside0.mk (Kd.V_below (krV_ HO_0) hb); replace HO_1 := Aside0.mk (Kd.V_below (krV_ HO_1) hb); replace HO_5 := kb_ HO_5 hb; replace HO_6 := kb_ HO_6 hb; replace HO_7 := kb_ HO_7 hb; replace HO_8 := kb_ HO_8 hb; replace HO_9 := kb_ HO_9 hb; replace HO_10 := kb_ HO_10 hb; replace HO_82 := kb_ HO_82 hb; replace HB := Aside0.mk (below_step (bl_ HB).out hb); (try clear hb); (try clear hi)))
                  go_roundg k2
                  case measure => have := HJ12.out; have := HK2.out; omega
                  case rel => exact ⟨(false), (wrap64 (x84_2 + 1)), eq_, eq_, H', ⟨by have := HJ12.out; have := HK2.out; omega⟩, ⟨by (with_reducible repeat (first | apply Kd.V_alloc | apply Kd.V_drewN | apply Kd.V_drew)); exact HO_0.out⟩, ⟨by (with_reducible repeat (first | apply Kd.V_alloc | apply Kd.V_drewN | apply Kd.V_drew)); exact HO_1.out⟩, ⟨by (with_reducible repeat (first | apply Kd.R_alloc | apply Kd.R_drewN | apply Kd.R_drew)); exact HO_5.out⟩, ⟨by (with_reducible repeat (first | apply Kd.R_alloc | apply Kd.R_drewN | apply Kd.R_drew)); exact HO_6.out⟩, ⟨by (with_reducible repeat (first | apply Kd.R_alloc | apply Kd.R_drewN | apply Kd.R_drew)); exact HO_7.out⟩, ⟨by (with_reducible repeat (first | apply Kd.R_alloc | apply Kd.R_drewN | apply Kd.R_drew)); exact HO_8.out⟩, ⟨by (with_reducible repeat (first | apply Kd.R_alloc | apply Kd.R_drewN | apply Kd.R_drew)); exact HO_9.out⟩, ⟨by (with_reducible repeat (first | apply Kd.R_alloc | apply Kd.R_drewN | apply Kd.R_drew)); exact HO_10.out⟩, ⟨by (with_reducible repeat (first | apply Kd.R_alloc | apply Kd.R_drewN | apply Kd.R_drew)); exact HO_82.out⟩, (bl_ HB)⟩
          ·rw [if_neg c65] at H
           exact absurd H (by simp)
         ·rw [if_neg c64] at H
          exact absurd H (by simp)
        ·rw [if_neg c63] at H
         have c63b0 : decide (x84_2 < (t523.length : Int)) = false := decide_eq_false c63
         clear c63
         have HC149 := Aside0.mk H
         clear H
         go_upto_region 23 with (fail)
         go_cut [4] (fun v4 wc => ∃ (kq : Nat) (x4_148 : Bool), v4 = .bool x4_148 ∧ Aside0 (florinlaw10_ClassOps.j2 kq x4_148 = some r) ∧ Aside0 (kq ≤ k2) ∧ Aside0 (Below w.heap.size w wc))
         case first =>
          have H := HC149.out
          clear HC149
          replace H := Option.bind_eq_some_iff.mp H
          obtain ⟨t536, A1500, H⟩ := H
          replace H : (if (t536 == x11_2) = true then ((class_Class_Minus.f k2 t486 t486).bind fun t537 => ((class_Made.f k2 ([] : List (S28))).bind fun t540 => ((class_Class_Same.f k2 t537 t540).bind fun t543 => (if t543 = true then ((class_Class_Or.f k2 t486 t501).bind fun t544 => ((class_Made.f k2 (([(⟨0, 1114111⟩ : S28)] : List (S28)))).bind fun t550 => ((class_Class_Same.f k2 t544 t550).bind fun t553 => (florinlaw10_ClassOps.j2 k2 t553)))) else (florinlaw10_ClassOps.j2 k2 false))))) else (florinlaw10_ClassOps.j2 k2 false)) = some r := H
          have A150 := Aside0.mk A1500
          clear A1500
          by_cases c151 : (t536 == x11_2) = true
          ·rw [if_pos c151] at H
           have c151b0 : (t536 == x11_2) = true := c151
           (try (have c151b1 : decide (t536 = x11_2) = true := by simpa using c151))
           (try (have c151b2 : (t536 == x11_2) = true := by simpa using c151))
           (try (have c151b3 : (t536 = x11_2) = True := eq_true (by simpa using c151)))
           clear c151
           (first | rw [c151b0] | (simp only [i64_w, i32_w]; rw [c151b0]) | skip)
           replace H := Option.bind_eq_some_iff.mp H
           obtain ⟨t537, A1520, H⟩ := H
           replace H : ((class_Made.f k2 ([] : List (S28))).bind fun t540 => ((class_Class_Same.f k2 t537 t540).bind fun t543 => (if t543 = true then ((class_Class_Or.f k2 t486 t501).bind fun t544 => ((class_Made.f k2 (([(⟨0, 1114111⟩ : S28)] : List (S28)))).bind fun t550 => ((class_Class_Same.f k2 t544 t550).bind fun t553 => (florinlaw10_ClassOps.j2 k2 t553)))) else (florinlaw10_ClassOps.j2 k2 false)))) = some r := H
           have A152 := Aside0.mk A1520
           clear A1520
           replace H := Option.bind_eq_some_iff.mp H
           obtain ⟨t540, A1530, H⟩ := H
           replace H : ((class_Class_Same.f k2 t537 t540).bind fun t543 => (if t543 = true then ((class_Class_Or.f k2 t486 t501).bind fun t544 => ((class_Made.f k2 (([(⟨0, 1114111⟩ : S28)] : List (S28)))).bind fun t550 => ((class_Class_Same.f k2 t544 t550).bind fun t553 => (florinlaw10_ClassOps.j2 k2 t553)))) else (florinlaw10_ClassOps.j2 k2 false))) = some r := H
           have A153 := Aside0.mk A1530
           clear A1530
           replace H := Option.bind_eq_some_iff.mp H
           obtain ⟨t543, A1540, H⟩ := H
           replace H : (if t543 = true then ((class_Class_Or.f k2 t486 t501).bind fun t544 => ((class_Made.f k2 (([(⟨0, 1114111⟩ : S28)] : List (S28)))).bind fun t550 => ((class_Class_Same.f k2 t544 t550).bind fun t553 => (florinlaw10_ClassOps.j2 k2 t553)))) else (florinlaw10_ClassOps.j2 k2 false)) = some r := H
           have A154 := Aside0.mk A1540
           clear A1540
           by_cases c155 : t543 = true
           ·subst c155
            have H1 : ((class_Class_Or.f k2 t486 t501).bind fun t544 => ((class_Made.f k2 (([(⟨0, 1114111⟩ : S28)] : List (S28)))).bind fun t550 => ((class_Class_Same.f k2 t544 t550).bind fun t553 => (florinlaw10_ClassOps.j2 k2 t553)))) = some r := by rw [if_pos rfl] at H; exact H
            clear H
            have H := H1
            clear H1
            replace H := Option.bind_eq_some_iff.mp H
            obtain ⟨t544, A1560, H⟩ := H
            replace H : ((class_Made.f k2 (([(⟨0, 1114111⟩ : S28)] : List (S28)))).bind fun t550 => ((class_Class_Same.f k2 t544 t550).bind fun t553 => (florinlaw10_ClassOps.j2 k2 t553))) = some r := H
            have A156 := Aside0.mk A1560
            clear A1560
            obtain ⟨y547, hy547⟩ : ∃ y_ : List (S28), y_ = (([(⟨0, 1114111⟩ : S28)] : List (S28))) := ⟨_, rfl⟩
            replace H : ((class_Made.f k2 y547).bind fun t550 => ((class_Class_Same.f k2 t544 t550).bind fun t553 => (florinlaw10_ClassOps.j2 k2 t553))) = some r := by first | (rw [hy547]; with_reducible exact H) | (have H2_ := (Option.bind_some _ _).symm.trans H; rw [hy547]; with_reducible exact H2_) | (have H2_ := (Option.bind_some _ _).symm.trans H; with_reducible exact H2_) | with_reducible exact H | (rw [hy547]; exact H) | exact H
            have Ny547 := Aside0.mk hy547
            clear hy547
            replace H := Option.bind_eq_some_iff.mp H
            obtain ⟨t550, A1570, H⟩ := H
            replace H : ((class_Class_Same.f k2 t544 t550).bind fun t553 => (florinlaw10_ClassOps.j2 k2 t553)) = some r := H
            have A157 := Aside0.mk A1570
            clear A1570
            replace H := Option.bind_eq_some_iff.mp H
            obtain ⟨t553, A1580, H⟩ := H
            replace H : (florinlaw10_ClassOps.j2 k2 t553) = some r := H
            have A158 := Aside0.mk A1580
            clear A1580
            have H' := Aside0.mk H
            clear H
            have hn0_ := Aside0.mk (fun w_ => (show Calls Tryz.prog 11 #[.slice none 0 0] w_ _ from class_Made.calls k2 none 0 ([] : List (S28)) t540 w_ (Kd.C_nil _ _) (Nat.le_refl _) A153.out))
            go_wp2_with (first | ((with_reducible refine gate_callee (f := 16) rfl ?_); refine gl_ (some 148) Tryz.func16 #[.slice Ao20 t486.length co20, .slice Ao21 t489.length co21] ?_; (with_reducible refine (class_Class_Same.calls k2 _ _ t486 _ _ t489 t536 _ ?side1 ?side2 ?side3 ?side4 A150.out).mono ?_); (case side1 => exact kc_ HO_5); (case side2 => exact kl_ HO_5); (case side3 => exact kc_ HO_6); (case side4 => exact kl_ HO_6); rintro e w' ⟨rfl, ⟨nd, rfl⟩⟩; refine ⟨_, rfl, ?_⟩) | (go_at_call 24; (with_reducible refine (class_Class_Minus.calls k2 _ _ t486 _ _ t486 t537 _ ?side1 ?side2 ?side3 ?side4 A152.out).mono ?_); (case side1 => exact kc_ HO_5); (case side2 => exact kl_ HO_5); (case side3 => exact kc_ HO_5); (case side4 => exact kl_ HO_5); rintro e w159 ⟨v538, rfl, ho0, hb⟩; have HO539 := Aside0.mk (Kd.R_lower (Kd.R_new' (Kd.R_new' (Kd.R_new' (Kd.R_new' (Kd.R_new' (Kd.R_new' (Kd.R_newM (M := fun k_ => (w.heap.size ≤ k_)) ho0 (below_size (bl_ HB).out) (fun k_ h_ => h_)) (kx_ HO_5)) (kx_ HO_6)) (kx_ HO_7)) (kx_ HO_8)) (kx_ HO_9)) (kx_ HO_10)) (below_size (bl_ HB).out)); replace HO_0 := Aside0.mk (Kd.V_elder' (krV_ HO_0) (Kd.R_base ho0) hb); replace HO_1 := Aside0.mk (Kd.V_elder' (krV_ HO_1) (Kd.R_base ho0) hb); replace HO_5 := ke_ HO_5 ho0 hb; replace HO_6 := ke_ HO_6 ho0 hb; replace HO_7 := ke_ HO_7 ho0 hb; replace HO_8 := ke_ HO_8 ho0 hb; replace HO_9 := ke_ HO_9 ho0 hb; replace HO_10 := ke_ HO_10 ho0 hb; replace HO_82 := kb_ HO_82 hb; replace HB := Aside0.mk (below_step (bl_ HB).out hb); (try clear hb); (try clear ho0)) | (go_at_call 11; (with_reducible refine (hn0_.out _).mono ?_); rintro e w160 ⟨v541, rfl, ho0, hb⟩; have HO542 := Aside0.mk (Kd.R_lower (Kd.R_new' (Kd.R_new' (Kd.R_new' (Kd.R_new' (Kd.R_new' (Kd.R_new' (Kd.R_new' (Kd.R_newM (M := fun k_ => (w.heap.size ≤ k_)) ho0 (below_size (bl_ HB).out) (fun k_ h_ => h_)) (kx_ HO_5)) (kx_ HO_6)) (kx_ HO_7)) (kx_ HO_8)) (kx_ HO_9)) (kx_ HO_10)) (kx_ HO539)) (below_size (bl_ HB).out)); replace HO_0 := Aside0.mk (Kd.V_elder' (krV_ HO_0) (Kd.R_base ho0) hb); replace HO_1 := Aside0.mk (Kd.V_elder' (krV_ HO_1) (Kd.R_base ho0) hb); replace HO_5 := ke_ HO_5 ho0 hb; replace HO_6 := ke_ HO_6 ho0 hb; replace HO_7 := ke_ HO_7 ho0 hb; replace HO_8 := ke_ HO_8 ho0 hb; replace HO_9 := ke_ HO_9 ho0 hb; replace HO_10 := ke_ HO_10 ho0 hb; replace HO_82 := kb_ HO_82 hb; replace HO539 := ke_ HO539 ho0 hb; replace HB := Aside0.mk (below_step (bl_ HB).out hb); (try clear hb); (try clear ho0); obtain ⟨Ao161, co161, eo161⟩ := Kd.R_slice HO539.out; subst eo161; obtain ⟨Ao162, co162, eo162⟩ := Kd.R_slice HO542.out; subst eo162) | (go_at_call 16; (with_reducible refine (class_Class_Same.calls k2 _ _ t537 _ _ t540 true _ ?side1 ?side2 ?side3 ?side4 A154.out).mono ?_); (case side1 => exact kc_ HO539); (case side2 => exact kl_ HO539); (case side3 => exact kc_ HO542); (case side4 => exact kl_ HO542); rintro e w' ⟨rfl, ⟨nd, rfl⟩⟩; obtain ⟨Ao163, co163, eo163⟩ := Kd.R_slice HO_10.out; subst eo163) | (go_at_call 22; (with_reducible refine (class_Class_Or.calls k2 _ _ t486 _ _ t501 t544 _ ?side1 ?side2 ?side3 ?side4 A156.out).mono ?_); (case side1 => exact kc_ HO_5); (case side2 => exact kl_ HO_5); (case side3 => exact kc_ HO_10); (case side4 => exact kl_ HO_10); rintro e w164 ⟨v545, rfl, ho0, hb⟩; have HO546 := Aside0.mk (Kd.R_lower (Kd.R_new' (Kd.R_new' (Kd.R_new' (Kd.R_new' (Kd.R_new' (Kd.R_new' (Kd.R_new' (Kd.R_new' (Kd.R_newM (M := fun k_ => (w.heap.size ≤ k_)) ho0 (below_size (bl_ HB).out) (fun k_ h_ => h_)) (kx_ HO_5)) (kx_ HO_6)) (kx_ HO_7)) (kx_ HO_8)) (kx_ HO_9)) (kx_ HO_10)) (kx_ HO539)) (kx_ HO542)) (below_size (bl_ HB).out)); replace HO_0 := Aside0.mk (Kd.V_elder' (krV_ HO_0) (Kd.R_base ho0) hb); replace HO_1 := Aside0.mk (Kd.V_elder' (krV_ HO_1) (Kd.R_base ho0) hb); replace HO_5 := ke_ HO_5 ho0 hb; replace HO_6 := ke_ HO_6 ho0 hb; replace HO_7 := ke_ HO_7 ho0 hb; replace HO_8 := ke_ HO_8 ho0 hb; replace HO_9 := ke_ HO_9 ho0 hb; replace HO_10 := ke_ HO_10 ho0 hb; replace HO_82 := kb_ HO_82 hb; replace HO539 := ke_ HO539 ho0 hb; replace HO542 := ke_ HO542 ho0 hb; replace HB := Aside0.mk (below_step (bl_ HB).out hb); (try clear hb); (try clear ho0)) | ((with_reducible refine gate_dst (N := 163) rfl ?_); (try (refine gate_guard (by rfl) ?_; dsimp only)); refine Kd.R_lit k28 _ 28 ?hg (N := 163) ?hd (xs := ([(⟨0, 1114111⟩ : S28)] : List (S28))) (inner := [.int .i32 0, .int .i32 1114111]) (ok := fun _ => True) (okp := fun _ => True) ?hr ?hp (fun _ hk => hk) trivial (Below.refl _ _) (Nat.le_refl _) (by simp) ?_; (case hd => rfl); (case hg => rfl); (case hr => first | (go_simp; done) | (go_simp; rfl)); (case hp => exact (Reps.c2 (show Kd.M k28 _ _ _ (⟨0, 1114111⟩ : S28) [.int .i32 0, .int .i32 1114111] from (k28_mkM _ _ _ (⟨0, 1114111⟩ : S28) )) (Reps.none _ _))); intro v548 w165 ho166 hb hg_ hnew_; clear hg_ hnew_; (first | rw [← Ny547.out] at ho166 | (simp only [Int.reduceToNat] at ho166; rw [← Ny547.out] at ho166)); have HO549 := Aside0.mk (Kd.R_lower (Kd.R_new' (Kd.R_new' (Kd.R_new' (Kd.R_new' (Kd.R_new' (Kd.R_new' (Kd.R_new' (Kd.R_new' (Kd.R_new' (Kd.R_newM (M := fun k_ => (w.heap.size ≤ k_)) ho166 (below_size (bl_ HB).out) (fun k_ h_ => h_)) (kx_ HO_5)) (kx_ HO_6)) (kx_ HO_7)) (kx_ HO_8)) (kx_ HO_9)) (kx_ HO_10)) (kx_ HO539)) (kx_ HO542)) (kx_ HO546)) (below_size (bl_ HB).out)); replace HO_0 := Aside0.mk (Kd.V_elder' (krV_ HO_0) (Kd.R_base ho166) hb); replace HO_1 := Aside0.mk (Kd.V_elder' (krV_ HO_1) (Kd.R_base ho166) hb); replace HO_5 := ke_ HO_5 ho166 hb; replace HO_6 := ke_ HO_6 ho166 hb; replace HO_7 := ke_ HO_7 ho166 hb; replace HO_8 := ke_ HO_8 ho166 hb; replace HO_9 := ke_ HO_9 ho166 hb; replace HO_10 := ke_ HO_10 ho166 hb; replace HO_82 := kb_ HO_82 hb; replace HO539 := ke_ HO539 ho166 hb; replace HO542 := ke_ HO542 ho166 hb; replace HO546 := ke_ HO546 ho166 hb; replace HB := Aside0.mk (below_step (bl_ HB).out hb); clear hb ho166; obtain ⟨Ao167, co167, eo167⟩ := Kd.R_slice HO549.out; subst eo167) | (go_at_call 11; (with_reducible refine (class_Made.calls k2 _ _ y547 t550 _ ?side1 ?side2 A157.out).mono ?_); (case side1 => exact kc_ HO549); (case side2 => exact kl_ HO549); rintro e w168 ⟨v551, rfl, ho0, hb⟩; have HO552 := Aside0.mk (Kd.R_lower (Kd.R_new' (Kd.R_new' (Kd.R_new' (Kd.R_new' (Kd.R_new' (Kd.R_new' (Kd.R_new' (Kd.R_new' (Kd.R_new' (Kd.R_new' (Kd.R_newM (M := fun k_ => (w.heap.size ≤ k_)) ho0 (below_size (bl_ HB).out) (fun k_ h_ => h_)) (kx_ HO_5)) (kx_ HO_6)) (kx_ HO_7)) (kx_ HO_8)) (kx_ HO_9)) (kx_ HO_10)) (kx_ HO539)) (kx_ HO542)) (kx_ HO546)) (kx_ HO549)) (below_size (bl_ HB).out)); replace HO_0 := Aside0.mk (Kd.V_elder' (krV_ HO_0) (Kd.R_base ho0) hb); replace HO_1 := Aside0.mk (Kd.V_elder' (krV_ HO_1) (Kd.R_base ho0) hb); replace HO_5 := ke_ HO_5 ho0 hb; replace HO_6 := ke_ HO_6 ho0 hb; replace HO_7 := ke_ HO_7 ho0 hb; replace HO_8 := ke_ HO_8 ho0 hb; replace HO_9 := ke_ HO_9 ho0 hb; replace HO_10 := ke_ HO_10 ho0 hb; replace HO_82 := kb_ HO_82 hb; replace HO539 := ke_ HO539 ho0 hb; replace HO542 := ke_ HO542 ho0 hb; replace HO546 := ke_ HO546 ho0 hb; replace HO549 := ke_ HO549 ho0 hb; replace HB := Aside0.mk (below_step (bl_ HB).out hb); (try clear hb); (try clear ho0); obtain ⟨Ao169, co169, eo169⟩ := Kd.R_slice HO546.out; subst eo169; obtain ⟨Ao170, co170, eo170⟩ := Kd.R_slice HO552.out; subst eo170) | (go_at_call 16; (with_reducible refine (class_Class_Same.calls k2 _ _ t544 _ _ t550 t553 _ ?side1 ?side2 ?side3 ?side4 A158.out).mono ?_); (case side1 => exact kc_ HO546); (case side2 => exact kl_ HO546); (case side3 => exact kc_ HO552); (case side4 => exact kl_ HO552); rintro e w' ⟨rfl, ⟨nd, rfl⟩⟩))
            go_meet
            case rel => exact ⟨_, (t553), eq_, H', ⟨by have := HJ12.out; have := HK2.out; first | omega | exact Nat.le_refl _⟩, (bl_ HB)⟩
           ·replace c155 := Bool.eq_false_iff.mpr c155
            subst c155
            have H1 : (florinlaw10_ClassOps.j2 k2 false) = some r := by rw [if_neg (show ¬ (false = true) by decide)] at H; exact H
            clear H
            have H := H1
            clear H1
            have H' := Aside0.mk H
            clear H
            have hn0_ := Aside0.mk (fun w_ => (show Calls Tryz.prog 11 #[.slice none 0 0] w_ _ from class_Made.calls k2 none 0 ([] : List (S28)) t540 w_ (Kd.C_nil _ _) (Nat.le_refl _) A153.out))
            go_wp2_with (first | ((with_reducible refine gate_callee (f := 16) rfl ?_); refine gl_ (some 148) Tryz.func16 #[.slice Ao20 t486.length co20, .slice Ao21 t489.length co21] ?_; (with_reducible refine (class_Class_Same.calls k2 _ _ t486 _ _ t489 t536 _ ?side1 ?side2 ?side3 ?side4 A150.out).mono ?_); (case side1 => exact kc_ HO_5); (case side2 => exact kl_ HO_5); (case side3 => exact kc_ HO_6); (case side4 => exact kl_ HO_6); rintro e w' ⟨rfl, ⟨nd, rfl⟩⟩; refine ⟨_, rfl, ?_⟩) | (go_at_call 24; (with_reducible refine (class_Class_Minus.calls k2 _ _ t486 _ _ t486 t537 _ ?side1 ?side2 ?side3 ?side4 A152.out).mono ?_); (case side1 => exact kc_ HO_5); (case side2 => exact kl_ HO_5); (case side3 => exact kc_ HO_5); (case side4 => exact kl_ HO_5); rintro e w171 ⟨v538, rfl, ho0, hb⟩; have HO539 := Aside0.mk (Kd.R_lower (Kd.R_new' (Kd.R_new' (Kd.R_new' (Kd.R_new' (Kd.R_new' (Kd.R_new' (Kd.R_newM (M := fun k_ => (w.heap.size ≤ k_)) ho0 (below_size (bl_ HB).out) (fun k_ h_ => h_)) (kx_ HO_5)) (kx_ HO_6)) (kx_ HO_7)) (kx_ HO_8)) (kx_ HO_9)) (kx_ HO_10)) (below_size (bl_ HB).out)); replace HO_0 := Aside0.mk (Kd.V_elder' (krV_ HO_0) (Kd.R_base ho0) hb); replace HO_1 := Aside0.mk (Kd.V_elder' (krV_ HO_1) (Kd.R_base ho0) hb); replace HO_5 := ke_ HO_5 ho0 hb; replace HO_6 := ke_ HO_6 ho0 hb; replace HO_7 := ke_ HO_7 ho0 hb; replace HO_8 := ke_ HO_8 ho0 hb; replace HO_9 := ke_ HO_9 ho0 hb; replace HO_10 := ke_ HO_10 ho0 hb; replace HO_82 := kb_ HO_82 hb; replace HB := Aside0.mk (below_step (bl_ HB).out hb); (try clear hb); (try clear ho0)) | (go_at_call 11; (with_reducible refine (hn0_.out _).mono ?_); rintro e w172 ⟨v541, rfl, ho0, hb⟩; have HO542 := Aside0.mk (Kd.R_lower (Kd.R_new' (Kd.R_new' (Kd.R_new' (Kd.R_new' (Kd.R_new' (Kd.R_new' (Kd.R_new' (Kd.R_newM (M := fun k_ => (w.heap.size ≤ k_)) ho0 (below_size (bl_ HB).out) (fun k_ h_ => h_)) (kx_ HO_5)) (kx_ HO_6)) (kx_ HO_7)) (kx_ HO_8)) (kx_ HO_9)) (kx_ HO_10)) (kx_ HO539)) (below_size (bl_ HB).out)); replace HO_0 := Aside0.mk (Kd.V_elder' (krV_ HO_0) (Kd.R_base ho0) hb); replace HO_1 := Aside0.mk (Kd.V_elder' (krV_ HO_1) (Kd.R_base ho0) hb); replace HO_5 := ke_ HO_5 ho0 hb; replace HO_6 := ke_ HO_6 ho0 hb; replace HO_7 := ke_ HO_7 ho0 hb; replace HO_8 := ke_ HO_8 ho0 hb; replace HO_9 := ke_ HO_9 ho0 hb; replace HO_10 := ke_ HO_10 ho0 hb; replace HO_82 := kb_ HO_82 hb; replace HO539 := ke_ HO539 ho0 hb; replace HB := Aside0.mk (below_step (bl_ HB).out hb); (try clear hb); (try clear ho0); obtain ⟨Ao173, co173, eo173⟩ := Kd.R_slice HO539.out; subst eo173; obtain ⟨Ao174, co174, eo174⟩ := Kd.R_slice HO542.out; subst eo174) | (go_at_call 16; (with_reducible refine (class_Class_Same.calls k2 _ _ t537 _ _ t540 false _ ?side1 ?side2 ?side3 ?side4 A154.out).mono ?_); (case side1 => exact kc_ HO539); (case side2 => exact kl_ HO539); (case side3 => exact kc_ HO542); (case side4 => exact kl_ HO542); rintro e w' ⟨rfl, ⟨nd, rfl⟩⟩))
            go_meet
            case rel => exact ⟨_, (false), eq_, H', ⟨by have := HJ12.out; have := HK2.out; first | omega | exact Nat.le_refl _⟩, (bl_ HB)⟩
          ·rw [if_neg c151] at H
           have c151b0 : (t536 == x11_2) = false := by simpa using c151
           (try (have c151b1 : decide (t536 = x11_2) = false := by simpa using c151))
           (try (have c151b2 : (t536 == x11_2) = false := by simpa using c151))
           (try (have c151b3 : ¬ (t536 = x11_2) := by simpa using c151))
           clear c151
           (first | rw [c151b0] | (simp only [i64_w, i32_w]; rw [c151b0]) | skip)
           have H' := Aside0.mk H
           clear H
           go_wp2_with (first | ((with_reducible refine gate_callee (f := 16) rfl ?_); refine gl_ (some 148) Tryz.func16 #[.slice Ao20 t486.length co20, .slice Ao21 t489.length co21] ?_; (with_reducible refine (class_Class_Same.calls k2 _ _ t486 _ _ t489 t536 _ ?side1 ?side2 ?side3 ?side4 A150.out).mono ?_); (case side1 => exact kc_ HO_5); (case side2 => exact kl_ HO_5); (case side3 => exact kc_ HO_6); (case side4 => exact kl_ HO_6); rintro e w' ⟨rfl, ⟨nd, rfl⟩⟩; refine ⟨_, rfl, ?_⟩))
           go_meet
           case rel => exact ⟨_, (false), eq_, H', ⟨by have := HJ12.out; have := HK2.out; first | omega | exact Nat.le_refl _⟩, (bl_ HB)⟩
         case rest =>
          clear HC149
          try clear c1
          try clear c2
          try clear p2
          try clear c3
          try clear c4
          try clear c5
          try clear p5
          try clear q5
          try clear hx5
          try clear c6
          try clear p6
          try clear c7
          try clear c9
          try clear c10
          try clear c11
          try clear c12
          try clear c13
          try clear c14
          try clear c15
          try clear c16
          try clear c18
          try clear c22
          try clear c23
          try clear c24
          try clear c27
          try clear c29
          try clear c31
          try clear c33
          try clear c36
          try clear c39
          try clear p52
          try clear q52
          try clear hx52
          try clear c56
          try clear c63
          try clear c63b0
          try clear c64
          try clear c64b0
          try clear p64
          try clear c65
          try clear c65b0
          try clear c69
          try clear c70
          try clear c70b0
          try clear c70b1
          try clear c70b2
          try clear c72
          try clear c72b0
          try clear c72b1
          try clear c72b2
          try clear c74
          try clear c74b0
          try clear c74b1
          try clear c74b2
          try clear c76
          try clear c76b0
          try clear c76b1
          try clear c76b2
          try clear c77
          try clear c98
          try clear c98b0
          try clear c98b1
          try clear c98b2
          try clear c100
          try clear c100b0
          try clear c100b1
          try clear c100b2
          try clear c102
          try clear c102b0
          try clear c102b1
          try clear c102b2
          try clear c104
          try clear c104b0
          try clear c105
          try clear c105b0
          try clear c105b1
          try clear c105b2
          try clear c106
          try clear c127
          try clear c127b0
          try clear c127b1
          try clear c127b2
          try clear c128
          try clear c151
          try clear c151b0
          try clear c151b1
          try clear c151b2
          try clear c155
          try clear hx526_0
          try clear p2
          try clear p526
          try clear p6
          try clear q526
          obtain ⟨kq, x4_148, rfl, HA, HJ148, HB⟩ := hcut
          cases kq with
          | zero => exact absurd HA.out (by simp [florinlaw10_ClassOps.j2])
          | succ kj148 =>
           have H := HA.out
           clear HA
           simp only [florinlaw10_ClassOps.j2] at H
           obtain rfl := Option.some.inj H
           go_wp2
           go_ret
           exact ⟨ew_, (bl_ HB).out⟩
  ·replace c6 := Bool.eq_false_iff.mpr c6
   subst c6
   have H1 : (some true) = some r := by rw [if_neg (show ¬ (false = true) by decide)] at H; exact H
   clear H
   have H := H1
   clear H1
   obtain rfl := Option.some.inj H
   go_enter Tryz.func7, Tryz.ntmps7
   go_wp2_with (first | ((with_reducible refine gate_callee (f := 9) rfl ?_); refine gl_ (some 16) Tryz.func9 #[] ?_; (with_reducible refine (florinlaw10_head.calls k  true _ A3.out).mono ?_); rintro e w175 ⟨rfl, hb⟩; refine ⟨_, rfl, ?_⟩; replace HO0 := Aside0.mk (Kd.V_below (krV_ HO0) hb); replace HO1 := Aside0.mk (Kd.V_below (krV_ HO1) hb); replace HB := Aside0.mk (below_step (bl_ HB).out hb); (try clear hb); (try clear hi)) | ((with_reducible refine gate_dst (N := 20) rfl ?_); (try (refine gate_guard (by rfl) ?_; dsimp only)); refine Kd.N_lit (Kd.slice 28 k28) _ 22 ?hg (N' := 20) ?hd (xs := ([l0, l1] : List (List (S28)))) (inner := [.slice A0 l0.length c0, .slice A1 l1.length c1]) (ok := (fun k_ => ((P0_ k_ ∨ P1_ k_) ∨ w.heap.size ≤ k_))) (okp := (fun k_ => ((P0_ k_ ∨ P1_ k_) ∨ w.heap.size ≤ k_))) ?hr ?hp (fun _ hk => hk) ((show ∀ k_, w175.heap.size ≤ k_ → (fun k_ => ((P0_ k_ ∨ P1_ k_) ∨ w.heap.size ≤ k_)) k_ from fun k_ hk => (.inr (Nat.le_trans (below_size (bl_ HB).out) hk))) _ (Nat.le_refl _)) (Below.refl _ _) (Nat.le_refl _) (by simp) ?_; (case hd => rfl); (case hg => rfl); (case hr => first | (go_simp; done) | (go_simp; rfl)); (case hp => exact (Reps.one (show Kd.FK (Kd.slice 28 k28) _ _ l0 [.slice A0 l0.length c0] from (Kd.FK_slice_mk (Kd.V_reads' (Kd.V_mono (ok' := (fun k_ => ((P0_ k_ ∨ P1_ k_) ∨ w.heap.size ≤ k_))) (HO0.out) (fun k_ hk => hk))).2.1 (Kd.V_F (Kd.V_mono (ok' := (fun k_ => ((P0_ k_ ∨ P1_ k_) ∨ w.heap.size ≤ k_))) (HO0.out) (fun k_ hk => hk))))) (Reps.one (show Kd.FK (Kd.slice 28 k28) _ _ l1 [.slice A1 l1.length c1] from (Kd.FK_slice_mk (Kd.V_reads' (Kd.V_mono (ok' := (fun k_ => ((P0_ k_ ∨ P1_ k_) ∨ w.heap.size ≤ k_))) (HO1.out) (fun k_ hk => hk))).2.1 (Kd.V_F (Kd.V_mono (ok' := (fun k_ => ((P0_ k_ ∨ P1_ k_) ∨ w.heap.size ≤ k_))) (HO1.out) (fun k_ hk => hk))))) (Reps.none _ _)))); intro v483 w176 ho177 hb hg_ hnew_; clear hg_ hnew_; (first | rw [← Ny482.out] at ho177 | (simp only [Int.reduceToNat] at ho177; rw [← Ny482.out] at ho177)); have HO484 := Aside0.mk (Kd.N_lower ho177 (below_size (bl_ HB).out)); replace HO0 := Aside0.mk (Kd.V_elder' (krV_ HO0) (Kd.N_base ho177) hb); replace HO1 := Aside0.mk (Kd.V_elder' (krV_ HO1) (Kd.N_base ho177) hb); replace HB := Aside0.mk (below_step (bl_ HB).out hb); clear hb ho177; obtain ⟨Ao178, co178, eo178⟩ := Kd.N_slice HO484.out; subst eo178) | ((with_reducible refine gate_callee (f := 10) rfl ?_); refine gl_ (some 21) Tryz.func10 #[.slice Ao178 y482.length co178] ?_; (with_reducible refine (florinlaw10_few.calls k _ _ y482 false _ ?side1 ?side2 A5.out).mono ?_); (case side1 => repeat (first | exact (Kd.N_reads' HO484.out).2.2 | (with_reducible refine Kd.C_alloc ?_ _) | (with_reducible refine Kd.C_drewN ?_ _) | (with_reducible refine Kd.C_drew ?_))); (case side2 => exact (Kd.N_reads' HO484.out).2.1); rintro e w' ⟨rfl, ⟨nd, rfl⟩⟩; refine ⟨_, rfl, ?_⟩))
   go_ret
   exact ⟨ew_, (bl_ HB).out⟩
 ·replace c4 := Bool.eq_false_iff.mpr c4
  subst c4
  have H1 : (none) = some r := by rw [if_neg (show ¬ (false = true) by decide)] at H; exact H
  clear H
  have H := H1
  clear H1
  exact absurd H (by simp)

end Go.Proofs.YtnpohgoacbpcjaaGreatDoor.P
