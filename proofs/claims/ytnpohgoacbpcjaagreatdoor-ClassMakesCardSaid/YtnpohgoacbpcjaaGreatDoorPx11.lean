-- written by a program of this session (wip/p2)
import Derived.Test.YtnpohgoacbpcjaaGreatDoorPx0
import Derived.Test.YtnpohgoacbpcjaaGreatDoorPx1
import Derived.Test.YtnpohgoacbpcjaaGreatDoorPx2
import Derived.Test.YtnpohgoacbpcjaaGreatDoorPx3
import Derived.Test.YtnpohgoacbpcjaaGreatDoorPx5
import Derived.Test.YtnpohgoacbpcjaaGreatDoorPx8
import Derived.Test.YtnpohgoacbpcjaaGreatDoorPx9
import Derived.Test.YtnpohgoacbpcjaaGreatDoorPx10
namespace Go.Proofs.YtnpohgoacbpcjaaGreatDoor.P
open Go.RowKit Go.Proofs.YtnpohgoacbpcjaaGreatDoorW.PrintWords Go.Proofs.YtnpohgoacbpcjaaGreatDoorW.PrintLast Go.Proofs.YtnpohgoacbpcjaaGreatDoorW.PrintMore
attribute [local go_sem] max2_int min2_int max_two min_two max_three min_three max_four min_four   -- for this text's walks alone
set_option linter.unusedVariables false
set_option linter.unusedSimpArgs false

attribute [local go_sem high] eqA28
/-! ### florinlaw10_ClassMakes: function 3 -/
mutual
def florinlaw10_ClassMakes.l0 : Nat → List (S28) → Int → List (S28) → List (S28) → Int → Int → Option (Bool)
  | 0, _, _, _, _, _, _ => none
  | k + 1, x0, x1, x5, x6, x25, x26 => if x26 < x25 then (if 0 ≤ x26 then (if x26 < (x5.length : Int) then (if x26 < (x0.length : Int) then (if (!(((rd_T28 x5 x26).f0) == ((rd_T28 x0 x26).f0)) || (!(((rd_T28 x5 x26).f1) == ((rd_T28 x0 x26).f1)))) = true then (none) else (florinlaw10_ClassMakes.l0 k x0 x1 x5 x6 x25 (wrap64 (x26 + 1)))) else (none)) else (none)) else (none)) else ((florinlaw10_bounds.f k (([x0] : List (List (S28))))).bind fun t301 => (florinlaw10_ClassMakes.l1 k x0 x1 x6 t301 (t301.length : Int) 0))
def florinlaw10_ClassMakes.l1 : Nat → List (S28) → Int → List (S28) → List Int → Int → Int → Option (Bool)
  | 0, _, _, _, _, _, _ => none
  | k + 1, x0, x1, x6, x41, x42, x43 => if x43 < x42 then (if 0 ≤ x43 then (if x43 < (x41.length : Int) then ((class_Class_Has.f x6 (rd x41 x43)).bind fun t305 => ((florinlaw10_in.f k x0 (rd x41 x43)).bind fun t306 => (if (t305 != t306) = true then (none) else (florinlaw10_ClassMakes.l1 k x0 x1 x6 x41 x42 (wrap64 (x43 + 1)))))) else (none)) else (none)) else (florinlaw10_ClassMakes.l2 k x0 x1 x6 (([] : List (S28))) (mx (x0.length : Int) 1) (x0.length : Int) 0)
def florinlaw10_ClassMakes.l2 : Nat → List (S28) → Int → List (S28) → List (S28) → Int → Int → Int → Option (Bool)
  | 0, _, _, _, _, _, _, _ => none
  | k + 1, x0, x1, x6, x10, x11, x60, x61 => if x61 < x60 then (if x11 = 0 then (none) else (if 0 ≤ (Int.tmod (wrap64 (x61 + (Go.bits .and .i64 x1 65535))) x11) then (if (Int.tmod (wrap64 (x61 + (Go.bits .and .i64 x1 65535))) x11) < (x0.length : Int) then (if x10.length < 17592186044416 then (florinlaw10_ClassMakes.l2 k x0 x1 x6 (x10 ++ [(⟨(rd_T28 x0 (Int.tmod (wrap64 (x61 + (Go.bits .and .i64 x1 65535))) x11)).f0, (rd_T28 x0 (Int.tmod (wrap64 (x61 + (Go.bits .and .i64 x1 65535))) x11)).f1⟩ : S28)]) x11 x60 (wrap64 (x61 + 1))) else (none)) else (none)) else (none))) else ((florinlaw10_settled.f k x6).bind fun t314 => (if t314 = true then ((class_Made.f k x10).bind fun t315 => ((class_Class_Same.f k t315 x6).bind fun t318 => (if t318 = true then ((class_Made.f k x6).bind fun t319 => ((class_Class_Same.f k t319 x6).bind fun t322 => (if t322 = true then ((class_Made.f k ([] : List (S28))).bind fun t323 => (some ((t323.length : Int) == 0))) else (none)))) else (none)))) else (none)))
end
def florinlaw10_ClassMakes.f (k : Nat) (l0 : List (S28)) (a1 : Int) : Option (Bool) := (florinlaw10_head.f k).bind fun t282 => (if t282 = true then ((florinlaw10_few.f k (([l0] : List (List (S28))))).bind fun t286 => (if t286 = true then ((some (([] : List (S28)) : List (S28))).bind fun y287 => (if y287.length + l0.length < 17592186044416 then ((some (y287 ++ l0 : List (S28))).bind fun y290 => ((class_Made.f k y290).bind fun t293 => (florinlaw10_ClassMakes.l0 k l0 a1 y290 t293 (l0.length : Int) 0))) else (none))) else (some true))) else (none))
theorem florinlaw10_ClassMakes.mono_l : ∀ k, (∀ y0 y1 y2 y3 y4 y5, LeO (florinlaw10_ClassMakes.l0 k y0 y1 y2 y3 y4 y5) (florinlaw10_ClassMakes.l0 (k + 1) y0 y1 y2 y3 y4 y5)) ∧ (∀ y0 y1 y2 y3 y4 y5, LeO (florinlaw10_ClassMakes.l1 k y0 y1 y2 y3 y4 y5) (florinlaw10_ClassMakes.l1 (k + 1) y0 y1 y2 y3 y4 y5)) ∧ (∀ y0 y1 y2 y3 y4 y5 y6, LeO (florinlaw10_ClassMakes.l2 k y0 y1 y2 y3 y4 y5 y6) (florinlaw10_ClassMakes.l2 (k + 1) y0 y1 y2 y3 y4 y5 y6))
  | 0 => ⟨fun _ _ _ _ _ _ r h => by simp [florinlaw10_ClassMakes.l0] at h, fun _ _ _ _ _ _ r h => by simp [florinlaw10_ClassMakes.l1] at h, fun _ _ _ _ _ _ _ r h => by simp [florinlaw10_ClassMakes.l2] at h⟩
  | k + 1 => by
    obtain ⟨ih0, ih1, ih2⟩ := florinlaw10_ClassMakes.mono_l k
    refine ⟨?_, ?_, ?_⟩
    · intro y0 y1 y2 y3 y4 y5
      unfold florinlaw10_ClassMakes.l0
      repeat' first
      | (with_reducible exact ih0 _ _ _ _ _ _)
      | (with_reducible exact ih1 _ _ _ _ _ _)
      | (with_reducible exact ih2 _ _ _ _ _ _ _)
      | (with_reducible exact class_Class_Same.mono _ _ _)
      | (with_reducible exact class_Made.mono _ _)
      | (with_reducible exact florinlaw10_bounds.mono _ _)
      | (with_reducible exact florinlaw10_few.mono _ _)
      | (with_reducible exact florinlaw10_head.mono _)
      | (with_reducible exact florinlaw10_in.mono _ _ _)
      | (with_reducible exact florinlaw10_settled.mono _ _)
      | (with_reducible exact LeO.refl _)
      | (with_reducible exact LeO.none _)
      | (with_reducible refine LeO.ite ?_ ?_)
      | (with_reducible refine LeO.bind ?_ (fun _ => ?_))
      | exact ih0 _ _ _ _ _ _
      | exact ih1 _ _ _ _ _ _
      | exact ih2 _ _ _ _ _ _ _
      | exact class_Class_Same.mono _ _ _
      | exact class_Made.mono _ _
      | exact florinlaw10_bounds.mono _ _
      | exact florinlaw10_few.mono _ _
      | exact florinlaw10_head.mono _
      | exact florinlaw10_in.mono _ _ _
      | exact florinlaw10_settled.mono _ _
      | exact LeO.none _
      | refine LeO.ite ?_ ?_
      | refine LeO.bind ?_ (fun _ => ?_)
    · intro y0 y1 y2 y3 y4 y5
      unfold florinlaw10_ClassMakes.l1
      repeat' first
      | (with_reducible exact ih0 _ _ _ _ _ _)
      | (with_reducible exact ih1 _ _ _ _ _ _)
      | (with_reducible exact ih2 _ _ _ _ _ _ _)
      | (with_reducible exact class_Class_Same.mono _ _ _)
      | (with_reducible exact class_Made.mono _ _)
      | (with_reducible exact florinlaw10_bounds.mono _ _)
      | (with_reducible exact florinlaw10_few.mono _ _)
      | (with_reducible exact florinlaw10_head.mono _)
      | (with_reducible exact florinlaw10_in.mono _ _ _)
      | (with_reducible exact florinlaw10_settled.mono _ _)
      | (with_reducible exact LeO.refl _)
      | (with_reducible exact LeO.none _)
      | (with_reducible refine LeO.ite ?_ ?_)
      | (with_reducible refine LeO.bind ?_ (fun _ => ?_))
      | exact ih0 _ _ _ _ _ _
      | exact ih1 _ _ _ _ _ _
      | exact ih2 _ _ _ _ _ _ _
      | exact class_Class_Same.mono _ _ _
      | exact class_Made.mono _ _
      | exact florinlaw10_bounds.mono _ _
      | exact florinlaw10_few.mono _ _
      | exact florinlaw10_head.mono _
      | exact florinlaw10_in.mono _ _ _
      | exact florinlaw10_settled.mono _ _
      | exact LeO.none _
      | refine LeO.ite ?_ ?_
      | refine LeO.bind ?_ (fun _ => ?_)
    · intro y0 y1 y2 y3 y4 y5 y6
      unfold florinlaw10_ClassMakes.l2
      repeat' first
      | (with_reducible exact ih0 _ _ _ _ _ _)
      | (with_reducible exact ih1 _ _ _ _ _ _)
      | (with_reducible exact ih2 _ _ _ _ _ _ _)
      | (with_reducible exact class_Class_Same.mono _ _ _)
      | (with_reducible exact class_Made.mono _ _)
      | (with_reducible exact florinlaw10_bounds.mono _ _)
      | (with_reducible exact florinlaw10_few.mono _ _)
      | (with_reducible exact florinlaw10_head.mono _)
      | (with_reducible exact florinlaw10_in.mono _ _ _)
      | (with_reducible exact florinlaw10_settled.mono _ _)
      | (with_reducible exact LeO.refl _)
      | (with_reducible exact LeO.none _)
      | (with_reducible refine LeO.ite ?_ ?_)
      | (with_reducible refine LeO.bind ?_ (fun _ => ?_))
      | exact ih0 _ _ _ _ _ _
      | exact ih1 _ _ _ _ _ _
      | exact ih2 _ _ _ _ _ _ _
      | exact class_Class_Same.mono _ _ _
      | exact class_Made.mono _ _
      | exact florinlaw10_bounds.mono _ _
      | exact florinlaw10_few.mono _ _
      | exact florinlaw10_head.mono _
      | exact florinlaw10_in.mono _ _ _
      | exact florinlaw10_settled.mono _ _
      | exact LeO.none _
      | refine LeO.ite ?_ ?_
      | refine LeO.bind ?_ (fun _ => ?_)
theorem florinlaw10_ClassMakes.mono : ∀ a0 a1 k, LeO (florinlaw10_ClassMakes.f k a0 a1) (florinlaw10_ClassMakes.f (k + 1) a0 a1) := by
  intro a0 a1 k
  obtain ⟨ih0, ih1, ih2⟩ := florinlaw10_ClassMakes.mono_l k
  unfold florinlaw10_ClassMakes.f
  repeat' first
      | (with_reducible exact ih0 _ _ _ _ _ _)
      | (with_reducible exact ih1 _ _ _ _ _ _)
      | (with_reducible exact ih2 _ _ _ _ _ _ _)
      | (with_reducible exact class_Class_Same.mono _ _ _)
      | (with_reducible exact class_Made.mono _ _)
      | (with_reducible exact florinlaw10_bounds.mono _ _)
      | (with_reducible exact florinlaw10_few.mono _ _)
      | (with_reducible exact florinlaw10_head.mono _)
      | (with_reducible exact florinlaw10_in.mono _ _ _)
      | (with_reducible exact florinlaw10_settled.mono _ _)
      | (with_reducible exact LeO.refl _)
      | (with_reducible exact LeO.none _)
      | (with_reducible refine LeO.ite ?_ ?_)
      | (with_reducible refine LeO.bind ?_ (fun _ => ?_))
      | exact ih0 _ _ _ _ _ _
      | exact ih1 _ _ _ _ _ _
      | exact ih2 _ _ _ _ _ _ _
      | exact class_Class_Same.mono _ _ _
      | exact class_Made.mono _ _
      | exact florinlaw10_bounds.mono _ _
      | exact florinlaw10_few.mono _ _
      | exact florinlaw10_head.mono _
      | exact florinlaw10_in.mono _ _ _
      | exact florinlaw10_settled.mono _ _
      | exact LeO.none _
      | refine LeO.ite ?_ ?_
      | refine LeO.bind ?_ (fun _ => ?_)
set_option maxHeartbeats 64000000 in
set_option maxRecDepth 100000 in
theorem florinlaw10_ClassMakes.calls (k : Nat) (P0_ : Nat → Prop) (A0 : Option Addr) (c0 : Nat) (l0 : List (S28)) (a1 : Int) (r : Bool) (w : World) (hs0 : Kd.V k28 28 w w.heap.size (fun k_ => P0_ k_) (.slice A0 l0.length c0) l0) (h : florinlaw10_ClassMakes.f k l0 a1 = some r) (ht : GTabs w := by first | assumption | exact gtb_ (by assumption) (bl_ (by assumption)).out) :
    Calls Tryz.prog 3 #[.slice A0 l0.length c0, .int .i64 a1] w fun e w' => e = .returned (.bool r) ∧ Below w.heap.size w w' := by
  have hu28 := Tryz.underlying28
  have HO0 := Aside0.mk (show Kd.V k28 28 w w.heap.size (fun k_ => (P0_ k_ ∨ w.heap.size ≤ k_)) (.slice A0 l0.length c0) l0 from Kd.V_mono hs0 (fun k_ hk => .inl hk))
  have HB := Aside0.mk (Below.refl w.heap.size w)
  have H : ((florinlaw10_head.f k).bind fun t282 => (if t282 = true then ((florinlaw10_few.f k (([l0] : List (List (S28))))).bind fun t286 => (if t286 = true then ((some (([] : List (S28)) : List (S28))).bind fun y287 => (if y287.length + l0.length < 17592186044416 then ((some (y287 ++ l0 : List (S28))).bind fun y290 => ((class_Made.f k y290).bind fun t293 => (florinlaw10_ClassMakes.l0 k l0 a1 y290 t293 (l0.length : Int) 0))) else (none))) else (some true))) else (none))) = some r := h
  clear h
  replace H := Option.bind_eq_some_iff.mp H
  obtain ⟨t282, A30, H⟩ := H
  replace H : (if t282 = true then ((florinlaw10_few.f k (([l0] : List (List (S28))))).bind fun t286 => (if t286 = true then ((some (([] : List (S28)) : List (S28))).bind fun y287 => (if y287.length + l0.length < 17592186044416 then ((some (y287 ++ l0 : List (S28))).bind fun y290 => ((class_Made.f k y290).bind fun t293 => (florinlaw10_ClassMakes.l0 k l0 a1 y290 t293 (l0.length : Int) 0))) else (none))) else (some true))) else (none)) = some r := H
  have A3 := Aside0.mk A30
  clear A30
  by_cases c4 : t282 = true
  · subst c4
    have H1 : ((florinlaw10_few.f k (([l0] : List (List (S28))))).bind fun t286 => (if t286 = true then ((some (([] : List (S28)) : List (S28))).bind fun y287 => (if y287.length + l0.length < 17592186044416 then ((some (y287 ++ l0 : List (S28))).bind fun y290 => ((class_Made.f k y290).bind fun t293 => (florinlaw10_ClassMakes.l0 k l0 a1 y290 t293 (l0.length : Int) 0))) else (none))) else (some true))) = some r := by rw [if_pos rfl] at H; exact H
    clear H
    have H := H1
    clear H1
    obtain ⟨y283, hy283⟩ : ∃ y_ : List (List (S28)), y_ = (([l0] : List (List (S28)))) := ⟨_, rfl⟩
    replace H : ((florinlaw10_few.f k y283).bind fun t286 => (if t286 = true then ((some (([] : List (S28)) : List (S28))).bind fun y287 => (if y287.length + l0.length < 17592186044416 then ((some (y287 ++ l0 : List (S28))).bind fun y290 => ((class_Made.f k y290).bind fun t293 => (florinlaw10_ClassMakes.l0 k l0 a1 y290 t293 (l0.length : Int) 0))) else (none))) else (some true))) = some r := by first | (rw [hy283]; with_reducible exact H) | (have H2_ := (Option.bind_some _ _).symm.trans H; rw [hy283]; with_reducible exact H2_) | (have H2_ := (Option.bind_some _ _).symm.trans H; with_reducible exact H2_) | with_reducible exact H | (rw [hy283]; exact H) | exact H
    have Ny283 := Aside0.mk hy283
    clear hy283
    replace H := Option.bind_eq_some_iff.mp H
    obtain ⟨t286, A50, H⟩ := H
    replace H : (if t286 = true then ((some (([] : List (S28)) : List (S28))).bind fun y287 => (if y287.length + l0.length < 17592186044416 then ((some (y287 ++ l0 : List (S28))).bind fun y290 => ((class_Made.f k y290).bind fun t293 => (florinlaw10_ClassMakes.l0 k l0 a1 y290 t293 (l0.length : Int) 0))) else (none))) else (some true)) = some r := H
    have A5 := Aside0.mk A50
    clear A50
    by_cases c6 : t286 = true
    · subst c6
      have H1 : ((some (([] : List (S28)) : List (S28))).bind fun y287 => (if y287.length + l0.length < 17592186044416 then ((some (y287 ++ l0 : List (S28))).bind fun y290 => ((class_Made.f k y290).bind fun t293 => (florinlaw10_ClassMakes.l0 k l0 a1 y290 t293 (l0.length : Int) 0))) else (none))) = some r := by rw [if_pos rfl] at H; exact H
      clear H
      have H := H1
      clear H1
      obtain ⟨y287, hy287⟩ : ∃ y_ : List (S28), y_ = (([] : List (S28))) := ⟨_, rfl⟩
      replace H : (if y287.length + l0.length < 17592186044416 then ((some (y287 ++ l0 : List (S28))).bind fun y290 => ((class_Made.f k y290).bind fun t293 => (florinlaw10_ClassMakes.l0 k l0 a1 y290 t293 (l0.length : Int) 0))) else (none)) = some r := by first | (rw [hy287]; with_reducible exact H) | (have H2_ := (Option.bind_some _ _).symm.trans H; rw [hy287]; with_reducible exact H2_) | (have H2_ := (Option.bind_some _ _).symm.trans H; with_reducible exact H2_) | with_reducible exact H | (rw [hy287]; exact H) | exact H
      have Ny287 := Aside0.mk hy287
      clear hy287
      by_cases c7 : y287.length + l0.length < 17592186044416
      · rw [if_pos c7] at H
        have LMc7 := Aside0.mk c7
        clear c7
        obtain ⟨y290, hy290⟩ : ∃ y_ : List (S28), y_ = (y287 ++ l0) := ⟨_, rfl⟩
        replace H : ((class_Made.f k y290).bind fun t293 => (florinlaw10_ClassMakes.l0 k l0 a1 y290 t293 (l0.length : Int) 0)) = some r := by first | (rw [hy290]; with_reducible exact H) | (have H2_ := (Option.bind_some _ _).symm.trans H; rw [hy290]; with_reducible exact H2_) | (have H2_ := (Option.bind_some _ _).symm.trans H; with_reducible exact H2_) | with_reducible exact H | (rw [hy290]; exact H) | exact H
        have Ny290 := Aside0.mk hy290
        clear hy290
        replace H := Option.bind_eq_some_iff.mp H
        obtain ⟨t293, A80, H⟩ := H
        replace H : (florinlaw10_ClassMakes.l0 k l0 a1 y290 t293 (l0.length : Int) 0) = some r := H
        have A8 := Aside0.mk A80
        clear A80
        have H' := Aside0.mk H
        clear H
        go_enter Tryz.func3, Tryz.ntmps3
        go_wp2_with (first | (go_at_call 9; (with_reducible refine (florinlaw10_head.calls k  true _ A3.out).mono ?_); rintro e w9 ⟨rfl, hb⟩; replace HO0 := Aside0.mk (Kd.V_below (krV_ HO0) hb); replace HB := Aside0.mk (below_step (bl_ HB).out hb); (try clear hb); (try clear hi)) | ((with_reducible refine gate_dst (N := 16) rfl ?_); (try (refine gate_guard (by rfl) ?_; dsimp only)); refine Kd.N_lit (Kd.slice 28 k28) _ 22 ?hg (N' := 16) ?hd (xs := ([l0] : List (List (S28)))) (inner := [.slice A0 l0.length c0]) (ok := (fun k_ => (P0_ k_ ∨ w.heap.size ≤ k_))) (okp := (fun k_ => (P0_ k_ ∨ w.heap.size ≤ k_))) ?hr ?hp (fun _ hk => hk) ((show ∀ k_, w9.heap.size ≤ k_ → (fun k_ => (P0_ k_ ∨ w.heap.size ≤ k_)) k_ from fun k_ hk => (.inr (Nat.le_trans (below_size (bl_ HB).out) hk))) _ (Nat.le_refl _)) (Below.refl _ _) (Nat.le_refl _) (by simp) ?_; (case hd => rfl); (case hg => rfl); (case hr => first | (go_simp; done) | (go_simp; rfl)); (case hp => exact (Reps.one (show Kd.FK (Kd.slice 28 k28) _ _ l0 [.slice A0 l0.length c0] from (Kd.FK_slice_mk (Kd.V_reads' (Kd.V_mono (ok' := (fun k_ => (P0_ k_ ∨ w.heap.size ≤ k_))) (HO0.out) (fun k_ hk => hk))).2.1 (Kd.V_F (Kd.V_mono (ok' := (fun k_ => (P0_ k_ ∨ w.heap.size ≤ k_))) (HO0.out) (fun k_ hk => hk))))) (Reps.none _ _))); intro v284 w10 ho11 hb hg_ hnew_; clear hg_ hnew_; (first | rw [← Ny283.out] at ho11 | (simp only [Int.reduceToNat] at ho11; rw [← Ny283.out] at ho11)); have HO285 := Aside0.mk (Kd.N_lower ho11 (below_size (bl_ HB).out)); replace HO0 := Aside0.mk (Kd.V_elder' (krV_ HO0) (Kd.N_base ho11) hb); replace HB := Aside0.mk (below_step (bl_ HB).out hb); clear hb ho11; obtain ⟨Ao12, co12, eo12⟩ := Kd.N_slice HO285.out; subst eo12) | (go_at_call 10; (with_reducible refine (florinlaw10_few.calls k _ _ y283 true _ ?side1 ?side2 A5.out).mono ?_); (case side1 => repeat (first | exact (Kd.N_reads' HO285.out).2.2 | (with_reducible refine Kd.C_alloc ?_ _) | (with_reducible refine Kd.C_drewN ?_ _) | (with_reducible refine Kd.C_drew ?_))); (case side2 => exact (Kd.N_reads' HO285.out).2.1); rintro e w' ⟨rfl, ⟨nd, rfl⟩⟩; (try first | exact ⟨rfl, _, World.drewN_drewN _ _ _⟩ | exact ⟨rfl, _, Eq.trans (World.drewN_drewN _ _ _) (congrArg (World.drewN _) (Nat.add_assoc _ _ _))⟩)) | ((with_reducible refine gate_dst (N := 19) rfl ?_); (try (refine gate_guard (by rfl) ?_; dsimp only)); refine Kd.R_lit k28 _ 28 ?hg (N := 19) ?hd (xs := ([] : List (S28))) (inner := []) (ok := fun _ => True) (okp := fun _ => True) ?hr ?hp (fun _ hk => hk) trivial (Below.refl _ _) (Nat.le_refl _) (by simp) ?_; (case hd => rfl); (case hg => rfl); (case hr => first | (go_simp; done) | (go_simp; rfl)); (case hp => exact (Reps.none _ _)); intro v288 w13 ho14 hb hg_ hnew_; clear hg_ hnew_; (first | rw [← Ny287.out] at ho14 | (simp only [Int.reduceToNat] at ho14; rw [← Ny287.out] at ho14)); have HO289 := Aside0.mk (Kd.R_lower (Kd.R_newM (M := fun k_ => (w.heap.size ≤ k_)) ho14 (below_size (bl_ HB).out) (fun k_ h_ => h_)) (below_size (bl_ HB).out)); replace HO0 := Aside0.mk (Kd.V_elder' (krV_ HO0) (Kd.R_base ho14) hb); replace HO285 := Aside0.mk (Kd.N_elder' (krN_ HO285) (Kd.R_base ho14) hb); replace HB := Aside0.mk (below_step (bl_ HB).out hb); clear hb ho14) | ((with_reducible refine gate_builtin (b := .append) (xs := #[.tmp 19, .tmp 20]) rfl ?_); (try (refine gate_guard (by rfl) ?_; dsimp only)); at_builtin; refine Kd.R_append_rows k28 (w0 := w) w.heap.size rfl (.tmp 19) (.tmp 20) 22 28 (.agg #[(.int .i32 0), (.int .i32 0)]) 8 rfl Tryz.underlying22 info28 rfl (by decide) (by omega) v288 y287 l0 _ _ _ (fun k_ => (w.heap.size ≤ k_)) (fun _ => False) rfl rfl ?aO ?aR (fun _ _ h => h) (fun _ h => h.elim) ?aF ?aB ?aS ?aL ?_; (case aR => repeat (first | exact (Kd.V_reads' HO0.out).2.2 | (with_reducible refine Kd.C_alloc ?_ _) | (with_reducible refine Kd.C_drewN ?_ _) | (with_reducible refine Kd.C_drew ?_))); (case aB => exact (bl_ HB).out); (case aF => exact (fun k_ hk => (Nat.le_trans (below_size (bl_ HB).out) hk))); (case aO => exact (by (with_reducible repeat (first | apply Kd.R_alloc | apply Kd.R_drewN | apply Kd.R_drew)); exact Kd.R_mono HO289.out (fun _ hk => hk.1))); (case aS => exact (below_size (bl_ HB).out)); (case aL => have := LMc7.out; omega); intro v291 w15 ho hb hg hat; rw [← Ny290.out] at ho; have n0_ := Aside0.mk (Kd.V_afterv (ok := (fun k_ => (P0_ k_ ∨ w.heap.size ≤ k_) ∧ some k_ ≠ (.slice Ao12 y283.length co12 : Value).ownBlock)) (krV_ HO0) hg hat); have n1_ := Aside0.mk (Kd.N_afterv (ok := (fun k_ => (P0_ k_ ∨ w.heap.size ≤ k_))) (krN_ HO285) hg hat); have n2_ := Aside0.mk (hb); have n3_ := Aside0.mk (ho); clear HO0; clear HO285; clear HB; clear HO289; have HO0 := n0_; have HO285 := n1_; have HB := n2_; have HO292 := n3_; clear n0_ n1_ n2_ n3_; clear ho hb hg hat; obtain ⟨Ao16, co16, eo16⟩ := Kd.R_slice HO292.out; subst eo16) | (go_at_call 11; (with_reducible refine (class_Made.calls k _ _ y290 t293 _ ?side1 ?side2 A8.out).mono ?_); (case side1 => exact kc_ HO292); (case side2 => exact kl_ HO292); rintro e w17 ⟨v294, rfl, ho0, hb⟩; have HO295 := Aside0.mk (Kd.R_lower (Kd.R_new' (Kd.R_newM (M := fun k_ => (w.heap.size ≤ k_)) ho0 (below_size (bl_ HB).out) (fun k_ h_ => h_)) (kx_ HO292)) (below_size (bl_ HB).out)); replace HO0 := Aside0.mk (Kd.V_elder' (krV_ HO0) (Kd.R_base ho0) hb); replace HO285 := Aside0.mk (Kd.N_elder' (krN_ HO285) (Kd.R_base ho0) hb); replace HO292 := ke_ HO292 ho0 hb; replace HB := Aside0.mk (below_step (bl_ HB).out hb); (try clear hb); (try clear ho0)))
        repeat (go_quiet (first | (go_at_call 9; (with_reducible refine (florinlaw10_head.calls k  true _ A3.out).mono ?_); rintro e w9 ⟨rfl, hb⟩; replace HO0 := Aside0.mk (Kd.V_below (krV_ HO0) hb); replace HB := Aside0.mk (below_step (bl_ HB).out hb); (try clear hb); (try clear hi)) | ((with_reducible refine gate_dst (N := 16) rfl ?_); (try (refine gate_guard (by rfl) ?_; dsimp only)); refine Kd.N_lit (Kd.slice 28 k28) _ 22 ?hg (N' := 16) ?hd (xs := ([l0] : List (List (S28)))) (inner := [.slice A0 l0.length c0]) (ok := (fun k_ => (P0_ k_ ∨ w.heap.size ≤ k_))) (okp := (fun k_ => (P0_ k_ ∨ w.heap.size ≤ k_))) ?hr ?hp (fun _ hk => hk) ((show ∀ k_, w9.heap.size ≤ k_ → (fun k_ => (P0_ k_ ∨ w.heap.size ≤ k_)) k_ from fun k_ hk => (.inr (Nat.le_trans (below_size (bl_ HB).out) hk))) _ (Nat.le_refl _)) (Below.refl _ _) (Nat.le_refl _) (by simp) ?_; (case hd => rfl); (case hg => rfl); (case hr => first | (go_simp; done) | (go_simp; rfl)); (case hp => exact (Reps.one (show Kd.FK (Kd.slice 28 k28) _ _ l0 [.slice A0 l0.length c0] from (Kd.FK_slice_mk (Kd.V_reads' (Kd.V_mono (ok' := (fun k_ => (P0_ k_ ∨ w.heap.size ≤ k_))) (HO0.out) (fun k_ hk => hk))).2.1 (Kd.V_F (Kd.V_mono (ok' := (fun k_ => (P0_ k_ ∨ w.heap.size ≤ k_))) (HO0.out) (fun k_ hk => hk))))) (Reps.none _ _))); intro v284 w10 ho11 hb hg_ hnew_; clear hg_ hnew_; (first | rw [← Ny283.out] at ho11 | (simp only [Int.reduceToNat] at ho11; rw [← Ny283.out] at ho11)); have HO285 := Aside0.mk (Kd.N_lower ho11 (below_size (bl_ HB).out)); replace HO0 := Aside0.mk (Kd.V_elder' (krV_ HO0) (Kd.N_base ho11) hb); replace HB := Aside0.mk (below_step (bl_ HB).out hb); clear hb ho11; obtain ⟨Ao12, co12, eo12⟩ := Kd.N_slice HO285.out; subst eo12) | (go_at_call 10; (with_reducible refine (florinlaw10_few.calls k _ _ y283 true _ ?side1 ?side2 A5.out).mono ?_); (case side1 => repeat (first | exact (Kd.N_reads' HO285.out).2.2 | (with_reducible refine Kd.C_alloc ?_ _) | (with_reducible refine Kd.C_drewN ?_ _) | (with_reducible refine Kd.C_drew ?_))); (case side2 => exact (Kd.N_reads' HO285.out).2.1); rintro e w' ⟨rfl, ⟨nd, rfl⟩⟩; (try first | exact ⟨rfl, _, World.drewN_drewN _ _ _⟩ | exact ⟨rfl, _, Eq.trans (World.drewN_drewN _ _ _) (congrArg (World.drewN _) (Nat.add_assoc _ _ _))⟩)) | ((with_reducible refine gate_dst (N := 19) rfl ?_); (try (refine gate_guard (by rfl) ?_; dsimp only)); refine Kd.R_lit k28 _ 28 ?hg (N := 19) ?hd (xs := ([] : List (S28))) (inner := []) (ok := fun _ => True) (okp := fun _ => True) ?hr ?hp (fun _ hk => hk) trivial (Below.refl _ _) (Nat.le_refl _) (by simp) ?_; (case hd => rfl); (case hg => rfl); (case hr => first | (go_simp; done) | (go_simp; rfl)); (case hp => exact (Reps.none _ _)); intro v288 w13 ho14 hb hg_ hnew_; clear hg_ hnew_; (first | rw [← Ny287.out] at ho14 | (simp only [Int.reduceToNat] at ho14; rw [← Ny287.out] at ho14)); have HO289 := Aside0.mk (Kd.R_lower (Kd.R_newM (M := fun k_ => (w.heap.size ≤ k_)) ho14 (below_size (bl_ HB).out) (fun k_ h_ => h_)) (below_size (bl_ HB).out)); replace HO0 := Aside0.mk (Kd.V_elder' (krV_ HO0) (Kd.R_base ho14) hb); replace HO285 := Aside0.mk (Kd.N_elder' (krN_ HO285) (Kd.R_base ho14) hb); replace HB := Aside0.mk (below_step (bl_ HB).out hb); clear hb ho14) | ((with_reducible refine gate_builtin (b := .append) (xs := #[.tmp 19, .tmp 20]) rfl ?_); (try (refine gate_guard (by rfl) ?_; dsimp only)); at_builtin; refine Kd.R_append_rows k28 (w0 := w) w.heap.size rfl (.tmp 19) (.tmp 20) 22 28 (.agg #[(.int .i32 0), (.int .i32 0)]) 8 rfl Tryz.underlying22 info28 rfl (by decide) (by omega) v288 y287 l0 _ _ _ (fun k_ => (w.heap.size ≤ k_)) (fun _ => False) rfl rfl ?aO ?aR (fun _ _ h => h) (fun _ h => h.elim) ?aF ?aB ?aS ?aL ?_; (case aR => repeat (first | exact (Kd.V_reads' HO0.out).2.2 | (with_reducible refine Kd.C_alloc ?_ _) | (with_reducible refine Kd.C_drewN ?_ _) | (with_reducible refine Kd.C_drew ?_))); (case aB => exact (bl_ HB).out); (case aF => exact (fun k_ hk => (Nat.le_trans (below_size (bl_ HB).out) hk))); (case aO => exact (by (with_reducible repeat (first | apply Kd.R_alloc | apply Kd.R_drewN | apply Kd.R_drew)); exact Kd.R_mono HO289.out (fun _ hk => hk.1))); (case aS => exact (below_size (bl_ HB).out)); (case aL => have := LMc7.out; omega); intro v291 w15 ho hb hg hat; rw [← Ny290.out] at ho; have n0_ := Aside0.mk (Kd.V_afterv (ok := (fun k_ => (P0_ k_ ∨ w.heap.size ≤ k_) ∧ some k_ ≠ (.slice Ao12 y283.length co12 : Value).ownBlock)) (krV_ HO0) hg hat); have n1_ := Aside0.mk (Kd.N_afterv (ok := (fun k_ => (P0_ k_ ∨ w.heap.size ≤ k_))) (krN_ HO285) hg hat); have n2_ := Aside0.mk (hb); have n3_ := Aside0.mk (ho); clear HO0; clear HO285; clear HB; clear HO289; have HO0 := n0_; have HO285 := n1_; have HB := n2_; have HO292 := n3_; clear n0_ n1_ n2_ n3_; clear ho hb hg hat; obtain ⟨Ao16, co16, eo16⟩ := Kd.R_slice HO292.out; subst eo16) | (go_at_call 11; (with_reducible refine (class_Made.calls k _ _ y290 t293 _ ?side1 ?side2 A8.out).mono ?_); (case side1 => exact kc_ HO292); (case side2 => exact kl_ HO292); rintro e w17 ⟨v294, rfl, ho0, hb⟩; have HO295 := Aside0.mk (Kd.R_lower (Kd.R_new' (Kd.R_newM (M := fun k_ => (w.heap.size ≤ k_)) ho0 (below_size (bl_ HB).out) (fun k_ h_ => h_)) (kx_ HO292)) (below_size (bl_ HB).out)); replace HO0 := Aside0.mk (Kd.V_elder' (krV_ HO0) (Kd.R_base ho0) hb); replace HO285 := Aside0.mk (Kd.N_elder' (krN_ HO285) (Kd.R_base ho0) hb); replace HO292 := ke_ HO292 ho0 hb; replace HB := Aside0.mk (below_step (bl_ HB).out hb); (try clear hb); (try clear ho0))); try go_wp2_with (first | (go_at_call 9; (with_reducible refine (florinlaw10_head.calls k  true _ A3.out).mono ?_); rintro e w9 ⟨rfl, hb⟩; replace HO0 := Aside0.mk (Kd.V_below (krV_ HO0) hb); replace HB := Aside0.mk (below_step (bl_ HB).out hb); (try clear hb); (try clear hi)) | ((with_reducible refine gate_dst (N := 16) rfl ?_); (try (refine gate_guard (by rfl) ?_; dsimp only)); refine Kd.N_lit (Kd.slice 28 k28) _ 22 ?hg (N' := 16) ?hd (xs := ([l0] : List (List (S28)))) (inner := [.slice A0 l0.length c0]) (ok := (fun k_ => (P0_ k_ ∨ w.heap.size ≤ k_))) (okp := (fun k_ => (P0_ k_ ∨ w.heap.size ≤ k_))) ?hr ?hp (fun _ hk => hk) ((show ∀ k_, w9.heap.size ≤ k_ → (fun k_ => (P0_ k_ ∨ w.heap.size ≤ k_)) k_ from fun k_ hk => (.inr (Nat.le_trans (below_size (bl_ HB).out) hk))) _ (Nat.le_refl _)) (Below.refl _ _) (Nat.le_refl _) (by simp) ?_; (case hd => rfl); (case hg => rfl); (case hr => first | (go_simp; done) | (go_simp; rfl)); (case hp => exact (Reps.one (show Kd.FK (Kd.slice 28 k28) _ _ l0 [.slice A0 l0.length c0] from (Kd.FK_slice_mk (Kd.V_reads' (Kd.V_mono (ok' := (fun k_ => (P0_ k_ ∨ w.heap.size ≤ k_))) (HO0.out) (fun k_ hk => hk))).2.1 (Kd.V_F (Kd.V_mono (ok' := (fun k_ => (P0_ k_ ∨ w.heap.size ≤ k_))) (HO0.out) (fun k_ hk => hk))))) (Reps.none _ _))); intro v284 w10 ho11 hb hg_ hnew_; clear hg_ hnew_; (first | rw [← Ny283.out] at ho11 | (simp only [Int.reduceToNat] at ho11; rw [← Ny283.out] at ho11)); have HO285 := Aside0.mk (Kd.N_lower ho11 (below_size (bl_ HB).out)); replace HO0 := Aside0.mk (Kd.V_elder' (krV_ HO0) (Kd.N_base ho11) hb); replace HB := Aside0.mk (below_step (bl_ HB).out hb); clear hb ho11; obtain ⟨Ao12, co12, eo12⟩ := Kd.N_slice HO285.out; subst eo12) | (go_at_call 10; (with_reducible refine (florinlaw10_few.calls k _ _ y283 true _ ?side1 ?side2 A5.out).mono ?_); (case side1 => repeat (first | exact (Kd.N_reads' HO285.out).2.2 | (with_reducible refine Kd.C_alloc ?_ _) | (with_reducible refine Kd.C_drewN ?_ _) | (with_reducible refine Kd.C_drew ?_))); (case side2 => exact (Kd.N_reads' HO285.out).2.1); rintro e w' ⟨rfl, ⟨nd, rfl⟩⟩; (try first | exact ⟨rfl, _, World.drewN_drewN _ _ _⟩ | exact ⟨rfl, _, Eq.trans (World.drewN_drewN _ _ _) (congrArg (World.drewN _) (Nat.add_assoc _ _ _))⟩)) | ((with_reducible refine gate_dst (N := 19) rfl ?_); (try (refine gate_guard (by rfl) ?_; dsimp only)); refine Kd.R_lit k28 _ 28 ?hg (N := 19) ?hd (xs := ([] : List (S28))) (inner := []) (ok := fun _ => True) (okp := fun _ => True) ?hr ?hp (fun _ hk => hk) trivial (Below.refl _ _) (Nat.le_refl _) (by simp) ?_; (case hd => rfl); (case hg => rfl); (case hr => first | (go_simp; done) | (go_simp; rfl)); (case hp => exact (Reps.none _ _)); intro v288 w13 ho14 hb hg_ hnew_; clear hg_ hnew_; (first | rw [← Ny287.out] at ho14 | (simp only [Int.reduceToNat] at ho14; rw [← Ny287.out] at ho14)); have HO289 := Aside0.mk (Kd.R_lower (Kd.R_newM (M := fun k_ => (w.heap.size ≤ k_)) ho14 (below_size (bl_ HB).out) (fun k_ h_ => h_)) (below_size (bl_ HB).out)); replace HO0 := Aside0.mk (Kd.V_elder' (krV_ HO0) (Kd.R_base ho14) hb); replace HO285 := Aside0.mk (Kd.N_elder' (krN_ HO285) (Kd.R_base ho14) hb); replace HB := Aside0.mk (below_step (bl_ HB).out hb); clear hb ho14) | ((with_reducible refine gate_builtin (b := .append) (xs := #[.tmp 19, .tmp 20]) rfl ?_); (try (refine gate_guard (by rfl) ?_; dsimp only)); at_builtin; refine Kd.R_append_rows k28 (w0 := w) w.heap.size rfl (.tmp 19) (.tmp 20) 22 28 (.agg #[(.int .i32 0), (.int .i32 0)]) 8 rfl Tryz.underlying22 info28 rfl (by decide) (by omega) v288 y287 l0 _ _ _ (fun k_ => (w.heap.size ≤ k_)) (fun _ => False) rfl rfl ?aO ?aR (fun _ _ h => h) (fun _ h => h.elim) ?aF ?aB ?aS ?aL ?_; (case aR => repeat (first | exact (Kd.V_reads' HO0.out).2.2 | (with_reducible refine Kd.C_alloc ?_ _) | (with_reducible refine Kd.C_drewN ?_ _) | (with_reducible refine Kd.C_drew ?_))); (case aB => exact (bl_ HB).out); (case aF => exact (fun k_ hk => (Nat.le_trans (below_size (bl_ HB).out) hk))); (case aO => exact (by (with_reducible repeat (first | apply Kd.R_alloc | apply Kd.R_drewN | apply Kd.R_drew)); exact Kd.R_mono HO289.out (fun _ hk => hk.1))); (case aS => exact (below_size (bl_ HB).out)); (case aL => have := LMc7.out; omega); intro v291 w15 ho hb hg hat; rw [← Ny290.out] at ho; have n0_ := Aside0.mk (Kd.V_afterv (ok := (fun k_ => (P0_ k_ ∨ w.heap.size ≤ k_) ∧ some k_ ≠ (.slice Ao12 y283.length co12 : Value).ownBlock)) (krV_ HO0) hg hat); have n1_ := Aside0.mk (Kd.N_afterv (ok := (fun k_ => (P0_ k_ ∨ w.heap.size ≤ k_))) (krN_ HO285) hg hat); have n2_ := Aside0.mk (hb); have n3_ := Aside0.mk (ho); clear HO0; clear HO285; clear HB; clear HO289; have HO0 := n0_; have HO285 := n1_; have HB := n2_; have HO292 := n3_; clear n0_ n1_ n2_ n3_; clear ho hb hg hat; obtain ⟨Ao16, co16, eo16⟩ := Kd.R_slice HO292.out; subst eo16) | (go_at_call 11; (with_reducible refine (class_Made.calls k _ _ y290 t293 _ ?side1 ?side2 A8.out).mono ?_); (case side1 => exact kc_ HO292); (case side2 => exact kl_ HO292); rintro e w17 ⟨v294, rfl, ho0, hb⟩; have HO295 := Aside0.mk (Kd.R_lower (Kd.R_new' (Kd.R_newM (M := fun k_ => (w.heap.size ≤ k_)) ho0 (below_size (bl_ HB).out) (fun k_ h_ => h_)) (kx_ HO292)) (below_size (bl_ HB).out)); replace HO0 := Aside0.mk (Kd.V_elder' (krV_ HO0) (Kd.R_base ho0) hb); replace HO285 := Aside0.mk (Kd.N_elder' (krN_ HO285) (Kd.R_base ho0) hb); replace HO292 := ke_ HO292 ho0 hb; replace HB := Aside0.mk (below_step (bl_ HB).out hb); (try clear hb); (try clear ho0))))
        go_loopg [26] k (fun kq v26 w' => ∃ (x26_1 : Int), v26 = .int .i64 x26_1 ∧ Aside0 (florinlaw10_ClassMakes.l0 kq l0 a1 y290 t293 (l0.length : Int) x26_1 = some r) ∧ Aside0 (kq ≤ k) ∧ Aside0 (Kd.V k28 28 w' w.heap.size (fun k_ => (P0_ k_ ∨ w.heap.size ≤ k_) ∧ some k_ ≠ ((.slice Ao16 y290.length co16) : Value).ownBlock ∧ some k_ ≠ (v294 : Value).ownBlock) (.slice A0 l0.length c0) l0) ∧ Aside0 (Kd.R k28 28 w' w.heap.size (fun k_ => (w.heap.size ≤ k_) ∧ some k_ ≠ (v294 : Value).ownBlock) (.slice Ao16 y290.length co16) y290) ∧ Aside0 (Kd.R k28 28 w' w.heap.size (fun k_ => (w.heap.size ≤ k_) ∧ some k_ ≠ ((.slice Ao16 y290.length co16) : Value).ownBlock) v294 t293) ∧ Aside0 (Below w.heap.size w w'))
        case atStart => exact ⟨(0), eq_, H', ⟨Nat.le_refl _⟩, ⟨by (with_reducible repeat (first | apply Kd.V_alloc | apply Kd.V_drewN | apply Kd.V_drew)); exact Kd.V_mono HO0.out (fun _ hk => ⟨hk.1.1.1, ⟨hk.1.2, hk.2⟩⟩)⟩, ⟨by (with_reducible repeat (first | apply Kd.R_alloc | apply Kd.R_drewN | apply Kd.R_drew)); exact HO292.out⟩, ⟨by (with_reducible repeat (first | apply Kd.R_alloc | apply Kd.R_drewN | apply Kd.R_drew)); exact Kd.R_mono HO295.out (fun _ hk => ⟨hk.1.1, hk.2⟩)⟩, (bl_ HB)⟩
        case round =>
          clear H'
          try clear p2
          try clear c3
          try clear c4
          try clear c6
          try clear p6
          try clear c7
          obtain ⟨x26_1, rfl, HA, HK1, HO_0, HO_5, HO_6, HB⟩ := hrel
          cases gk with
          | zero => exact absurd HA.out (by simp [florinlaw10_ClassMakes.l0])
          | succ k1 =>
            have H := HA.out
            clear HA
            simp only [florinlaw10_ClassMakes.l0] at H
            by_cases c18 : x26_1 < (l0.length : Int)
            · rw [if_pos c18] at H
              have c18b0 : decide (x26_1 < (l0.length : Int)) = true := decide_eq_true c18
              clear c18
              by_cases c19 : 0 ≤ x26_1
              · rw [if_pos c19] at H
                have c19b0 : decide (0 ≤ x26_1) = true := decide_eq_true c19
                clear c19
                by_cases c20 : x26_1 < (y290.length : Int)
                · rw [if_pos c20] at H
                  have c20b0 : decide (x26_1 < (y290.length : Int)) = true := decide_eq_true c20
                  clear c20
                  by_cases c21 : x26_1 < (l0.length : Int)
                  · rw [if_pos c21] at H
                    have c21b0 : decide (x26_1 < (l0.length : Int)) = true := decide_eq_true c21
                    clear c21
                    by_cases c22 : (!(((rd_T28 y290 x26_1).f0) == ((rd_T28 l0 x26_1).f0)) || (!(((rd_T28 y290 x26_1).f1) == ((rd_T28 l0 x26_1).f1)))) = true
                    · rw [if_pos c22] at H
                      exact absurd H (by simp)
                    · rw [if_neg c22] at H
                      have c22b0 : (!(((rd_T28 y290 x26_1).f0) == ((rd_T28 l0 x26_1).f0)) || (!(((rd_T28 y290 x26_1).f1) == ((rd_T28 l0 x26_1).f1)))) = false := by simpa using c22
                      clear c22
                      have H' := Aside0.mk H
                      clear H
                      have p296 : 0 ≤ (x26_1 : Int) := of_decide_eq_true (by first | (with_reducible assumption) | assumption)
                      have q296 : x26_1 < (y290.length : Int) := of_decide_eq_true (by first | (with_reducible assumption) | assumption)
                      obtain ⟨ad296, e296, hx296_0, hx296_1⟩ := at_T28 (Kd.R_reads' HO_5.out).2.2 x26_1 p296 q296
                      cases e296
                      replace p296 := eq_true p296
                      replace q296 := eq_true q296
                      have p297 : 0 ≤ (x26_1 : Int) := of_decide_eq_true (by first | (with_reducible assumption) | assumption)
                      have q297 : x26_1 < (l0.length : Int) := of_decide_eq_true (by first | (with_reducible assumption) | assumption)
                      obtain ⟨ad297, e297, hx297_0, hx297_1⟩ := at_T28 (Kd.V_reads' HO_0.out).2.2 x26_1 p297 q297
                      cases e297
                      replace p297 := eq_true p297
                      replace q297 := eq_true q297
                      go_wp2
                      repeat (go_quiet (fail); try go_wp2)
                      go_roundg k1
                      case measure => have := HK1.out; omega
                      case rel => exact ⟨(wrap64 (x26_1 + 1)), eq_, H', ⟨by have := HK1.out; omega⟩, ⟨by (with_reducible repeat (first | apply Kd.V_alloc | apply Kd.V_drewN | apply Kd.V_drew)); exact HO_0.out⟩, ⟨by (with_reducible repeat (first | apply Kd.R_alloc | apply Kd.R_drewN | apply Kd.R_drew)); exact HO_5.out⟩, ⟨by (with_reducible repeat (first | apply Kd.R_alloc | apply Kd.R_drewN | apply Kd.R_drew)); exact HO_6.out⟩, (bl_ HB)⟩
                  · rw [if_neg c21] at H
                    exact absurd H (by simp)
                · rw [if_neg c20] at H
                  exact absurd H (by simp)
              · rw [if_neg c19] at H
                exact absurd H (by simp)
            · rw [if_neg c18] at H
              have c18b0 : decide (x26_1 < (l0.length : Int)) = false := decide_eq_false c18
              clear c18
              obtain ⟨y298, hy298⟩ : ∃ y_ : List (List (S28)), y_ = (([l0] : List (List (S28)))) := ⟨_, rfl⟩
              replace H : ((florinlaw10_bounds.f k1 y298).bind fun t301 => (florinlaw10_ClassMakes.l1 k1 l0 a1 t293 t301 (t301.length : Int) 0)) = some r := by first | (rw [hy298]; with_reducible exact H) | (have H2_ := (Option.bind_some _ _).symm.trans H; rw [hy298]; with_reducible exact H2_) | (have H2_ := (Option.bind_some _ _).symm.trans H; with_reducible exact H2_) | with_reducible exact H | (rw [hy298]; exact H) | exact H
              have Ny298 := Aside0.mk hy298
              clear hy298
              replace H := Option.bind_eq_some_iff.mp H
              obtain ⟨t301, A230, H⟩ := H
              replace H : (florinlaw10_ClassMakes.l1 k1 l0 a1 t293 t301 (t301.length : Int) 0) = some r := H
              have A23 := Aside0.mk A230
              clear A230
              have H' := Aside0.mk H
              clear H
              go_wp2_with (first | ((with_reducible refine gate_dst (N := 40) rfl ?_); (try (refine gate_guard (by rfl) ?_; dsimp only)); refine Kd.N_lit (Kd.slice 28 k28) _ 22 ?hg (N' := 40) ?hd (xs := ([l0] : List (List (S28)))) (inner := [.slice A0 l0.length c0]) (ok := (fun k_ => (P0_ k_ ∨ w.heap.size ≤ k_) ∧ some k_ ≠ (.slice Ao16 y290.length co16 : Value).ownBlock ∧ some k_ ≠ (v294 : Value).ownBlock)) (okp := (fun k_ => (P0_ k_ ∨ w.heap.size ≤ k_) ∧ some k_ ≠ (.slice Ao16 y290.length co16 : Value).ownBlock ∧ some k_ ≠ (v294 : Value).ownBlock)) ?hr ?hp (fun _ hk => hk) ((show ∀ k_, wr.heap.size ≤ k_ → (fun k_ => (P0_ k_ ∨ w.heap.size ≤ k_) ∧ some k_ ≠ (.slice Ao16 y290.length co16 : Value).ownBlock ∧ some k_ ≠ (v294 : Value).ownBlock) k_ from fun k_ hk => ⟨(.inr (Nat.le_trans (below_size (bl_ HB).out) hk)), Kd.fresh' (kx_ HO_5) k_ hk, Kd.fresh' (kx_ HO_6) k_ hk⟩) _ (Nat.le_refl _)) (Below.refl _ _) (Nat.le_refl _) (by simp) ?_; (case hd => rfl); (case hg => rfl); (case hr => first | (go_simp; done) | (go_simp; rfl)); (case hp => exact (Reps.one (show Kd.FK (Kd.slice 28 k28) _ _ l0 [.slice A0 l0.length c0] from (Kd.FK_slice_mk (Kd.V_reads' (Kd.V_mono (ok' := (fun k_ => (P0_ k_ ∨ w.heap.size ≤ k_) ∧ some k_ ≠ (.slice Ao16 y290.length co16 : Value).ownBlock ∧ some k_ ≠ (v294 : Value).ownBlock)) (HO_0.out) (fun k_ hk => ⟨hk.1, ⟨hk.2.1, hk.2.2⟩⟩))).2.1 (Kd.V_F (Kd.V_mono (ok' := (fun k_ => (P0_ k_ ∨ w.heap.size ≤ k_) ∧ some k_ ≠ (.slice Ao16 y290.length co16 : Value).ownBlock ∧ some k_ ≠ (v294 : Value).ownBlock)) (HO_0.out) (fun k_ hk => ⟨hk.1, ⟨hk.2.1, hk.2.2⟩⟩))))) (Reps.none _ _))); intro v299 w24 ho25 hb hg_ hnew_; clear hg_ hnew_; (first | rw [← Ny298.out] at ho25 | (simp only [Int.reduceToNat] at ho25; rw [← Ny298.out] at ho25)); have HO300 := Aside0.mk (Kd.N_lower ho25 (below_size (bl_ HB).out)); replace HO_0 := Aside0.mk (Kd.V_elder' (krV_ HO_0) (Kd.N_base ho25) hb); replace HO_5 := kb_ HO_5 hb; replace HO_6 := kb_ HO_6 hb; replace HB := Aside0.mk (below_step (bl_ HB).out hb); clear hb ho25; obtain ⟨Ao26, co26, eo26⟩ := Kd.N_slice HO300.out; subst eo26) | (go_at_call 12; (with_reducible refine (florinlaw10_bounds.calls k1 _ _ y298 t301 _ ?side1 ?side2 A23.out).mono ?_); (case side1 => repeat (first | exact (Kd.N_reads' HO300.out).2.2 | (with_reducible refine Kd.C_alloc ?_ _) | (with_reducible refine Kd.C_drewN ?_ _) | (with_reducible refine Kd.C_drew ?_))); (case side2 => exact (Kd.N_reads' HO300.out).2.1); rintro e w27 ⟨v302, rfl, ho0, hb⟩; have HO303 := Aside0.mk (Kd.R_lower (Kd.R_newM (M := fun k_ => (w.heap.size ≤ k_)) ho0 (below_size (bl_ HB).out) (fun k_ h_ => h_)) (below_size (bl_ HB).out)); replace HO_0 := Aside0.mk (Kd.V_elder' (krV_ HO_0) (Kd.R_base ho0) hb); replace HO_5 := kb_ HO_5 hb; replace HO_6 := kb_ HO_6 hb; replace HO300 := Aside0.mk (Kd.N_elder' (krN_ HO300) (Kd.R_base ho0) hb); replace HB := Aside0.mk (below_step (bl_ HB).out hb); (try clear hb); (try clear ho0); obtain ⟨Ao28, co28, eo28⟩ := Kd.R_slice HO303.out; subst eo28))
              repeat (go_quiet (first | ((with_reducible refine gate_dst (N := 40) rfl ?_); (try (refine gate_guard (by rfl) ?_; dsimp only)); refine Kd.N_lit (Kd.slice 28 k28) _ 22 ?hg (N' := 40) ?hd (xs := ([l0] : List (List (S28)))) (inner := [.slice A0 l0.length c0]) (ok := (fun k_ => (P0_ k_ ∨ w.heap.size ≤ k_) ∧ some k_ ≠ (.slice Ao16 y290.length co16 : Value).ownBlock ∧ some k_ ≠ (v294 : Value).ownBlock)) (okp := (fun k_ => (P0_ k_ ∨ w.heap.size ≤ k_) ∧ some k_ ≠ (.slice Ao16 y290.length co16 : Value).ownBlock ∧ some k_ ≠ (v294 : Value).ownBlock)) ?hr ?hp (fun _ hk => hk) ((show ∀ k_, wr.heap.size ≤ k_ → (fun k_ => (P0_ k_ ∨ w.heap.size ≤ k_) ∧ some k_ ≠ (.slice Ao16 y290.length co16 : Value).ownBlock ∧ some k_ ≠ (v294 : Value).ownBlock) k_ from fun k_ hk => ⟨(.inr (Nat.le_trans (below_size (bl_ HB).out) hk)), Kd.fresh' (kx_ HO_5) k_ hk, Kd.fresh' (kx_ HO_6) k_ hk⟩) _ (Nat.le_refl _)) (Below.refl _ _) (Nat.le_refl _) (by simp) ?_; (case hd => rfl); (case hg => rfl); (case hr => first | (go_simp; done) | (go_simp; rfl)); (case hp => exact (Reps.one (show Kd.FK (Kd.slice 28 k28) _ _ l0 [.slice A0 l0.length c0] from (Kd.FK_slice_mk (Kd.V_reads' (Kd.V_mono (ok' := (fun k_ => (P0_ k_ ∨ w.heap.size ≤ k_) ∧ some k_ ≠ (.slice Ao16 y290.length co16 : Value).ownBlock ∧ some k_ ≠ (v294 : Value).ownBlock)) (HO_0.out) (fun k_ hk => ⟨hk.1, ⟨hk.2.1, hk.2.2⟩⟩))).2.1 (Kd.V_F (Kd.V_mono (ok' := (fun k_ => (P0_ k_ ∨ w.heap.size ≤ k_) ∧ some k_ ≠ (.slice Ao16 y290.length co16 : Value).ownBlock ∧ some k_ ≠ (v294 : Value).ownBlock)) (HO_0.out) (fun k_ hk => ⟨hk.1, ⟨hk.2.1, hk.2.2⟩⟩))))) (Reps.none _ _))); intro v299 w24 ho25 hb hg_ hnew_; clear hg_ hnew_; (first | rw [← Ny298.out] at ho25 | (simp only [Int.reduceToNat] at ho25; rw [← Ny298.out] at ho25)); have HO300 := Aside0.mk (Kd.N_lower ho25 (below_size (bl_ HB).out)); replace HO_0 := Aside0.mk (Kd.V_elder' (krV_ HO_0) (Kd.N_base ho25) hb); replace HO_5 := kb_ HO_5 hb; replace HO_6 := kb_ HO_6 hb; replace HB := Aside0.mk (below_step (bl_ HB).out hb); clear hb ho25; obtain ⟨Ao26, co26, eo26⟩ := Kd.N_slice HO300.out; subst eo26) | (go_at_call 12; (with_reducible refine (florinlaw10_bounds.calls k1 _ _ y298 t301 _ ?side1 ?side2 A23.out).mono ?_); (case side1 => repeat (first | exact (Kd.N_reads' HO300.out).2.2 | (with_reducible refine Kd.C_alloc ?_ _) | (with_reducible refine Kd.C_drewN ?_ _) | (with_reducible refine Kd.C_drew ?_))); (case side2 => exact (Kd.N_reads' HO300.out).2.1); rintro e w27 ⟨v302, rfl, ho0, hb⟩; have HO303 := Aside0.mk (Kd.R_lower (Kd.R_newM (M := fun k_ => (w.heap.size ≤ k_)) ho0 (below_size (bl_ HB).out) (fun k_ h_ => h_)) (below_size (bl_ HB).out)); replace HO_0 := Aside0.mk (Kd.V_elder' (krV_ HO_0) (Kd.R_base ho0) hb); replace HO_5 := kb_ HO_5 hb; replace HO_6 := kb_ HO_6 hb; replace HO300 := Aside0.mk (Kd.N_elder' (krN_ HO300) (Kd.R_base ho0) hb); replace HB := Aside0.mk (below_step (bl_ HB).out hb); (try clear hb); (try clear ho0); obtain ⟨Ao28, co28, eo28⟩ := Kd.R_slice HO303.out; subst eo28)); try go_wp2_with (first | ((with_reducible refine gate_dst (N := 40) rfl ?_); (try (refine gate_guard (by rfl) ?_; dsimp only)); refine Kd.N_lit (Kd.slice 28 k28) _ 22 ?hg (N' := 40) ?hd (xs := ([l0] : List (List (S28)))) (inner := [.slice A0 l0.length c0]) (ok := (fun k_ => (P0_ k_ ∨ w.heap.size ≤ k_) ∧ some k_ ≠ (.slice Ao16 y290.length co16 : Value).ownBlock ∧ some k_ ≠ (v294 : Value).ownBlock)) (okp := (fun k_ => (P0_ k_ ∨ w.heap.size ≤ k_) ∧ some k_ ≠ (.slice Ao16 y290.length co16 : Value).ownBlock ∧ some k_ ≠ (v294 : Value).ownBlock)) ?hr ?hp (fun _ hk => hk) ((show ∀ k_, wr.heap.size ≤ k_ → (fun k_ => (P0_ k_ ∨ w.heap.size ≤ k_) ∧ some k_ ≠ (.slice Ao16 y290.length co16 : Value).ownBlock ∧ some k_ ≠ (v294 : Value).ownBlock) k_ from fun k_ hk => ⟨(.inr (Nat.le_trans (below_size (bl_ HB).out) hk)), Kd.fresh' (kx_ HO_5) k_ hk, Kd.fresh' (kx_ HO_6) k_ hk⟩) _ (Nat.le_refl _)) (Below.refl _ _) (Nat.le_refl _) (by simp) ?_; (case hd => rfl); (case hg => rfl); (case hr => first | (go_simp; done) | (go_simp; rfl)); (case hp => exact (Reps.one (show Kd.FK (Kd.slice 28 k28) _ _ l0 [.slice A0 l0.length c0] from (Kd.FK_slice_mk (Kd.V_reads' (Kd.V_mono (ok' := (fun k_ => (P0_ k_ ∨ w.heap.size ≤ k_) ∧ some k_ ≠ (.slice Ao16 y290.length co16 : Value).ownBlock ∧ some k_ ≠ (v294 : Value).ownBlock)) (HO_0.out) (fun k_ hk => ⟨hk.1, ⟨hk.2.1, hk.2.2⟩⟩))).2.1 (Kd.V_F (Kd.V_mono (ok' := (fun k_ => (P0_ k_ ∨ w.heap.size ≤ k_) ∧ some k_ ≠ (.slice Ao16 y290.length co16 : Value).ownBlock ∧ some k_ ≠ (v294 : Value).ownBlock)) (HO_0.out) (fun k_ hk => ⟨hk.1, ⟨hk.2.1, hk.2.2⟩⟩))))) (Reps.none _ _))); intro v299 w24 ho25 hb hg_ hnew_; clear hg_ hnew_; (first | rw [← Ny298.out] at ho25 | (simp only [Int.reduceToNat] at ho25; rw [← Ny298.out] at ho25)); have HO300 := Aside0.mk (Kd.N_lower ho25 (below_size (bl_ HB).out)); replace HO_0 := Aside0.mk (Kd.V_elder' (krV_ HO_0) (Kd.N_base ho25) hb); replace HO_5 := kb_ HO_5 hb; replace HO_6 := kb_ HO_6 hb; replace HB := Aside0.mk (below_step (bl_ HB).out hb); clear hb ho25; obtain ⟨Ao26, co26, eo26⟩ := Kd.N_slice HO300.out; subst eo26) | (go_at_call 12; (with_reducible refine (florinlaw10_bounds.calls k1 _ _ y298 t301 _ ?side1 ?side2 A23.out).mono ?_); (case side1 => repeat (first | exact (Kd.N_reads' HO300.out).2.2 | (with_reducible refine Kd.C_alloc ?_ _) | (with_reducible refine Kd.C_drewN ?_ _) | (with_reducible refine Kd.C_drew ?_))); (case side2 => exact (Kd.N_reads' HO300.out).2.1); rintro e w27 ⟨v302, rfl, ho0, hb⟩; have HO303 := Aside0.mk (Kd.R_lower (Kd.R_newM (M := fun k_ => (w.heap.size ≤ k_)) ho0 (below_size (bl_ HB).out) (fun k_ h_ => h_)) (below_size (bl_ HB).out)); replace HO_0 := Aside0.mk (Kd.V_elder' (krV_ HO_0) (Kd.R_base ho0) hb); replace HO_5 := kb_ HO_5 hb; replace HO_6 := kb_ HO_6 hb; replace HO300 := Aside0.mk (Kd.N_elder' (krN_ HO300) (Kd.R_base ho0) hb); replace HB := Aside0.mk (below_step (bl_ HB).out hb); (try clear hb); (try clear ho0); obtain ⟨Ao28, co28, eo28⟩ := Kd.R_slice HO303.out; subst eo28)))
              go_loopg [43] k1 (fun kq v43 w' => ∃ (x43_2 : Int), v43 = .int .i64 x43_2 ∧ Aside0 (florinlaw10_ClassMakes.l1 kq l0 a1 t293 t301 (t301.length : Int) x43_2 = some r) ∧ Aside0 (kq ≤ k1) ∧ Aside0 (Kd.V k28 28 w' w.heap.size (fun k_ => (P0_ k_ ∨ w.heap.size ≤ k_) ∧ some k_ ≠ (v294 : Value).ownBlock ∧ some k_ ≠ ((.slice Ao28 t301.length co28) : Value).ownBlock) (.slice A0 l0.length c0) l0) ∧ Aside0 (Kd.R k28 28 w' w.heap.size (fun k_ => (w.heap.size ≤ k_)) v294 t293) ∧ Aside0 (Kd.R (Kd.int .i32) 21 w' w.heap.size (fun k_ => (w.heap.size ≤ k_)) (.slice Ao28 t301.length co28) t301) ∧ Aside0 (Below w.heap.size w w'))
              case atStart => exact ⟨(0), eq_, H', ⟨Nat.le_refl _⟩, ⟨by (with_reducible repeat (first | apply Kd.V_alloc | apply Kd.V_drewN | apply Kd.V_drew)); exact Kd.V_mono HO_0.out (fun _ hk => ⟨hk.1.1.1, ⟨hk.1.1.2.2, hk.2⟩⟩)⟩, ⟨by (with_reducible repeat (first | apply Kd.R_alloc | apply Kd.R_drewN | apply Kd.R_drew)); exact Kd.R_mono HO_6.out (fun _ hk => hk.1)⟩, ⟨by (with_reducible repeat (first | apply Kd.R_alloc | apply Kd.R_drewN | apply Kd.R_drew)); exact Kd.R_mono HO303.out (fun _ hk => hk.1)⟩, (bl_ HB)⟩
              case round =>
                clear H'
                try clear c1
                try clear c2
                try clear p2
                try clear q2
                try clear hx2
                try clear c3
                try clear c4
                try clear c6
                try clear p6
                try clear c7
                try clear c18
                try clear c18b0
                try clear c19
                try clear c19b0
                try clear c20
                try clear c20b0
                try clear c21
                try clear c21b0
                try clear c22
                try clear c22b0
                try clear hx296_0
                try clear hx296_1
                try clear hx297_0
                try clear hx297_1
                try clear p2
                try clear p296
                try clear p297
                try clear p6
                try clear q296
                try clear q297
                obtain ⟨x43_2, rfl, HA, HK2, HO_0, HO_6, HO_41, HB⟩ := hrel
                cases gk with
                | zero => exact absurd HA.out (by simp [florinlaw10_ClassMakes.l1])
                | succ k2 =>
                  have H := HA.out
                  clear HA
                  simp only [florinlaw10_ClassMakes.l1] at H
                  by_cases c29 : x43_2 < (t301.length : Int)
                  · rw [if_pos c29] at H
                    have c29b0 : decide (x43_2 < (t301.length : Int)) = true := decide_eq_true c29
                    clear c29
                    by_cases c30 : 0 ≤ x43_2
                    · rw [if_pos c30] at H
                      have c30b0 : decide (0 ≤ x43_2) = true := decide_eq_true c30
                      clear c30
                      by_cases c31 : x43_2 < (t301.length : Int)
                      · rw [if_pos c31] at H
                        have c31b0 : decide (x43_2 < (t301.length : Int)) = true := decide_eq_true c31
                        clear c31
                        replace H := Option.bind_eq_some_iff.mp H
                        obtain ⟨t305, A320, H⟩ := H
                        replace H : ((florinlaw10_in.f k2 l0 (rd t301 x43_2)).bind fun t306 => (if (t305 != t306) = true then (none) else (florinlaw10_ClassMakes.l1 k2 l0 a1 t293 t301 (t301.length : Int) (wrap64 (x43_2 + 1))))) = some r := H
                        have A32 := Aside0.mk A320
                        clear A320
                        replace H := Option.bind_eq_some_iff.mp H
                        obtain ⟨t306, A330, H⟩ := H
                        replace H : (if (t305 != t306) = true then (none) else (florinlaw10_ClassMakes.l1 k2 l0 a1 t293 t301 (t301.length : Int) (wrap64 (x43_2 + 1)))) = some r := H
                        have A33 := Aside0.mk A330
                        clear A330
                        by_cases c34 : (t305 != t306) = true
                        · rw [if_pos c34] at H
                          exact absurd H (by simp)
                        · rw [if_neg c34] at H
                          have c34b0 : (t305 != t306) = false := by simpa using c34
                          (try (have c34b1 : decide (t305 = t306) = true := by simpa using c34))
                          (try (have c34b2 : (t305 == t306) = true := by simpa using c34))
                          (try (have c34b3 : (t305 = t306) = True := eq_true (by simpa using c34)))
                          clear c34
                          have H' := Aside0.mk H
                          clear H
                          have p304 : 0 ≤ (x43_2 : Int) := of_decide_eq_true (by first | (with_reducible assumption) | assumption)
                          have q304 : x43_2 < (t301.length : Int) := of_decide_eq_true (by first | (with_reducible assumption) | assumption)
                          obtain ⟨ad304, e304, hx304_0⟩ := Kd.at_int (Kd.R_reads' HO_41.out).2.2 x43_2 p304 q304
                          cases e304
                          replace p304 := eq_true p304
                          replace q304 := eq_true q304
                          obtain ⟨Ao35, co35, eo35⟩ := Kd.R_slice HO_6.out
                          subst eo35
                          go_wp2_with (first | (go_at_call 13; (with_reducible refine (class_Class_Has.calls _ _ t293 (rd t301 x43_2) t305 _ ?side1 ?side2 A32.out).mono ?_); (case side1 => exact kc_ HO_6); (case side2 => exact kl_ HO_6); rintro e w36 ⟨rfl, hb⟩; replace HO_0 := Aside0.mk (Kd.V_below (krV_ HO_0) hb); replace HO_6 := kb_ HO_6 hb; replace HO_41 := kb_ HO_41 hb; replace HB := Aside0.mk (below_step (bl_ HB).out hb); (try clear hb); (try clear hi)) | (go_at_call 14; (with_reducible refine (florinlaw10_in.calls k2 _ _ l0 (rd t301 x43_2) t306 _ ?side1 ?side2 A33.out).mono ?_); (case side1 => repeat (first | exact (Kd.V_reads' HO_0.out).2.2 | (with_reducible refine Kd.C_alloc ?_ _) | (with_reducible refine Kd.C_drewN ?_ _) | (with_reducible refine Kd.C_drew ?_))); (case side2 => exact (Kd.V_reads' HO_0.out).2.1); rintro e w37 ⟨rfl, hb⟩; replace HO_0 := Aside0.mk (Kd.V_below (krV_ HO_0) hb); replace HO_6 := kb_ HO_6 hb; replace HO_41 := kb_ HO_41 hb; replace HB := Aside0.mk (below_step (bl_ HB).out hb); (try clear hb); (try clear hi)))
                          repeat (go_quiet (first | (go_at_call 13; (with_reducible refine (class_Class_Has.calls _ _ t293 (rd t301 x43_2) t305 _ ?side1 ?side2 A32.out).mono ?_); (case side1 => exact kc_ HO_6); (case side2 => exact kl_ HO_6); rintro e w36 ⟨rfl, hb⟩; replace HO_0 := Aside0.mk (Kd.V_below (krV_ HO_0) hb); replace HO_6 := kb_ HO_6 hb; replace HO_41 := kb_ HO_41 hb; replace HB := Aside0.mk (below_step (bl_ HB).out hb); (try clear hb); (try clear hi)) | (go_at_call 14; (with_reducible refine (florinlaw10_in.calls k2 _ _ l0 (rd t301 x43_2) t306 _ ?side1 ?side2 A33.out).mono ?_); (case side1 => repeat (first | exact (Kd.V_reads' HO_0.out).2.2 | (with_reducible refine Kd.C_alloc ?_ _) | (with_reducible refine Kd.C_drewN ?_ _) | (with_reducible refine Kd.C_drew ?_))); (case side2 => exact (Kd.V_reads' HO_0.out).2.1); rintro e w37 ⟨rfl, hb⟩; replace HO_0 := Aside0.mk (Kd.V_below (krV_ HO_0) hb); replace HO_6 := kb_ HO_6 hb; replace HO_41 := kb_ HO_41 hb; replace HB := Aside0.mk (below_step (bl_ HB).out hb); (try clear hb); (try clear hi))); try go_wp2_with (first | (go_at_call 13; (with_reducible refine (class_Class_Has.calls _ _ t293 (rd t301 x43_2) t305 _ ?side1 ?side2 A32.out).mono ?_); (case side1 => exact kc_ HO_6); (case side2 => exact kl_ HO_6); rintro e w36 ⟨rfl, hb⟩; replace HO_0 := Aside0.mk (Kd.V_below (krV_ HO_0) hb); replace HO_6 := kb_ HO_6 hb; replace HO_41 := kb_ HO_41 hb; replace HB := Aside0.mk (below_step (bl_ HB).out hb); (try clear hb); (try clear hi)) | (go_at_call 14; (with_reducible refine (florinlaw10_in.calls k2 _ _ l0 (rd t301 x43_2) t306 _ ?side1 ?side2 A33.out).mono ?_); (case side1 => repeat (first | exact (Kd.V_reads' HO_0.out).2.2 | (with_reducible refine Kd.C_alloc ?_ _) | (with_reducible refine Kd.C_drewN ?_ _) | (with_reducible refine Kd.C_drew ?_))); (case side2 => exact (Kd.V_reads' HO_0.out).2.1); rintro e w37 ⟨rfl, hb⟩; replace HO_0 := Aside0.mk (Kd.V_below (krV_ HO_0) hb); replace HO_6 := kb_ HO_6 hb; replace HO_41 := kb_ HO_41 hb; replace HB := Aside0.mk (below_step (bl_ HB).out hb); (try clear hb); (try clear hi))))
                          go_roundg k2
                          case measure => have := HK1.out; have := HK2.out; omega
                          case rel => exact ⟨(wrap64 (x43_2 + 1)), eq_, H', ⟨by have := HK1.out; have := HK2.out; omega⟩, ⟨by (with_reducible repeat (first | apply Kd.V_alloc | apply Kd.V_drewN | apply Kd.V_drew)); exact HO_0.out⟩, ⟨by (with_reducible repeat (first | apply Kd.R_alloc | apply Kd.R_drewN | apply Kd.R_drew)); exact HO_6.out⟩, ⟨by (with_reducible repeat (first | apply Kd.R_alloc | apply Kd.R_drewN | apply Kd.R_drew)); exact HO_41.out⟩, (bl_ HB)⟩
                      · rw [if_neg c31] at H
                        exact absurd H (by simp)
                    · rw [if_neg c30] at H
                      exact absurd H (by simp)
                  · rw [if_neg c29] at H
                    have c29b0 : decide (x43_2 < (t301.length : Int)) = false := decide_eq_false c29
                    clear c29
                    obtain ⟨y307, hy307⟩ : ∃ y_ : List (S28), y_ = (([] : List (S28))) := ⟨_, rfl⟩
                    replace H : (florinlaw10_ClassMakes.l2 k2 l0 a1 t293 y307 (mx (l0.length : Int) 1) (l0.length : Int) 0) = some r := by first | (rw [hy307]; with_reducible exact H) | (have H2_ := (Option.bind_some _ _).symm.trans H; rw [hy307]; with_reducible exact H2_) | (have H2_ := (Option.bind_some _ _).symm.trans H; with_reducible exact H2_) | with_reducible exact H | (rw [hy307]; exact H) | exact H
                    have Ny307 := Aside0.mk hy307
                    clear hy307
                    obtain ⟨ji38, hji38⟩ : ∃ j_ : Int, (mx (l0.length : Int) 1) = j_ := ⟨_, rfl⟩
                    replace H : (florinlaw10_ClassMakes.l2 k2 l0 a1 t293 y307 ji38 (l0.length : Int) 0) = some r := by first | (rw [hji38] at H; exact H) | (simp only [hji38] at H ⊢; exact H)
                    have hji38_ : (if (l0.length : Int) < 1 then 1 else (l0.length : Int)) = ji38 := hji38
                    have H' := Aside0.mk H
                    clear H
                    go_wp2_with (first | ((with_reducible refine gate_dst (N := 55) rfl ?_); (try (refine gate_guard (by rfl) ?_; dsimp only)); refine Kd.R_lit k28 _ 28 ?hg (N := 55) ?hd (xs := ([] : List (S28))) (inner := []) (ok := fun _ => True) (okp := fun _ => True) ?hr ?hp (fun _ hk => hk) trivial (Below.refl _ _) (Nat.le_refl _) (by simp) ?_; (case hd => rfl); (case hg => rfl); (case hr => first | (go_simp; done) | (go_simp; rfl)); (case hp => exact (Reps.none _ _)); intro v308 w39 ho40 hb hg_ hnew_; clear hg_ hnew_; (first | rw [← Ny307.out] at ho40 | (simp only [Int.reduceToNat] at ho40; rw [← Ny307.out] at ho40)); have HO309 := Aside0.mk (Kd.R_lower (Kd.R_new' (Kd.R_newM (M := fun k_ => (w.heap.size ≤ k_)) ho40 (below_size (bl_ HB).out) (fun k_ h_ => h_)) (kx_ HO_6)) (below_size (bl_ HB).out)); replace HO_0 := Aside0.mk (Kd.V_elder' (krV_ HO_0) (Kd.R_base ho40) hb); replace HO_6 := ke_ HO_6 ho40 hb; replace HO_41 := kb_ HO_41 hb; replace HB := Aside0.mk (below_step (bl_ HB).out hb); clear hb ho40))
                    repeat (go_quiet (first | ((with_reducible refine gate_dst (N := 55) rfl ?_); (try (refine gate_guard (by rfl) ?_; dsimp only)); refine Kd.R_lit k28 _ 28 ?hg (N := 55) ?hd (xs := ([] : List (S28))) (inner := []) (ok := fun _ => True) (okp := fun _ => True) ?hr ?hp (fun _ hk => hk) trivial (Below.refl _ _) (Nat.le_refl _) (by simp) ?_; (case hd => rfl); (case hg => rfl); (case hr => first | (go_simp; done) | (go_simp; rfl)); (case hp => exact (Reps.none _ _)); intro v308 w39 ho40 hb hg_ hnew_; clear hg_ hnew_; (first | rw [← Ny307.out] at ho40 | (simp only [Int.reduceToNat] at ho40; rw [← Ny307.out] at ho40)); have HO309 := Aside0.mk (Kd.R_lower (Kd.R_new' (Kd.R_newM (M := fun k_ => (w.heap.size ≤ k_)) ho40 (below_size (bl_ HB).out) (fun k_ h_ => h_)) (kx_ HO_6)) (below_size (bl_ HB).out)); replace HO_0 := Aside0.mk (Kd.V_elder' (krV_ HO_0) (Kd.R_base ho40) hb); replace HO_6 := ke_ HO_6 ho40 hb; replace HO_41 := kb_ HO_41 hb; replace HB := Aside0.mk (below_step (bl_ HB).out hb); clear hb ho40)); try go_wp2_with (first | ((with_reducible refine gate_dst (N := 55) rfl ?_); (try (refine gate_guard (by rfl) ?_; dsimp only)); refine Kd.R_lit k28 _ 28 ?hg (N := 55) ?hd (xs := ([] : List (S28))) (inner := []) (ok := fun _ => True) (okp := fun _ => True) ?hr ?hp (fun _ hk => hk) trivial (Below.refl _ _) (Nat.le_refl _) (by simp) ?_; (case hd => rfl); (case hg => rfl); (case hr => first | (go_simp; done) | (go_simp; rfl)); (case hp => exact (Reps.none _ _)); intro v308 w39 ho40 hb hg_ hnew_; clear hg_ hnew_; (first | rw [← Ny307.out] at ho40 | (simp only [Int.reduceToNat] at ho40; rw [← Ny307.out] at ho40)); have HO309 := Aside0.mk (Kd.R_lower (Kd.R_new' (Kd.R_newM (M := fun k_ => (w.heap.size ≤ k_)) ho40 (below_size (bl_ HB).out) (fun k_ h_ => h_)) (kx_ HO_6)) (below_size (bl_ HB).out)); replace HO_0 := Aside0.mk (Kd.V_elder' (krV_ HO_0) (Kd.R_base ho40) hb); replace HO_6 := ke_ HO_6 ho40 hb; replace HO_41 := kb_ HO_41 hb; replace HB := Aside0.mk (below_step (bl_ HB).out hb); clear hb ho40)))
                    go_loopg [10, 61] k2 (fun kq v10 v61 w' => ∃ (x10_3 : List (S28)) (x61_3 : Int), v61 = .int .i64 x61_3 ∧ Aside0 (florinlaw10_ClassMakes.l2 kq l0 a1 t293 x10_3 ji38 (l0.length : Int) x61_3 = some r) ∧ Aside0 (kq ≤ k2) ∧ Aside0 (Kd.V k28 28 w' w.heap.size (fun k_ => (P0_ k_ ∨ w.heap.size ≤ k_) ∧ some k_ ≠ (v294 : Value).ownBlock ∧ some k_ ≠ (v10 : Value).ownBlock) (.slice A0 l0.length c0) l0) ∧ Aside0 (Kd.R k28 28 w' w.heap.size (fun k_ => (w.heap.size ≤ k_) ∧ some k_ ≠ (v10 : Value).ownBlock) v294 t293) ∧ Aside0 (Kd.R k28 28 w' w.heap.size (fun k_ => (w.heap.size ≤ k_) ∧ some k_ ≠ (v294 : Value).ownBlock) v10 x10_3) ∧ Aside0 (Below w.heap.size w w'))
                    case atStart => exact ⟨(y307), (0), eq_, H', ⟨Nat.le_refl _⟩, ⟨by (with_reducible repeat (first | apply Kd.V_alloc | apply Kd.V_drewN | apply Kd.V_drew)); exact Kd.V_mono HO_0.out (fun _ hk => ⟨hk.1.1, ⟨hk.1.2.1, hk.2⟩⟩)⟩, ⟨by (with_reducible repeat (first | apply Kd.R_alloc | apply Kd.R_drewN | apply Kd.R_drew)); exact HO_6.out⟩, ⟨by (with_reducible repeat (first | apply Kd.R_alloc | apply Kd.R_drewN | apply Kd.R_drew)); exact Kd.R_mono HO309.out (fun _ hk => ⟨hk.1.1, hk.2⟩)⟩, (bl_ HB)⟩
                    case round =>
                      clear H'
                      try clear c1
                      try clear c2
                      try clear p2
                      try clear q2
                      try clear hx2
                      try clear c3
                      try clear p3
                      try clear q3
                      try clear hx3
                      try clear c4
                      try clear c6
                      try clear p6
                      try clear c7
                      try clear c18
                      try clear c18b0
                      try clear c19
                      try clear c19b0
                      try clear c20
                      try clear c20b0
                      try clear c21
                      try clear c21b0
                      try clear c22
                      try clear c22b0
                      try clear c29
                      try clear c29b0
                      try clear p29
                      try clear q29
                      try clear hx29
                      try clear c30
                      try clear c30b0
                      try clear p30
                      try clear q30
                      try clear hx30
                      try clear c31
                      try clear c31b0
                      try clear c34
                      try clear c34b0
                      try clear c34b1
                      try clear c34b2
                      try clear hx296_0
                      try clear hx296_1
                      try clear hx297_0
                      try clear hx297_1
                      try clear hx304_0
                      try clear p2
                      try clear p296
                      try clear p297
                      try clear p304
                      try clear p6
                      try clear q2
                      try clear q296
                      try clear q297
                      try clear q304
                      obtain ⟨x10_3, x61_3, rfl, HA, HK3, HO_0, HO_6, HO_10, HB⟩ := hrel
                      cases gk with
                      | zero => exact absurd HA.out (by simp [florinlaw10_ClassMakes.l2])
                      | succ k3 =>
                        have H := HA.out
                        clear HA
                        simp only [florinlaw10_ClassMakes.l2] at H
                        by_cases c41 : x61_3 < (l0.length : Int)
                        · rw [if_pos c41] at H
                          have c41b0 : decide (x61_3 < (l0.length : Int)) = true := decide_eq_true c41
                          clear c41
                          by_cases c42 : ji38 = 0
                          · rw [if_pos c42] at H
                            exact absurd H (by simp)
                          · rw [if_neg c42] at H
                            have c42b0 : (ji38 == 0) = false := beq_eq_false_iff_ne.mpr c42
                            have c42b1 : (ji38 != 0) = true := bne_iff_ne.mpr c42
                            obtain ⟨ji43, hji43⟩ : ∃ j_ : Int, (Int.tmod (wrap64 (x61_3 + (Go.bits .and .i64 a1 65535))) ji38) = j_ := ⟨_, rfl⟩
                            replace H : (if 0 ≤ (ji43) then (if (ji43) < (l0.length : Int) then (if x10_3.length < 17592186044416 then (florinlaw10_ClassMakes.l2 k3 l0 a1 t293 (x10_3 ++ [(⟨(rd_T28 l0 (ji43)).f0, (rd_T28 l0 (ji43)).f1⟩ : S28)]) ji38 (l0.length : Int) (wrap64 (x61_3 + 1))) else (none)) else (none)) else (none)) = some r := by first | (rw [hji43] at H; exact H) | (simp only [hji43] at H ⊢; exact H)
                            by_cases c44 : 0 ≤ (ji43)
                            · rw [if_pos c44] at H
                              have c44b0 : decide (0 ≤ (ji43)) = true := decide_eq_true c44
                              clear c44
                              by_cases c45 : (ji43) < (l0.length : Int)
                              · rw [if_pos c45] at H
                                have c45b0 : decide ((ji43) < (l0.length : Int)) = true := decide_eq_true c45
                                clear c45
                                by_cases c46 : x10_3.length < 17592186044416
                                · rw [if_pos c46] at H
                                  have LMc46 := Aside0.mk c46
                                  clear c46
                                  obtain ⟨y311, hy311⟩ : ∃ y_ : List (S28), y_ = (x10_3 ++ [(⟨(rd_T28 l0 (ji43)).f0, (rd_T28 l0 (ji43)).f1⟩ : S28)]) := ⟨_, rfl⟩
                                  replace H : (florinlaw10_ClassMakes.l2 k3 l0 a1 t293 y311 ji38 (l0.length : Int) (wrap64 (x61_3 + 1))) = some r := by first | (rw [hy311]; with_reducible exact H) | (have H2_ := (Option.bind_some _ _).symm.trans H; rw [hy311]; with_reducible exact H2_) | (have H2_ := (Option.bind_some _ _).symm.trans H; with_reducible exact H2_) | with_reducible exact H | (rw [hy311]; exact H) | exact H
                                  have Ny311 := Aside0.mk hy311
                                  clear hy311
                                  have H' := Aside0.mk H
                                  clear H
                                  have p310 : 0 ≤ ((ji43) : Int) := of_decide_eq_true (by first | (with_reducible assumption) | assumption)
                                  have q310 : (ji43) < (l0.length : Int) := of_decide_eq_true (by first | (with_reducible assumption) | assumption)
                                  obtain ⟨ad310, e310, hx310_0, hx310_1⟩ := at_T28 (Kd.V_reads' HO_0.out).2.2 (ji43) p310 q310
                                  cases e310
                                  replace p310 := eq_true p310
                                  replace q310 := eq_true q310
                                  go_wp2_with (first | ((with_reducible refine gate_builtin (b := .append) (xs := #[.tmp 64, .tmp 74]) rfl ?_); (try (refine gate_guard (by rfl) ?_; dsimp only)); at_builtin; refine Kd.R_append k28 (w0 := w) w.heap.size rfl (.tmp 64) (.tmp 74) 22 28 (.agg #[(.int .i32 0), (.int .i32 0)]) 8 rfl Tryz.underlying22 info28 rfl (by decide) (by omega) u10 x10_3 (⟨(rd_T28 l0 (ji43)).f0, (rd_T28 l0 (ji43)).f1⟩ : S28) [.int .i32 ((rd_T28 l0 (ji43)).f0), .int .i32 ((rd_T28 l0 (ji43)).f1)] (fun k_ => (w.heap.size ≤ k_) ∧ some k_ ≠ (v294 : Value).ownBlock) (fun _ => False) rfl rfl ?aP (fun _ hk => hk.elim) ?aF ?aO ?aB ?aS ?aL ?_; (case aP => exact k28_mkM _ _ _ (⟨(rd_T28 l0 (ji43)).f0, (rd_T28 l0 (ji43)).f1⟩ : S28)); (case aB => exact (bl_ HB).out); (case aF => exact (fun k_ hk => ⟨(Nat.le_trans (below_size (bl_ HB).out) hk), Kd.fresh' (kx_ HO_6) k_ hk⟩)); (case aO => exact (kr_ HO_10)); (case aS => exact (below_size (bl_ HB).out)); (case aL => have := LMc46.out; omega); intro v312 w47 ho hb hg hat; rw [← Ny311.out] at ho; have n0_ := Aside0.mk (Kd.V_afterv (ok := (fun k_ => (P0_ k_ ∨ w.heap.size ≤ k_) ∧ some k_ ≠ (v294 : Value).ownBlock)) (by (with_reducible repeat (first | apply Kd.V_alloc | apply Kd.V_drewN | apply Kd.V_drew)); exact Kd.V_mono HO_0.out (fun _ hk => ⟨⟨hk.1, hk.2.1⟩, hk.2.2⟩)) hg hat); have n1_ := Aside0.mk (Kd.R_after (ok := (fun k_ => (w.heap.size ≤ k_))) (kr_ HO_6) hg hat); have n2_ := Aside0.mk (hb); have n3_ := Aside0.mk (ho); clear HO_0; clear HO_6; clear HB; clear HO_10; have HO_0 := n0_; have HO_6 := n1_; have HB := n2_; have HO313 := n3_; clear n0_ n1_ n2_ n3_; clear ho hb hg hat))
                                  repeat (go_quiet (first | ((with_reducible refine gate_builtin (b := .append) (xs := #[.tmp 64, .tmp 74]) rfl ?_); (try (refine gate_guard (by rfl) ?_; dsimp only)); at_builtin; refine Kd.R_append k28 (w0 := w) w.heap.size rfl (.tmp 64) (.tmp 74) 22 28 (.agg #[(.int .i32 0), (.int .i32 0)]) 8 rfl Tryz.underlying22 info28 rfl (by decide) (by omega) u10 x10_3 (⟨(rd_T28 l0 (ji43)).f0, (rd_T28 l0 (ji43)).f1⟩ : S28) [.int .i32 ((rd_T28 l0 (ji43)).f0), .int .i32 ((rd_T28 l0 (ji43)).f1)] (fun k_ => (w.heap.size ≤ k_) ∧ some k_ ≠ (v294 : Value).ownBlock) (fun _ => False) rfl rfl ?aP (fun _ hk => hk.elim) ?aF ?aO ?aB ?aS ?aL ?_; (case aP => exact k28_mkM _ _ _ (⟨(rd_T28 l0 (ji43)).f0, (rd_T28 l0 (ji43)).f1⟩ : S28)); (case aB => exact (bl_ HB).out); (case aF => exact (fun k_ hk => ⟨(Nat.le_trans (below_size (bl_ HB).out) hk), Kd.fresh' (kx_ HO_6) k_ hk⟩)); (case aO => exact (kr_ HO_10)); (case aS => exact (below_size (bl_ HB).out)); (case aL => have := LMc46.out; omega); intro v312 w47 ho hb hg hat; rw [← Ny311.out] at ho; have n0_ := Aside0.mk (Kd.V_afterv (ok := (fun k_ => (P0_ k_ ∨ w.heap.size ≤ k_) ∧ some k_ ≠ (v294 : Value).ownBlock)) (by (with_reducible repeat (first | apply Kd.V_alloc | apply Kd.V_drewN | apply Kd.V_drew)); exact Kd.V_mono HO_0.out (fun _ hk => ⟨⟨hk.1, hk.2.1⟩, hk.2.2⟩)) hg hat); have n1_ := Aside0.mk (Kd.R_after (ok := (fun k_ => (w.heap.size ≤ k_))) (kr_ HO_6) hg hat); have n2_ := Aside0.mk (hb); have n3_ := Aside0.mk (ho); clear HO_0; clear HO_6; clear HB; clear HO_10; have HO_0 := n0_; have HO_6 := n1_; have HB := n2_; have HO313 := n3_; clear n0_ n1_ n2_ n3_; clear ho hb hg hat)); try go_wp2_with (first | ((with_reducible refine gate_builtin (b := .append) (xs := #[.tmp 64, .tmp 74]) rfl ?_); (try (refine gate_guard (by rfl) ?_; dsimp only)); at_builtin; refine Kd.R_append k28 (w0 := w) w.heap.size rfl (.tmp 64) (.tmp 74) 22 28 (.agg #[(.int .i32 0), (.int .i32 0)]) 8 rfl Tryz.underlying22 info28 rfl (by decide) (by omega) u10 x10_3 (⟨(rd_T28 l0 (ji43)).f0, (rd_T28 l0 (ji43)).f1⟩ : S28) [.int .i32 ((rd_T28 l0 (ji43)).f0), .int .i32 ((rd_T28 l0 (ji43)).f1)] (fun k_ => (w.heap.size ≤ k_) ∧ some k_ ≠ (v294 : Value).ownBlock) (fun _ => False) rfl rfl ?aP (fun _ hk => hk.elim) ?aF ?aO ?aB ?aS ?aL ?_; (case aP => exact k28_mkM _ _ _ (⟨(rd_T28 l0 (ji43)).f0, (rd_T28 l0 (ji43)).f1⟩ : S28)); (case aB => exact (bl_ HB).out); (case aF => exact (fun k_ hk => ⟨(Nat.le_trans (below_size (bl_ HB).out) hk), Kd.fresh' (kx_ HO_6) k_ hk⟩)); (case aO => exact (kr_ HO_10)); (case aS => exact (below_size (bl_ HB).out)); (case aL => have := LMc46.out; omega); intro v312 w47 ho hb hg hat; rw [← Ny311.out] at ho; have n0_ := Aside0.mk (Kd.V_afterv (ok := (fun k_ => (P0_ k_ ∨ w.heap.size ≤ k_) ∧ some k_ ≠ (v294 : Value).ownBlock)) (by (with_reducible repeat (first | apply Kd.V_alloc | apply Kd.V_drewN | apply Kd.V_drew)); exact Kd.V_mono HO_0.out (fun _ hk => ⟨⟨hk.1, hk.2.1⟩, hk.2.2⟩)) hg hat); have n1_ := Aside0.mk (Kd.R_after (ok := (fun k_ => (w.heap.size ≤ k_))) (kr_ HO_6) hg hat); have n2_ := Aside0.mk (hb); have n3_ := Aside0.mk (ho); clear HO_0; clear HO_6; clear HB; clear HO_10; have HO_0 := n0_; have HO_6 := n1_; have HB := n2_; have HO313 := n3_; clear n0_ n1_ n2_ n3_; clear ho hb hg hat)))
                                  go_roundg k3
                                  case measure => have := HK1.out; have := HK2.out; have := HK3.out; omega
                                  case rel => exact ⟨(y311), (wrap64 (x61_3 + 1)), eq_, H', ⟨by have := HK1.out; have := HK2.out; have := HK3.out; omega⟩, ⟨by (with_reducible repeat (first | apply Kd.V_alloc | apply Kd.V_drewN | apply Kd.V_drew)); exact Kd.V_mono HO_0.out (fun _ hk => ⟨hk.1.1, ⟨hk.1.2, hk.2⟩⟩)⟩, ⟨by (with_reducible repeat (first | apply Kd.R_alloc | apply Kd.R_drewN | apply Kd.R_drew)); exact HO_6.out⟩, ⟨by (with_reducible repeat (first | apply Kd.R_alloc | apply Kd.R_drewN | apply Kd.R_drew)); exact HO313.out⟩, (bl_ HB)⟩
                                · rw [if_neg c46] at H
                                  exact absurd H (by simp)
                              · rw [if_neg c45] at H
                                exact absurd H (by simp)
                            · rw [if_neg c44] at H
                              exact absurd H (by simp)
                        · rw [if_neg c41] at H
                          have c41b0 : decide (x61_3 < (l0.length : Int)) = false := decide_eq_false c41
                          clear c41
                          replace H := Option.bind_eq_some_iff.mp H
                          obtain ⟨t314, A480, H⟩ := H
                          replace H : (if t314 = true then ((class_Made.f k3 x10_3).bind fun t315 => ((class_Class_Same.f k3 t315 t293).bind fun t318 => (if t318 = true then ((class_Made.f k3 t293).bind fun t319 => ((class_Class_Same.f k3 t319 t293).bind fun t322 => (if t322 = true then ((class_Made.f k3 ([] : List (S28))).bind fun t323 => (some ((t323.length : Int) == 0))) else (none)))) else (none)))) else (none)) = some r := H
                          have A48 := Aside0.mk A480
                          clear A480
                          by_cases c49 : t314 = true
                          · subst c49
                            have H1 : ((class_Made.f k3 x10_3).bind fun t315 => ((class_Class_Same.f k3 t315 t293).bind fun t318 => (if t318 = true then ((class_Made.f k3 t293).bind fun t319 => ((class_Class_Same.f k3 t319 t293).bind fun t322 => (if t322 = true then ((class_Made.f k3 ([] : List (S28))).bind fun t323 => (some ((t323.length : Int) == 0))) else (none)))) else (none)))) = some r := by rw [if_pos rfl] at H; exact H
                            clear H
                            have H := H1
                            clear H1
                            replace H := Option.bind_eq_some_iff.mp H
                            obtain ⟨t315, A500, H⟩ := H
                            replace H : ((class_Class_Same.f k3 t315 t293).bind fun t318 => (if t318 = true then ((class_Made.f k3 t293).bind fun t319 => ((class_Class_Same.f k3 t319 t293).bind fun t322 => (if t322 = true then ((class_Made.f k3 ([] : List (S28))).bind fun t323 => (some ((t323.length : Int) == 0))) else (none)))) else (none))) = some r := H
                            have A50 := Aside0.mk A500
                            clear A500
                            replace H := Option.bind_eq_some_iff.mp H
                            obtain ⟨t318, A510, H⟩ := H
                            replace H : (if t318 = true then ((class_Made.f k3 t293).bind fun t319 => ((class_Class_Same.f k3 t319 t293).bind fun t322 => (if t322 = true then ((class_Made.f k3 ([] : List (S28))).bind fun t323 => (some ((t323.length : Int) == 0))) else (none)))) else (none)) = some r := H
                            have A51 := Aside0.mk A510
                            clear A510
                            by_cases c52 : t318 = true
                            · subst c52
                              have H1 : ((class_Made.f k3 t293).bind fun t319 => ((class_Class_Same.f k3 t319 t293).bind fun t322 => (if t322 = true then ((class_Made.f k3 ([] : List (S28))).bind fun t323 => (some ((t323.length : Int) == 0))) else (none)))) = some r := by rw [if_pos rfl] at H; exact H
                              clear H
                              have H := H1
                              clear H1
                              replace H := Option.bind_eq_some_iff.mp H
                              obtain ⟨t319, A530, H⟩ := H
                              replace H : ((class_Class_Same.f k3 t319 t293).bind fun t322 => (if t322 = true then ((class_Made.f k3 ([] : List (S28))).bind fun t323 => (some ((t323.length : Int) == 0))) else (none))) = some r := H
                              have A53 := Aside0.mk A530
                              clear A530
                              replace H := Option.bind_eq_some_iff.mp H
                              obtain ⟨t322, A540, H⟩ := H
                              replace H : (if t322 = true then ((class_Made.f k3 ([] : List (S28))).bind fun t323 => (some ((t323.length : Int) == 0))) else (none)) = some r := H
                              have A54 := Aside0.mk A540
                              clear A540
                              by_cases c55 : t322 = true
                              · subst c55
                                have H1 : ((class_Made.f k3 ([] : List (S28))).bind fun t323 => (some ((t323.length : Int) == 0))) = some r := by rw [if_pos rfl] at H; exact H
                                clear H
                                have H := H1
                                clear H1
                                replace H := Option.bind_eq_some_iff.mp H
                                obtain ⟨t323, A560, H⟩ := H
                                replace H : (some ((t323.length : Int) == 0)) = some r := H
                                have A56 := Aside0.mk A560
                                clear A560
                                obtain rfl := Option.some.inj H
                                obtain ⟨Ao57, co57, eo57⟩ := Kd.R_slice HO_6.out
                                subst eo57
                                have hn0_ := Aside0.mk (fun w_ => (show Calls Tryz.prog 11 #[.slice none 0 0] w_ _ from class_Made.calls k3 none 0 ([] : List (S28)) t323 w_ (Kd.C_nil _ _) (Nat.le_refl _) A56.out))
                                go_wp2_with (first | (go_at_call 15; (with_reducible refine (florinlaw10_settled.calls k3 _ _ t293 true _ ?side1 ?side2 A48.out).mono ?_); (case side1 => exact kc_ HO_6); (case side2 => exact kl_ HO_6); rintro e w58 ⟨rfl, hb⟩; replace HO_0 := Aside0.mk (Kd.V_below (krV_ HO_0) hb); replace HO_6 := kb_ HO_6 hb; replace HO_10 := kb_ HO_10 hb; replace HB := Aside0.mk (below_step (bl_ HB).out hb); (try clear hb); obtain ⟨Ao59, co59, eo59⟩ := Kd.R_slice HO_10.out; subst eo59) | (go_at_call 11; (with_reducible refine (class_Made.calls k3 _ _ x10_3 t315 _ ?side1 ?side2 A50.out).mono ?_); (case side1 => exact kc_ HO_10); (case side2 => exact kl_ HO_10); rintro e w60 ⟨v316, rfl, ho0, hb⟩; have HO317 := Aside0.mk (Kd.R_lower (Kd.R_new' (Kd.R_new' (Kd.R_newM (M := fun k_ => (w.heap.size ≤ k_)) ho0 (below_size (bl_ HB).out) (fun k_ h_ => h_)) (kx_ HO_6)) (kx_ HO_10)) (below_size (bl_ HB).out)); replace HO_0 := Aside0.mk (Kd.V_elder' (krV_ HO_0) (Kd.R_base ho0) hb); replace HO_6 := ke_ HO_6 ho0 hb; replace HO_10 := ke_ HO_10 ho0 hb; replace HB := Aside0.mk (below_step (bl_ HB).out hb); (try clear hb); (try clear ho0); obtain ⟨Ao61, co61, eo61⟩ := Kd.R_slice HO317.out; subst eo61) | (go_at_call 16; (with_reducible refine (class_Class_Same.calls k3 _ _ t315 _ _ t293 true _ ?side1 ?side2 ?side3 ?side4 A51.out).mono ?_); (case side1 => exact kc_ HO317); (case side2 => exact kl_ HO317); (case side3 => exact kc_ HO_6); (case side4 => exact kl_ HO_6); rintro e w' ⟨rfl, ⟨nd, rfl⟩⟩; (try first | exact ⟨rfl, _, World.drewN_drewN _ _ _⟩ | exact ⟨rfl, _, Eq.trans (World.drewN_drewN _ _ _) (congrArg (World.drewN _) (Nat.add_assoc _ _ _))⟩)) | (go_at_call 11; (with_reducible refine (class_Made.calls k3 _ _ t293 t319 _ ?side1 ?side2 A53.out).mono ?_); (case side1 => exact kc_ HO_6); (case side2 => exact kl_ HO_6); rintro e w62 ⟨v320, rfl, ho0, hb⟩; have HO321 := Aside0.mk (Kd.R_lower (Kd.R_new' (Kd.R_new' (Kd.R_new' (Kd.R_newM (M := fun k_ => (w.heap.size ≤ k_)) ho0 (below_size (bl_ HB).out) (fun k_ h_ => h_)) (kx_ HO_6)) (kx_ HO_10)) (kx_ HO317)) (below_size (bl_ HB).out)); replace HO_0 := Aside0.mk (Kd.V_elder' (krV_ HO_0) (Kd.R_base ho0) hb); replace HO_6 := ke_ HO_6 ho0 hb; replace HO_10 := ke_ HO_10 ho0 hb; replace HO317 := ke_ HO317 ho0 hb; replace HB := Aside0.mk (below_step (bl_ HB).out hb); (try clear hb); (try clear ho0); obtain ⟨Ao63, co63, eo63⟩ := Kd.R_slice HO321.out; subst eo63) | (go_at_call 16; (with_reducible refine (class_Class_Same.calls k3 _ _ t319 _ _ t293 true _ ?side1 ?side2 ?side3 ?side4 A54.out).mono ?_); (case side1 => exact kc_ HO321); (case side2 => exact kl_ HO321); (case side3 => exact kc_ HO_6); (case side4 => exact kl_ HO_6); rintro e w' ⟨rfl, ⟨nd, rfl⟩⟩; (try first | exact ⟨rfl, _, World.drewN_drewN _ _ _⟩ | exact ⟨rfl, _, Eq.trans (World.drewN_drewN _ _ _) (congrArg (World.drewN _) (Nat.add_assoc _ _ _))⟩)) | (go_at_call 11; (with_reducible refine (hn0_.out _).mono ?_); rintro e w64 ⟨v324, rfl, ho0, hb⟩; have HO325 := Aside0.mk (Kd.R_lower (Kd.R_new' (Kd.R_new' (Kd.R_new' (Kd.R_new' (Kd.R_newM (M := fun k_ => (w.heap.size ≤ k_)) ho0 (below_size (bl_ HB).out) (fun k_ h_ => h_)) (kx_ HO_6)) (kx_ HO_10)) (kx_ HO317)) (kx_ HO321)) (below_size (bl_ HB).out)); replace HO_0 := Aside0.mk (Kd.V_elder' (krV_ HO_0) (Kd.R_base ho0) hb); replace HO_6 := ke_ HO_6 ho0 hb; replace HO_10 := ke_ HO_10 ho0 hb; replace HO317 := ke_ HO317 ho0 hb; replace HO321 := ke_ HO321 ho0 hb; replace HB := Aside0.mk (below_step (bl_ HB).out hb); (try clear hb); (try clear ho0); obtain ⟨Ao65, co65, eo65⟩ := Kd.R_slice HO325.out; subst eo65))
                                repeat (go_quiet (first | (go_at_call 15; (with_reducible refine (florinlaw10_settled.calls k3 _ _ t293 true _ ?side1 ?side2 A48.out).mono ?_); (case side1 => exact kc_ HO_6); (case side2 => exact kl_ HO_6); rintro e w58 ⟨rfl, hb⟩; replace HO_0 := Aside0.mk (Kd.V_below (krV_ HO_0) hb); replace HO_6 := kb_ HO_6 hb; replace HO_10 := kb_ HO_10 hb; replace HB := Aside0.mk (below_step (bl_ HB).out hb); (try clear hb); obtain ⟨Ao59, co59, eo59⟩ := Kd.R_slice HO_10.out; subst eo59) | (go_at_call 11; (with_reducible refine (class_Made.calls k3 _ _ x10_3 t315 _ ?side1 ?side2 A50.out).mono ?_); (case side1 => exact kc_ HO_10); (case side2 => exact kl_ HO_10); rintro e w60 ⟨v316, rfl, ho0, hb⟩; have HO317 := Aside0.mk (Kd.R_lower (Kd.R_new' (Kd.R_new' (Kd.R_newM (M := fun k_ => (w.heap.size ≤ k_)) ho0 (below_size (bl_ HB).out) (fun k_ h_ => h_)) (kx_ HO_6)) (kx_ HO_10)) (below_size (bl_ HB).out)); replace HO_0 := Aside0.mk (Kd.V_elder' (krV_ HO_0) (Kd.R_base ho0) hb); replace HO_6 := ke_ HO_6 ho0 hb; replace HO_10 := ke_ HO_10 ho0 hb; replace HB := Aside0.mk (below_step (bl_ HB).out hb); (try clear hb); (try clear ho0); obtain ⟨Ao61, co61, eo61⟩ := Kd.R_slice HO317.out; subst eo61) | (go_at_call 16; (with_reducible refine (class_Class_Same.calls k3 _ _ t315 _ _ t293 true _ ?side1 ?side2 ?side3 ?side4 A51.out).mono ?_); (case side1 => exact kc_ HO317); (case side2 => exact kl_ HO317); (case side3 => exact kc_ HO_6); (case side4 => exact kl_ HO_6); rintro e w' ⟨rfl, ⟨nd, rfl⟩⟩; (try first | exact ⟨rfl, _, World.drewN_drewN _ _ _⟩ | exact ⟨rfl, _, Eq.trans (World.drewN_drewN _ _ _) (congrArg (World.drewN _) (Nat.add_assoc _ _ _))⟩)) | (go_at_call 11; (with_reducible refine (class_Made.calls k3 _ _ t293 t319 _ ?side1 ?side2 A53.out).mono ?_); (case side1 => exact kc_ HO_6); (case side2 => exact kl_ HO_6); rintro e w62 ⟨v320, rfl, ho0, hb⟩; have HO321 := Aside0.mk (Kd.R_lower (Kd.R_new' (Kd.R_new' (Kd.R_new' (Kd.R_newM (M := fun k_ => (w.heap.size ≤ k_)) ho0 (below_size (bl_ HB).out) (fun k_ h_ => h_)) (kx_ HO_6)) (kx_ HO_10)) (kx_ HO317)) (below_size (bl_ HB).out)); replace HO_0 := Aside0.mk (Kd.V_elder' (krV_ HO_0) (Kd.R_base ho0) hb); replace HO_6 := ke_ HO_6 ho0 hb; replace HO_10 := ke_ HO_10 ho0 hb; replace HO317 := ke_ HO317 ho0 hb; replace HB := Aside0.mk (below_step (bl_ HB).out hb); (try clear hb); (try clear ho0); obtain ⟨Ao63, co63, eo63⟩ := Kd.R_slice HO321.out; subst eo63) | (go_at_call 16; (with_reducible refine (class_Class_Same.calls k3 _ _ t319 _ _ t293 true _ ?side1 ?side2 ?side3 ?side4 A54.out).mono ?_); (case side1 => exact kc_ HO321); (case side2 => exact kl_ HO321); (case side3 => exact kc_ HO_6); (case side4 => exact kl_ HO_6); rintro e w' ⟨rfl, ⟨nd, rfl⟩⟩; (try first | exact ⟨rfl, _, World.drewN_drewN _ _ _⟩ | exact ⟨rfl, _, Eq.trans (World.drewN_drewN _ _ _) (congrArg (World.drewN _) (Nat.add_assoc _ _ _))⟩)) | (go_at_call 11; (refine (class_Made.calls k3 _ _ ([] : List (S28)) t323 _ ?side1 ?side2 A56.out).mono ?_); (case side1 => exact Kd.C_nil _ _); (case side2 => exact Nat.le_refl _); rintro e w64 ⟨v324, rfl, ho0, hb⟩; have HO325 := Aside0.mk (Kd.R_lower (Kd.R_new' (Kd.R_new' (Kd.R_new' (Kd.R_new' (Kd.R_newM (M := fun k_ => (w.heap.size ≤ k_)) ho0 (below_size (bl_ HB).out) (fun k_ h_ => h_)) (kx_ HO_6)) (kx_ HO_10)) (kx_ HO317)) (kx_ HO321)) (below_size (bl_ HB).out)); replace HO_0 := Aside0.mk (Kd.V_elder' (krV_ HO_0) (Kd.R_base ho0) hb); replace HO_6 := ke_ HO_6 ho0 hb; replace HO_10 := ke_ HO_10 ho0 hb; replace HO317 := ke_ HO317 ho0 hb; replace HO321 := ke_ HO321 ho0 hb; replace HB := Aside0.mk (below_step (bl_ HB).out hb); (try clear hb); (try clear ho0); obtain ⟨Ao65, co65, eo65⟩ := Kd.R_slice HO325.out; subst eo65)); try go_wp2_with (first | (go_at_call 15; (with_reducible refine (florinlaw10_settled.calls k3 _ _ t293 true _ ?side1 ?side2 A48.out).mono ?_); (case side1 => exact kc_ HO_6); (case side2 => exact kl_ HO_6); rintro e w58 ⟨rfl, hb⟩; replace HO_0 := Aside0.mk (Kd.V_below (krV_ HO_0) hb); replace HO_6 := kb_ HO_6 hb; replace HO_10 := kb_ HO_10 hb; replace HB := Aside0.mk (below_step (bl_ HB).out hb); (try clear hb); obtain ⟨Ao59, co59, eo59⟩ := Kd.R_slice HO_10.out; subst eo59) | (go_at_call 11; (with_reducible refine (class_Made.calls k3 _ _ x10_3 t315 _ ?side1 ?side2 A50.out).mono ?_); (case side1 => exact kc_ HO_10); (case side2 => exact kl_ HO_10); rintro e w60 ⟨v316, rfl, ho0, hb⟩; have HO317 := Aside0.mk (Kd.R_lower (Kd.R_new' (Kd.R_new' (Kd.R_newM (M := fun k_ => (w.heap.size ≤ k_)) ho0 (below_size (bl_ HB).out) (fun k_ h_ => h_)) (kx_ HO_6)) (kx_ HO_10)) (below_size (bl_ HB).out)); replace HO_0 := Aside0.mk (Kd.V_elder' (krV_ HO_0) (Kd.R_base ho0) hb); replace HO_6 := ke_ HO_6 ho0 hb; replace HO_10 := ke_ HO_10 ho0 hb; replace HB := Aside0.mk (below_step (bl_ HB).out hb); (try clear hb); (try clear ho0); obtain ⟨Ao61, co61, eo61⟩ := Kd.R_slice HO317.out; subst eo61) | (go_at_call 16; (with_reducible refine (class_Class_Same.calls k3 _ _ t315 _ _ t293 true _ ?side1 ?side2 ?side3 ?side4 A51.out).mono ?_); (case side1 => exact kc_ HO317); (case side2 => exact kl_ HO317); (case side3 => exact kc_ HO_6); (case side4 => exact kl_ HO_6); rintro e w' ⟨rfl, ⟨nd, rfl⟩⟩; (try first | exact ⟨rfl, _, World.drewN_drewN _ _ _⟩ | exact ⟨rfl, _, Eq.trans (World.drewN_drewN _ _ _) (congrArg (World.drewN _) (Nat.add_assoc _ _ _))⟩)) | (go_at_call 11; (with_reducible refine (class_Made.calls k3 _ _ t293 t319 _ ?side1 ?side2 A53.out).mono ?_); (case side1 => exact kc_ HO_6); (case side2 => exact kl_ HO_6); rintro e w62 ⟨v320, rfl, ho0, hb⟩; have HO321 := Aside0.mk (Kd.R_lower (Kd.R_new' (Kd.R_new' (Kd.R_new' (Kd.R_newM (M := fun k_ => (w.heap.size ≤ k_)) ho0 (below_size (bl_ HB).out) (fun k_ h_ => h_)) (kx_ HO_6)) (kx_ HO_10)) (kx_ HO317)) (below_size (bl_ HB).out)); replace HO_0 := Aside0.mk (Kd.V_elder' (krV_ HO_0) (Kd.R_base ho0) hb); replace HO_6 := ke_ HO_6 ho0 hb; replace HO_10 := ke_ HO_10 ho0 hb; replace HO317 := ke_ HO317 ho0 hb; replace HB := Aside0.mk (below_step (bl_ HB).out hb); (try clear hb); (try clear ho0); obtain ⟨Ao63, co63, eo63⟩ := Kd.R_slice HO321.out; subst eo63) | (go_at_call 16; (with_reducible refine (class_Class_Same.calls k3 _ _ t319 _ _ t293 true _ ?side1 ?side2 ?side3 ?side4 A54.out).mono ?_); (case side1 => exact kc_ HO321); (case side2 => exact kl_ HO321); (case side3 => exact kc_ HO_6); (case side4 => exact kl_ HO_6); rintro e w' ⟨rfl, ⟨nd, rfl⟩⟩; (try first | exact ⟨rfl, _, World.drewN_drewN _ _ _⟩ | exact ⟨rfl, _, Eq.trans (World.drewN_drewN _ _ _) (congrArg (World.drewN _) (Nat.add_assoc _ _ _))⟩)) | (go_at_call 11; (refine (class_Made.calls k3 _ _ ([] : List (S28)) t323 _ ?side1 ?side2 A56.out).mono ?_); (case side1 => exact Kd.C_nil _ _); (case side2 => exact Nat.le_refl _); rintro e w64 ⟨v324, rfl, ho0, hb⟩; have HO325 := Aside0.mk (Kd.R_lower (Kd.R_new' (Kd.R_new' (Kd.R_new' (Kd.R_new' (Kd.R_newM (M := fun k_ => (w.heap.size ≤ k_)) ho0 (below_size (bl_ HB).out) (fun k_ h_ => h_)) (kx_ HO_6)) (kx_ HO_10)) (kx_ HO317)) (kx_ HO321)) (below_size (bl_ HB).out)); replace HO_0 := Aside0.mk (Kd.V_elder' (krV_ HO_0) (Kd.R_base ho0) hb); replace HO_6 := ke_ HO_6 ho0 hb; replace HO_10 := ke_ HO_10 ho0 hb; replace HO317 := ke_ HO317 ho0 hb; replace HO321 := ke_ HO321 ho0 hb; replace HB := Aside0.mk (below_step (bl_ HB).out hb); (try clear hb); (try clear ho0); obtain ⟨Ao65, co65, eo65⟩ := Kd.R_slice HO325.out; subst eo65)))
                                go_ret
                                exact ⟨by first | rfl | (simp [errW_none, errW_some] <;> rfl) | (simp only [← hji38]; first | rfl | (simp [errW_none, errW_some] <;> rfl)) | (simp [*, errW_none, errW_some] <;> first | rfl | exact given_isEmpty _ | exact (given_isEmpty _).symm), by repeat (first | (with_reducible first | exact HB.out | apply below_alloc | apply pw_below_drewN | apply below_drew1) | exact HB.out)⟩
                              · replace c55 := Bool.eq_false_iff.mpr c55
                                subst c55
                                have H1 : (none) = some r := by rw [if_neg (show ¬ (false = true) by decide)] at H; exact H
                                clear H
                                have H := H1
                                clear H1
                                exact absurd H (by simp)
                            · replace c52 := Bool.eq_false_iff.mpr c52
                              subst c52
                              have H1 : (none) = some r := by rw [if_neg (show ¬ (false = true) by decide)] at H; exact H
                              clear H
                              have H := H1
                              clear H1
                              exact absurd H (by simp)
                          · replace c49 := Bool.eq_false_iff.mpr c49
                            subst c49
                            have H1 : (none) = some r := by rw [if_neg (show ¬ (false = true) by decide)] at H; exact H
                            clear H
                            have H := H1
                            clear H1
                            exact absurd H (by simp)
      · rw [if_neg c7] at H
        exact absurd H (by simp)
    · replace c6 := Bool.eq_false_iff.mpr c6
      subst c6
      have H1 : (some true) = some r := by rw [if_neg (show ¬ (false = true) by decide)] at H; exact H
      clear H
      have H := H1
      clear H1
      obtain rfl := Option.some.inj H
      go_enter Tryz.func3, Tryz.ntmps3
      go_wp2_with (first | (go_at_call 9; (with_reducible refine (florinlaw10_head.calls k  true _ A3.out).mono ?_); rintro e w66 ⟨rfl, hb⟩; replace HO0 := Aside0.mk (Kd.V_below (krV_ HO0) hb); replace HB := Aside0.mk (below_step (bl_ HB).out hb); (try clear hb); (try clear hi)) | ((with_reducible refine gate_dst (N := 16) rfl ?_); (try (refine gate_guard (by rfl) ?_; dsimp only)); refine Kd.N_lit (Kd.slice 28 k28) _ 22 ?hg (N' := 16) ?hd (xs := ([l0] : List (List (S28)))) (inner := [.slice A0 l0.length c0]) (ok := (fun k_ => (P0_ k_ ∨ w.heap.size ≤ k_))) (okp := (fun k_ => (P0_ k_ ∨ w.heap.size ≤ k_))) ?hr ?hp (fun _ hk => hk) ((show ∀ k_, w66.heap.size ≤ k_ → (fun k_ => (P0_ k_ ∨ w.heap.size ≤ k_)) k_ from fun k_ hk => (.inr (Nat.le_trans (below_size (bl_ HB).out) hk))) _ (Nat.le_refl _)) (Below.refl _ _) (Nat.le_refl _) (by simp) ?_; (case hd => rfl); (case hg => rfl); (case hr => first | (go_simp; done) | (go_simp; rfl)); (case hp => exact (Reps.one (show Kd.FK (Kd.slice 28 k28) _ _ l0 [.slice A0 l0.length c0] from (Kd.FK_slice_mk (Kd.V_reads' (Kd.V_mono (ok' := (fun k_ => (P0_ k_ ∨ w.heap.size ≤ k_))) (HO0.out) (fun k_ hk => hk))).2.1 (Kd.V_F (Kd.V_mono (ok' := (fun k_ => (P0_ k_ ∨ w.heap.size ≤ k_))) (HO0.out) (fun k_ hk => hk))))) (Reps.none _ _))); intro v284 w67 ho68 hb hg_ hnew_; clear hg_ hnew_; (first | rw [← Ny283.out] at ho68 | (simp only [Int.reduceToNat] at ho68; rw [← Ny283.out] at ho68)); have HO285 := Aside0.mk (Kd.N_lower ho68 (below_size (bl_ HB).out)); replace HO0 := Aside0.mk (Kd.V_elder' (krV_ HO0) (Kd.N_base ho68) hb); replace HB := Aside0.mk (below_step (bl_ HB).out hb); clear hb ho68; obtain ⟨Ao69, co69, eo69⟩ := Kd.N_slice HO285.out; subst eo69) | (go_at_call 10; (with_reducible refine (florinlaw10_few.calls k _ _ y283 false _ ?side1 ?side2 A5.out).mono ?_); (case side1 => repeat (first | exact (Kd.N_reads' HO285.out).2.2 | (with_reducible refine Kd.C_alloc ?_ _) | (with_reducible refine Kd.C_drewN ?_ _) | (with_reducible refine Kd.C_drew ?_))); (case side2 => exact (Kd.N_reads' HO285.out).2.1); rintro e w' ⟨rfl, ⟨nd, rfl⟩⟩; (try first | exact ⟨rfl, _, World.drewN_drewN _ _ _⟩ | exact ⟨rfl, _, Eq.trans (World.drewN_drewN _ _ _) (congrArg (World.drewN _) (Nat.add_assoc _ _ _))⟩)))
      repeat (go_quiet (first | (go_at_call 9; (with_reducible refine (florinlaw10_head.calls k  true _ A3.out).mono ?_); rintro e w66 ⟨rfl, hb⟩; replace HO0 := Aside0.mk (Kd.V_below (krV_ HO0) hb); replace HB := Aside0.mk (below_step (bl_ HB).out hb); (try clear hb); (try clear hi)) | ((with_reducible refine gate_dst (N := 16) rfl ?_); (try (refine gate_guard (by rfl) ?_; dsimp only)); refine Kd.N_lit (Kd.slice 28 k28) _ 22 ?hg (N' := 16) ?hd (xs := ([l0] : List (List (S28)))) (inner := [.slice A0 l0.length c0]) (ok := (fun k_ => (P0_ k_ ∨ w.heap.size ≤ k_))) (okp := (fun k_ => (P0_ k_ ∨ w.heap.size ≤ k_))) ?hr ?hp (fun _ hk => hk) ((show ∀ k_, w66.heap.size ≤ k_ → (fun k_ => (P0_ k_ ∨ w.heap.size ≤ k_)) k_ from fun k_ hk => (.inr (Nat.le_trans (below_size (bl_ HB).out) hk))) _ (Nat.le_refl _)) (Below.refl _ _) (Nat.le_refl _) (by simp) ?_; (case hd => rfl); (case hg => rfl); (case hr => first | (go_simp; done) | (go_simp; rfl)); (case hp => exact (Reps.one (show Kd.FK (Kd.slice 28 k28) _ _ l0 [.slice A0 l0.length c0] from (Kd.FK_slice_mk (Kd.V_reads' (Kd.V_mono (ok' := (fun k_ => (P0_ k_ ∨ w.heap.size ≤ k_))) (HO0.out) (fun k_ hk => hk))).2.1 (Kd.V_F (Kd.V_mono (ok' := (fun k_ => (P0_ k_ ∨ w.heap.size ≤ k_))) (HO0.out) (fun k_ hk => hk))))) (Reps.none _ _))); intro v284 w67 ho68 hb hg_ hnew_; clear hg_ hnew_; (first | rw [← Ny283.out] at ho68 | (simp only [Int.reduceToNat] at ho68; rw [← Ny283.out] at ho68)); have HO285 := Aside0.mk (Kd.N_lower ho68 (below_size (bl_ HB).out)); replace HO0 := Aside0.mk (Kd.V_elder' (krV_ HO0) (Kd.N_base ho68) hb); replace HB := Aside0.mk (below_step (bl_ HB).out hb); clear hb ho68; obtain ⟨Ao69, co69, eo69⟩ := Kd.N_slice HO285.out; subst eo69) | (go_at_call 10; (with_reducible refine (florinlaw10_few.calls k _ _ y283 false _ ?side1 ?side2 A5.out).mono ?_); (case side1 => repeat (first | exact (Kd.N_reads' HO285.out).2.2 | (with_reducible refine Kd.C_alloc ?_ _) | (with_reducible refine Kd.C_drewN ?_ _) | (with_reducible refine Kd.C_drew ?_))); (case side2 => exact (Kd.N_reads' HO285.out).2.1); rintro e w' ⟨rfl, ⟨nd, rfl⟩⟩; (try first | exact ⟨rfl, _, World.drewN_drewN _ _ _⟩ | exact ⟨rfl, _, Eq.trans (World.drewN_drewN _ _ _) (congrArg (World.drewN _) (Nat.add_assoc _ _ _))⟩))); try go_wp2_with (first | (go_at_call 9; (with_reducible refine (florinlaw10_head.calls k  true _ A3.out).mono ?_); rintro e w66 ⟨rfl, hb⟩; replace HO0 := Aside0.mk (Kd.V_below (krV_ HO0) hb); replace HB := Aside0.mk (below_step (bl_ HB).out hb); (try clear hb); (try clear hi)) | ((with_reducible refine gate_dst (N := 16) rfl ?_); (try (refine gate_guard (by rfl) ?_; dsimp only)); refine Kd.N_lit (Kd.slice 28 k28) _ 22 ?hg (N' := 16) ?hd (xs := ([l0] : List (List (S28)))) (inner := [.slice A0 l0.length c0]) (ok := (fun k_ => (P0_ k_ ∨ w.heap.size ≤ k_))) (okp := (fun k_ => (P0_ k_ ∨ w.heap.size ≤ k_))) ?hr ?hp (fun _ hk => hk) ((show ∀ k_, w66.heap.size ≤ k_ → (fun k_ => (P0_ k_ ∨ w.heap.size ≤ k_)) k_ from fun k_ hk => (.inr (Nat.le_trans (below_size (bl_ HB).out) hk))) _ (Nat.le_refl _)) (Below.refl _ _) (Nat.le_refl _) (by simp) ?_; (case hd => rfl); (case hg => rfl); (case hr => first | (go_simp; done) | (go_simp; rfl)); (case hp => exact (Reps.one (show Kd.FK (Kd.slice 28 k28) _ _ l0 [.slice A0 l0.length c0] from (Kd.FK_slice_mk (Kd.V_reads' (Kd.V_mono (ok' := (fun k_ => (P0_ k_ ∨ w.heap.size ≤ k_))) (HO0.out) (fun k_ hk => hk))).2.1 (Kd.V_F (Kd.V_mono (ok' := (fun k_ => (P0_ k_ ∨ w.heap.size ≤ k_))) (HO0.out) (fun k_ hk => hk))))) (Reps.none _ _))); intro v284 w67 ho68 hb hg_ hnew_; clear hg_ hnew_; (first | rw [← Ny283.out] at ho68 | (simp only [Int.reduceToNat] at ho68; rw [← Ny283.out] at ho68)); have HO285 := Aside0.mk (Kd.N_lower ho68 (below_size (bl_ HB).out)); replace HO0 := Aside0.mk (Kd.V_elder' (krV_ HO0) (Kd.N_base ho68) hb); replace HB := Aside0.mk (below_step (bl_ HB).out hb); clear hb ho68; obtain ⟨Ao69, co69, eo69⟩ := Kd.N_slice HO285.out; subst eo69) | (go_at_call 10; (with_reducible refine (florinlaw10_few.calls k _ _ y283 false _ ?side1 ?side2 A5.out).mono ?_); (case side1 => repeat (first | exact (Kd.N_reads' HO285.out).2.2 | (with_reducible refine Kd.C_alloc ?_ _) | (with_reducible refine Kd.C_drewN ?_ _) | (with_reducible refine Kd.C_drew ?_))); (case side2 => exact (Kd.N_reads' HO285.out).2.1); rintro e w' ⟨rfl, ⟨nd, rfl⟩⟩; (try first | exact ⟨rfl, _, World.drewN_drewN _ _ _⟩ | exact ⟨rfl, _, Eq.trans (World.drewN_drewN _ _ _) (congrArg (World.drewN _) (Nat.add_assoc _ _ _))⟩))))
      go_ret
      exact ⟨ew_, (bl_ HB).out⟩
  · replace c4 := Bool.eq_false_iff.mpr c4
    subst c4
    have H1 : (none) = some r := by rw [if_neg (show ¬ (false = true) by decide)] at H; exact H
    clear H
    have H := H1
    clear H1
    exact absurd H (by simp)

end Go.Proofs.YtnpohgoacbpcjaaGreatDoor.P
