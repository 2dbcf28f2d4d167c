-- written by a program of this session (wip/p2)
import Derived.Test.YtnpohgoacbpcjaaDoorPx0
import Derived.Test.YtnpohgoacbpcjaaDoorPx2
import Derived.Test.YtnpohgoacbpcjaaDoorPx6
import Derived.Test.YtnpohgoacbpcjaaDoorPx7
namespace Go.Proofs.YtnpohgoacbpcjaaDoor.P
open Go.RowKit Go.Proofs.YtnpohgoacbpcjaaDoorW.PrintWords Go.Proofs.YtnpohgoacbpcjaaDoorW.PrintLast Go.Proofs.YtnpohgoacbpcjaaDoorW.PrintMore
attribute [local go_sem] max2_int min2_int max_two min_two max_three min_three max_four min_four   -- for this text's walks alone
set_option linter.unusedVariables false
set_option linter.unusedSimpArgs false

/-! ### florinlaw10_ClassErrors: function 3 -/
def florinlaw10_ClassErrors.l0 : Nat → Int → Int → ByteArray → Int → Option (Bool)
  | 0, _, _, _, _ => none
  | k + 1, x0, x1, x5, x6 => if x6 < (Go.bits .and .i64 x1 7) then (if x5.size + 1 ≤ 9223372036854775807 then (florinlaw10_ClassErrors.l0 k x0 x1 (x5 ++ (⟨#[32]⟩ : ByteArray)) (wrap64 (x6 + 1))) else (none)) else ((some (([(⟨(⟨#[]⟩ : ByteArray), 0⟩ : S23), (⟨(⟨#[97]⟩ : ByteArray), 0⟩ : S23), (⟨(⟨#[91]⟩ : ByteArray), 1⟩ : S23), (⟨(⟨#[91, 97]⟩ : ByteArray), 2⟩ : S23), (⟨(⟨#[91, 93, 93]⟩ : ByteArray), 2⟩ : S23), (⟨(⟨#[91, 93, 32, 97]⟩ : ByteArray), 3⟩ : S23), (⟨(⟨#[91, 98, 45, 97, 93]⟩ : ByteArray), 3⟩ : S23), (⟨(⟨#[91, 45, 97, 93]⟩ : ByteArray), 1⟩ : S23), (⟨(⟨#[91, 97, 45, 93]⟩ : ByteArray), 3⟩ : S23), (⟨(⟨#[91, 97, 94, 93]⟩ : ByteArray), 2⟩ : S23), (⟨(⟨#[91, 91, 93]⟩ : ByteArray), 1⟩ : S23), (⟨(⟨#[91, 92, 120, 93]⟩ : ByteArray), 1⟩ : S23), (⟨(⟨#[91, 92, 117, 123, 125, 93]⟩ : ByteArray), 1⟩ : S23), (⟨(⟨#[91, 92, 117, 123, 49, 49, 48, 48, 48, 48, 125, 93]⟩ : ByteArray), 1⟩ : S23), (⟨(⟨#[91, 92, 117, 123, 49, 50, 51, 52, 53, 54, 55, 125, 93]⟩ : ByteArray), 1⟩ : S23), (⟨(⟨#[91, 92, 117, 123, 65, 125, 93]⟩ : ByteArray), 1⟩ : S23), (⟨(⟨#[91, 92, 117, 123, 54, 49, 93]⟩ : ByteArray), 1⟩ : S23), (⟨(⟨#[91, 255, 93]⟩ : ByteArray), 1⟩ : S23), (⟨(⟨#[91, 97, 32, 45, 32, 98, 32, 45, 32, 99, 93]⟩ : ByteArray), 7⟩ : S23), (⟨(⟨#[91, 98, 32, 45, 32, 97, 93]⟩ : ByteArray), 5⟩ : S23), (⟨(⟨#[91, 94, 94, 93]⟩ : ByteArray), 2⟩ : S23), (⟨(⟨#[91, 92]⟩ : ByteArray), 1⟩ : S23)] : List (S23)) : List (S23))).bind fun y262 => (if (IntKind.u64.wrap ((y262.length : Int))) = 0 then (none) else (if 0 ≤ (wrap64 (Int.tmod (IntKind.u64.wrap (x0)) (IntKind.u64.wrap ((y262.length : Int))))) then (if (wrap64 (Int.tmod (IntKind.u64.wrap (x0)) (IntKind.u64.wrap ((y262.length : Int))))) < (y262.length : Int) then (if x5.size + ((rd_T23 y262 (wrap64 (Int.tmod (IntKind.u64.wrap (x0)) (IntKind.u64.wrap ((y262.length : Int)))))).f0).size ≤ 9223372036854775807 then ((class_Parse.f k (x5 ++ ((rd_T23 y262 (wrap64 (Int.tmod (IntKind.u64.wrap (x0)) (IntKind.u64.wrap ((y262.length : Int)))))).f0))).bind fun bt267 => (if (bt267.1.length : Int) = 0 then (if bt267.2.1 = 1 then (some (bt267.2.2 == (wrap64 ((x5.size : Int) + ((rd_T23 y262 (wrap64 (Int.tmod (IntKind.u64.wrap (x0)) (IntKind.u64.wrap ((y262.length : Int)))))).f1))))) else (none)) else (none))) else (none)) else (none)) else (none))))
def florinlaw10_ClassErrors.f (k : Nat) (a0 : Int) (a1 : Int) : Option (Bool) := (florinlaw10_head.f k).bind fun t261 => (if t261 = true then (florinlaw10_ClassErrors.l0 k a0 a1 (⟨#[]⟩ : ByteArray) 0) else (none))
theorem florinlaw10_ClassErrors.mono_l : ∀ k, (∀ y0 y1 y2 y3, LeO (florinlaw10_ClassErrors.l0 k y0 y1 y2 y3) (florinlaw10_ClassErrors.l0 (k + 1) y0 y1 y2 y3))
  | 0 => fun _ _ _ _ r h => by simp [florinlaw10_ClassErrors.l0] at h
  | k + 1 => by
    have ih0 := florinlaw10_ClassErrors.mono_l k
    · intro y0 y1 y2 y3
      unfold florinlaw10_ClassErrors.l0
      repeat' first
      | (with_reducible exact ih0 _ _ _ _)
      | (with_reducible exact class_Parse.mono _ _)
      | (with_reducible exact florinlaw10_head.mono _)
      | (with_reducible exact LeO.refl _)
      | (with_reducible exact LeO.none _)
      | (with_reducible refine LeO.ite ?_ ?_)
      | (with_reducible refine LeO.bind ?_ (fun _ => ?_))
      | exact ih0 _ _ _ _
      | exact class_Parse.mono _ _
      | exact florinlaw10_head.mono _
      | exact LeO.none _
      | refine LeO.ite ?_ ?_
      | refine LeO.bind ?_ (fun _ => ?_)
theorem florinlaw10_ClassErrors.mono : ∀ a0 a1 k, LeO (florinlaw10_ClassErrors.f k a0 a1) (florinlaw10_ClassErrors.f (k + 1) a0 a1) := by
  intro a0 a1 k
  have ih0 := florinlaw10_ClassErrors.mono_l k
  unfold florinlaw10_ClassErrors.f
  repeat' first
      | (with_reducible exact ih0 _ _ _ _)
      | (with_reducible exact class_Parse.mono _ _)
      | (with_reducible exact florinlaw10_head.mono _)
      | (with_reducible exact LeO.refl _)
      | (with_reducible exact LeO.none _)
      | (with_reducible refine LeO.ite ?_ ?_)
      | (with_reducible refine LeO.bind ?_ (fun _ => ?_))
      | exact ih0 _ _ _ _
      | exact class_Parse.mono _ _
      | exact florinlaw10_head.mono _
      | exact LeO.none _
      | refine LeO.ite ?_ ?_
      | refine LeO.bind ?_ (fun _ => ?_)
set_option maxHeartbeats 64000000 in
set_option maxRecDepth 100000 in
theorem florinlaw10_ClassErrors.calls (k : Nat) (a0 : Int) (a1 : Int) (r : Bool) (w : World) (h : florinlaw10_ClassErrors.f k a0 a1 = some r) (ht : GTabs w := by first | assumption | exact gtb_ (by assumption) (bl_ (by assumption)).out) :
    Calls Tryd.prog 3 #[.int .i64 a0, .int .i64 a1] w fun e w' => e = .returned (.bool r) ∧ Below w.heap.size w w' := by
  have hu23 := Tryd.underlying23
  have HB := Aside0.mk (Below.refl w.heap.size w)
  have H : ((florinlaw10_head.f k).bind fun t261 => (if t261 = true then (florinlaw10_ClassErrors.l0 k a0 a1 (⟨#[]⟩ : ByteArray) 0) else (none))) = some r := h
  clear h
  replace H := Option.bind_eq_some_iff.mp H
  obtain ⟨t261, A30, H⟩ := H
  replace H : (if t261 = true then (florinlaw10_ClassErrors.l0 k a0 a1 (⟨#[]⟩ : ByteArray) 0) else (none)) = some r := H
  have A3 := Aside0.mk A30
  clear A30
  by_cases c4 : t261 = true
  · subst c4
    have H1 : (florinlaw10_ClassErrors.l0 k a0 a1 (⟨#[]⟩ : ByteArray) 0) = some r := by rw [if_pos rfl] at H; exact H
    clear H
    have H := H1
    clear H1
    have H' := Aside0.mk H
    clear H
    go_enter Tryd.func3, Tryd.ntmps3
    go_wp2_with (first | ((with_reducible refine gate_callee (f := 4) rfl ?_); refine gl_ (some 12) Tryd.func4 #[] ?_; (with_reducible refine (florinlaw10_head.calls k  true _ A3.out).mono ?_); rintro e w5 ⟨rfl, hb⟩; refine ⟨_, rfl, ?_⟩; replace HB := Aside0.mk (below_step (bl_ HB).out hb); (try clear hb); (try clear hi)))
    go_loopg [5, 6] k (fun kq v5 v6 w' => ∃ (x5_1 : ByteArray) (x6_1 : Int), v5 = .string x5_1 ∧ v6 = .int .i64 x6_1 ∧ Aside0 (florinlaw10_ClassErrors.l0 kq a0 a1 x5_1 x6_1 = some r) ∧ Aside0 (kq ≤ k) ∧ Aside0 (Below w.heap.size w w'))
    case atStart => exact ⟨((⟨#[]⟩ : ByteArray)), (0), eq_, eq_, H', ⟨Nat.le_refl _⟩, (bl_ HB)⟩
    case round =>
      clear H'
      try clear p2
      try clear c3
      try clear c4
      obtain ⟨x5_1, x6_1, rfl, rfl, HA, HK1, HB⟩ := hrel
      cases gk with
      | zero => exact absurd HA.out (by simp [florinlaw10_ClassErrors.l0])
      | succ k1 =>
        have H := HA.out
        clear HA
        simp only [florinlaw10_ClassErrors.l0] at H
        by_cases c6 : x6_1 < (Go.bits .and .i64 a1 7)
        · rw [if_pos c6] at H
          have c6b0 : decide (x6_1 < (Go.bits .and .i64 a1 7)) = true := decide_eq_true c6
          clear c6
          by_cases c7 : x5_1.size + 1 ≤ 9223372036854775807
          · rw [if_pos c7] at H
            have c7b0 := eq_true c7
            have c7b1 : decide (x5_1.size + 1 ≤ 9223372036854775807) = true := decide_eq_true c7
            try have c7b2 : (9223372036854775807 < x5_1.size + 1) = False := eq_false (Nat.not_lt.2 c7)
            have H' := Aside0.mk H
            clear H
            go_wp2
            go_roundg k1
            case measure => have := HK1.out; omega
            case rel => exact ⟨(x5_1 ++ (⟨#[32]⟩ : ByteArray)), (wrap64 (x6_1 + 1)), eq_, eq_, H', ⟨by have := HK1.out; omega⟩, (bl_ HB)⟩
          · rw [if_neg c7] at H
            exact absurd H (by simp)
        · rw [if_neg c6] at H
          have c6b0 : decide (x6_1 < (Go.bits .and .i64 a1 7)) = false := decide_eq_false c6
          clear c6
          obtain ⟨y262, hy262⟩ : ∃ y_ : List (S23), y_ = (([(⟨(⟨#[]⟩ : ByteArray), 0⟩ : S23), (⟨(⟨#[97]⟩ : ByteArray), 0⟩ : S23), (⟨(⟨#[91]⟩ : ByteArray), 1⟩ : S23), (⟨(⟨#[91, 97]⟩ : ByteArray), 2⟩ : S23), (⟨(⟨#[91, 93, 93]⟩ : ByteArray), 2⟩ : S23), (⟨(⟨#[91, 93, 32, 97]⟩ : ByteArray), 3⟩ : S23), (⟨(⟨#[91, 98, 45, 97, 93]⟩ : ByteArray), 3⟩ : S23), (⟨(⟨#[91, 45, 97, 93]⟩ : ByteArray), 1⟩ : S23), (⟨(⟨#[91, 97, 45, 93]⟩ : ByteArray), 3⟩ : S23), (⟨(⟨#[91, 97, 94, 93]⟩ : ByteArray), 2⟩ : S23), (⟨(⟨#[91, 91, 93]⟩ : ByteArray), 1⟩ : S23), (⟨(⟨#[91, 92, 120, 93]⟩ : ByteArray), 1⟩ : S23), (⟨(⟨#[91, 92, 117, 123, 125, 93]⟩ : ByteArray), 1⟩ : S23), (⟨(⟨#[91, 92, 117, 123, 49, 49, 48, 48, 48, 48, 125, 93]⟩ : ByteArray), 1⟩ : S23), (⟨(⟨#[91, 92, 117, 123, 49, 50, 51, 52, 53, 54, 55, 125, 93]⟩ : ByteArray), 1⟩ : S23), (⟨(⟨#[91, 92, 117, 123, 65, 125, 93]⟩ : ByteArray), 1⟩ : S23), (⟨(⟨#[91, 92, 117, 123, 54, 49, 93]⟩ : ByteArray), 1⟩ : S23), (⟨(⟨#[91, 255, 93]⟩ : ByteArray), 1⟩ : S23), (⟨(⟨#[91, 97, 32, 45, 32, 98, 32, 45, 32, 99, 93]⟩ : ByteArray), 7⟩ : S23), (⟨(⟨#[91, 98, 32, 45, 32, 97, 93]⟩ : ByteArray), 5⟩ : S23), (⟨(⟨#[91, 94, 94, 93]⟩ : ByteArray), 2⟩ : S23), (⟨(⟨#[91, 92]⟩ : ByteArray), 1⟩ : S23)] : List (S23))) := ⟨_, rfl⟩
          replace H : (if (IntKind.u64.wrap ((y262.length : Int))) = 0 then (none) else (if 0 ≤ (wrap64 (Int.tmod (IntKind.u64.wrap (a0)) (IntKind.u64.wrap ((y262.length : Int))))) then (if (wrap64 (Int.tmod (IntKind.u64.wrap (a0)) (IntKind.u64.wrap ((y262.length : Int))))) < (y262.length : Int) then (if x5_1.size + ((rd_T23 y262 (wrap64 (Int.tmod (IntKind.u64.wrap (a0)) (IntKind.u64.wrap ((y262.length : Int)))))).f0).size ≤ 9223372036854775807 then ((class_Parse.f k1 (x5_1 ++ ((rd_T23 y262 (wrap64 (Int.tmod (IntKind.u64.wrap (a0)) (IntKind.u64.wrap ((y262.length : Int)))))).f0))).bind fun bt267 => (if (bt267.1.length : Int) = 0 then (if bt267.2.1 = 1 then (some (bt267.2.2 == (wrap64 ((x5_1.size : Int) + ((rd_T23 y262 (wrap64 (Int.tmod (IntKind.u64.wrap (a0)) (IntKind.u64.wrap ((y262.length : Int)))))).f1))))) else (none)) else (none))) else (none)) else (none)) else (none))) = some r := by first | (rw [hy262]; with_reducible exact H) | (have H2_ := (Option.bind_some _ _).symm.trans H; rw [hy262]; with_reducible exact H2_) | (have H2_ := (Option.bind_some _ _).symm.trans H; with_reducible exact H2_) | with_reducible exact H | (rw [hy262]; exact H) | exact H
          have Ny262 := Aside0.mk hy262
          clear hy262
          by_cases c8 : (IntKind.u64.wrap ((y262.length : Int))) = 0
          · rw [if_pos c8] at H
            exact absurd H (by simp)
          · rw [if_neg c8] at H
            have c8b0 : ((IntKind.u64.wrap ((y262.length : Int))) == 0) = false := beq_eq_false_iff_ne.mpr c8
            have c8b1 : ((IntKind.u64.wrap ((y262.length : Int))) != 0) = true := bne_iff_ne.mpr c8
            obtain ⟨ji9, hji9⟩ : ∃ j_ : Int, (wrap64 (Int.tmod (IntKind.u64.wrap (a0)) (IntKind.u64.wrap ((y262.length : Int))))) = j_ := ⟨_, rfl⟩
            replace H : (if 0 ≤ (ji9) then (if (ji9) < (y262.length : Int) then (if x5_1.size + ((rd_T23 y262 (ji9)).f0).size ≤ 9223372036854775807 then ((class_Parse.f k1 (x5_1 ++ ((rd_T23 y262 (ji9)).f0))).bind fun bt267 => (if (bt267.1.length : Int) = 0 then (if bt267.2.1 = 1 then (some (bt267.2.2 == (wrap64 ((x5_1.size : Int) + ((rd_T23 y262 (ji9)).f1))))) else (none)) else (none))) else (none)) else (none)) else (none)) = some r := by first | (rw [hji9] at H; exact H) | (simp only [hji9] at H ⊢; exact H)
            have hji9w : (IntKind.i64.wrap (Int.tmod (IntKind.u64.wrap (a0)) (IntKind.u64.wrap ((y262.length : Int))))) = ji9 := (i64_w _).trans hji9
            by_cases c10 : 0 ≤ (ji9)
            · rw [if_pos c10] at H
              have c10b0 : decide (0 ≤ (ji9)) = true := decide_eq_true c10
              clear c10
              by_cases c11 : (ji9) < (y262.length : Int)
              · rw [if_pos c11] at H
                have c11b0 : decide ((ji9) < (y262.length : Int)) = true := decide_eq_true c11
                clear c11
                by_cases c12 : x5_1.size + ((rd_T23 y262 (ji9)).f0).size ≤ 9223372036854775807
                · rw [if_pos c12] at H
                  have c12b0 := eq_true c12
                  have c12b1 : decide (x5_1.size + ((rd_T23 y262 (ji9)).f0).size ≤ 9223372036854775807) = true := decide_eq_true c12
                  try have c12b2 : (9223372036854775807 < x5_1.size + ((rd_T23 y262 (ji9)).f0).size) = False := eq_false (Nat.not_lt.2 c12)
                  replace H := Option.bind_eq_some_iff.mp H
                  obtain ⟨⟨t267, t268, t269⟩, A130, H⟩ := H
                  replace H : (if (t267.length : Int) = 0 then (if t268 = 1 then (some (t269 == (wrap64 ((x5_1.size : Int) + ((rd_T23 y262 (ji9)).f1))))) else (none)) else (none)) = some r := H
                  have A13 := Aside0.mk A130
                  clear A130
                  by_cases c14 : (t267.length : Int) = 0
                  · rw [if_pos c14] at H
                    have c14b0 : ((t267.length : Int) == 0) = true := beq_iff_eq.mpr c14
                    have c14b1 : ((t267.length : Int) != 0) = false := bne_eq_false_iff_eq.mpr c14
                    clear c14
                    by_cases c15 : t268 = 1
                    · rw [if_pos c15] at H
                      have c15b0 : (t268 == 1) = true := beq_iff_eq.mpr c15
                      have c15b1 : (t268 != 1) = false := bne_eq_false_iff_eq.mpr c15
                      clear c15
                      obtain rfl := Option.some.inj H
                      go_wp2_with (first | ((with_reducible refine gate_dst (N := 44) rfl ?_); (try (refine gate_guard (by rfl) ?_; dsimp only)); refine Kd.R_lit k23 _ 23 ?hg (N := 44) ?hd (xs := ([(⟨(⟨#[]⟩ : ByteArray), 0⟩ : S23), (⟨(⟨#[97]⟩ : ByteArray), 0⟩ : S23), (⟨(⟨#[91]⟩ : ByteArray), 1⟩ : S23), (⟨(⟨#[91, 97]⟩ : ByteArray), 2⟩ : S23), (⟨(⟨#[91, 93, 93]⟩ : ByteArray), 2⟩ : S23), (⟨(⟨#[91, 93, 32, 97]⟩ : ByteArray), 3⟩ : S23), (⟨(⟨#[91, 98, 45, 97, 93]⟩ : ByteArray), 3⟩ : S23), (⟨(⟨#[91, 45, 97, 93]⟩ : ByteArray), 1⟩ : S23), (⟨(⟨#[91, 97, 45, 93]⟩ : ByteArray), 3⟩ : S23), (⟨(⟨#[91, 97, 94, 93]⟩ : ByteArray), 2⟩ : S23), (⟨(⟨#[91, 91, 93]⟩ : ByteArray), 1⟩ : S23), (⟨(⟨#[91, 92, 120, 93]⟩ : ByteArray), 1⟩ : S23), (⟨(⟨#[91, 92, 117, 123, 125, 93]⟩ : ByteArray), 1⟩ : S23), (⟨(⟨#[91, 92, 117, 123, 49, 49, 48, 48, 48, 48, 125, 93]⟩ : ByteArray), 1⟩ : S23), (⟨(⟨#[91, 92, 117, 123, 49, 50, 51, 52, 53, 54, 55, 125, 93]⟩ : ByteArray), 1⟩ : S23), (⟨(⟨#[91, 92, 117, 123, 65, 125, 93]⟩ : ByteArray), 1⟩ : S23), (⟨(⟨#[91, 92, 117, 123, 54, 49, 93]⟩ : ByteArray), 1⟩ : S23), (⟨(⟨#[91, 255, 93]⟩ : ByteArray), 1⟩ : S23), (⟨(⟨#[91, 97, 32, 45, 32, 98, 32, 45, 32, 99, 93]⟩ : ByteArray), 7⟩ : S23), (⟨(⟨#[91, 98, 32, 45, 32, 97, 93]⟩ : ByteArray), 5⟩ : S23), (⟨(⟨#[91, 94, 94, 93]⟩ : ByteArray), 2⟩ : S23), (⟨(⟨#[91, 92]⟩ : ByteArray), 1⟩ : S23)] : List (S23))) (inner := [.string (⟨#[]⟩ : ByteArray), .int .i64 0, .string (⟨#[97]⟩ : ByteArray), .int .i64 0, .string (⟨#[91]⟩ : ByteArray), .int .i64 1, .string (⟨#[91, 97]⟩ : ByteArray), .int .i64 2, .string (⟨#[91, 93, 93]⟩ : ByteArray), .int .i64 2, .string (⟨#[91, 93, 32, 97]⟩ : ByteArray), .int .i64 3, .string (⟨#[91, 98, 45, 97, 93]⟩ : ByteArray), .int .i64 3, .string (⟨#[91, 45, 97, 93]⟩ : ByteArray), .int .i64 1, .string (⟨#[91, 97, 45, 93]⟩ : ByteArray), .int .i64 3, .string (⟨#[91, 97, 94, 93]⟩ : ByteArray), .int .i64 2, .string (⟨#[91, 91, 93]⟩ : ByteArray), .int .i64 1, .string (⟨#[91, 92, 120, 93]⟩ : ByteArray), .int .i64 1, .string (⟨#[91, 92, 117, 123, 125, 93]⟩ : ByteArray), .int .i64 1, .string (⟨#[91, 92, 117, 123, 49, 49, 48, 48, 48, 48, 125, 93]⟩ : ByteArray), .int .i64 1, .string (⟨#[91, 92, 117, 123, 49, 50, 51, 52, 53, 54, 55, 125, 93]⟩ : ByteArray), .int .i64 1, .string (⟨#[91, 92, 117, 123, 65, 125, 93]⟩ : ByteArray), .int .i64 1, .string (⟨#[91, 92, 117, 123, 54, 49, 93]⟩ : ByteArray), .int .i64 1, .string (⟨#[91, 255, 93]⟩ : ByteArray), .int .i64 1, .string (⟨#[91, 97, 32, 45, 32, 98, 32, 45, 32, 99, 93]⟩ : ByteArray), .int .i64 7, .string (⟨#[91, 98, 32, 45, 32, 97, 93]⟩ : ByteArray), .int .i64 5, .string (⟨#[91, 94, 94, 93]⟩ : ByteArray), .int .i64 2, .string (⟨#[91, 92]⟩ : ByteArray), .int .i64 1]) (ok := fun _ => True) (okp := fun _ => True) ?hr ?hp (fun _ hk => hk) trivial (Below.refl _ _) (Nat.le_refl _) (by simp) ?_; (case hd => rfl); (case hg => rfl); (case hr => first | (go_simp; done) | (go_simp; rfl)); (case hp => exact (Reps.c2 (show Kd.M k23 _ _ _ (⟨(⟨#[]⟩ : ByteArray), 0⟩ : S23) [.string (⟨#[]⟩ : ByteArray), .int .i64 0] from (k23_mkM _ _ _ (⟨(⟨#[]⟩ : ByteArray), 0⟩ : S23) )) (Reps.c2 (show Kd.M k23 _ _ _ (⟨(⟨#[97]⟩ : ByteArray), 0⟩ : S23) [.string (⟨#[97]⟩ : ByteArray), .int .i64 0] from (k23_mkM _ _ _ (⟨(⟨#[97]⟩ : ByteArray), 0⟩ : S23) )) (Reps.c2 (show Kd.M k23 _ _ _ (⟨(⟨#[91]⟩ : ByteArray), 1⟩ : S23) [.string (⟨#[91]⟩ : ByteArray), .int .i64 1] from (k23_mkM _ _ _ (⟨(⟨#[91]⟩ : ByteArray), 1⟩ : S23) )) (Reps.c2 (show Kd.M k23 _ _ _ (⟨(⟨#[91, 97]⟩ : ByteArray), 2⟩ : S23) [.string (⟨#[91, 97]⟩ : ByteArray), .int .i64 2] from (k23_mkM _ _ _ (⟨(⟨#[91, 97]⟩ : ByteArray), 2⟩ : S23) )) (Reps.c2 (show Kd.M k23 _ _ _ (⟨(⟨#[91, 93, 93]⟩ : ByteArray), 2⟩ : S23) [.string (⟨#[91, 93, 93]⟩ : ByteArray), .int .i64 2] from (k23_mkM _ _ _ (⟨(⟨#[91, 93, 93]⟩ : ByteArray), 2⟩ : S23) )) (Reps.c2 (show Kd.M k23 _ _ _ (⟨(⟨#[91, 93, 32, 97]⟩ : ByteArray), 3⟩ : S23) [.string (⟨#[91, 93, 32, 97]⟩ : ByteArray), .int .i64 3] from (k23_mkM _ _ _ (⟨(⟨#[91, 93, 32, 97]⟩ : ByteArray), 3⟩ : S23) )) (Reps.c2 (show Kd.M k23 _ _ _ (⟨(⟨#[91, 98, 45, 97, 93]⟩ : ByteArray), 3⟩ : S23) [.string (⟨#[91, 98, 45, 97, 93]⟩ : ByteArray), .int .i64 3] from (k23_mkM _ _ _ (⟨(⟨#[91, 98, 45, 97, 93]⟩ : ByteArray), 3⟩ : S23) )) (Reps.c2 (show Kd.M k23 _ _ _ (⟨(⟨#[91, 45, 97, 93]⟩ : ByteArray), 1⟩ : S23) [.string (⟨#[91, 45, 97, 93]⟩ : ByteArray), .int .i64 1] from (k23_mkM _ _ _ (⟨(⟨#[91, 45, 97, 93]⟩ : ByteArray), 1⟩ : S23) )) (Reps.c2 (show Kd.M k23 _ _ _ (⟨(⟨#[91, 97, 45, 93]⟩ : ByteArray), 3⟩ : S23) [.string (⟨#[91, 97, 45, 93]⟩ : ByteArray), .int .i64 3] from (k23_mkM _ _ _ (⟨(⟨#[91, 97, 45, 93]⟩ : ByteArray), 3⟩ : S23) )) (Reps.c2 (show Kd.M k23 _ _ _ (⟨(⟨#[91, 97, 94, 93]⟩ : ByteArray), 2⟩ : S23) [.string (⟨#[91, 97, 94, 93]⟩ : ByteArray), .int .i64 2] from (k23_mkM _ _ _ (⟨(⟨#[91, 97, 94, 93]⟩ : ByteArray), 2⟩ : S23) )) (Reps.c2 (show Kd.M k23 _ _ _ (⟨(⟨#[91, 91, 93]⟩ : ByteArray), 1⟩ : S23) [.string (⟨#[91, 91, 93]⟩ : ByteArray), .int .i64 1] from (k23_mkM _ _ _ (⟨(⟨#[91, 91, 93]⟩ : ByteArray), 1⟩ : S23) )) (Reps.c2 (show Kd.M k23 _ _ _ (⟨(⟨#[91, 92, 120, 93]⟩ : ByteArray), 1⟩ : S23) [.string (⟨#[91, 92, 120, 93]⟩ : ByteArray), .int .i64 1] from (k23_mkM _ _ _ (⟨(⟨#[91, 92, 120, 93]⟩ : ByteArray), 1⟩ : S23) )) (Reps.c2 (show Kd.M k23 _ _ _ (⟨(⟨#[91, 92, 117, 123, 125, 93]⟩ : ByteArray), 1⟩ : S23) [.string (⟨#[91, 92, 117, 123, 125, 93]⟩ : ByteArray), .int .i64 1] from (k23_mkM _ _ _ (⟨(⟨#[91, 92, 117, 123, 125, 93]⟩ : ByteArray), 1⟩ : S23) )) (Reps.c2 (show Kd.M k23 _ _ _ (⟨(⟨#[91, 92, 117, 123, 49, 49, 48, 48, 48, 48, 125, 93]⟩ : ByteArray), 1⟩ : S23) [.string (⟨#[91, 92, 117, 123, 49, 49, 48, 48, 48, 48, 125, 93]⟩ : ByteArray), .int .i64 1] from (k23_mkM _ _ _ (⟨(⟨#[91, 92, 117, 123, 49, 49, 48, 48, 48, 48, 125, 93]⟩ : ByteArray), 1⟩ : S23) )) (Reps.c2 (show Kd.M k23 _ _ _ (⟨(⟨#[91, 92, 117, 123, 49, 50, 51, 52, 53, 54, 55, 125, 93]⟩ : ByteArray), 1⟩ : S23) [.string (⟨#[91, 92, 117, 123, 49, 50, 51, 52, 53, 54, 55, 125, 93]⟩ : ByteArray), .int .i64 1] from (k23_mkM _ _ _ (⟨(⟨#[91, 92, 117, 123, 49, 50, 51, 52, 53, 54, 55, 125, 93]⟩ : ByteArray), 1⟩ : S23) )) (Reps.c2 (show Kd.M k23 _ _ _ (⟨(⟨#[91, 92, 117, 123, 65, 125, 93]⟩ : ByteArray), 1⟩ : S23) [.string (⟨#[91, 92, 117, 123, 65, 125, 93]⟩ : ByteArray), .int .i64 1] from (k23_mkM _ _ _ (⟨(⟨#[91, 92, 117, 123, 65, 125, 93]⟩ : ByteArray), 1⟩ : S23) )) (Reps.c2 (show Kd.M k23 _ _ _ (⟨(⟨#[91, 92, 117, 123, 54, 49, 93]⟩ : ByteArray), 1⟩ : S23) [.string (⟨#[91, 92, 117, 123, 54, 49, 93]⟩ : ByteArray), .int .i64 1] from (k23_mkM _ _ _ (⟨(⟨#[91, 92, 117, 123, 54, 49, 93]⟩ : ByteArray), 1⟩ : S23) )) (Reps.c2 (show Kd.M k23 _ _ _ (⟨(⟨#[91, 255, 93]⟩ : ByteArray), 1⟩ : S23) [.string (⟨#[91, 255, 93]⟩ : ByteArray), .int .i64 1] from (k23_mkM _ _ _ (⟨(⟨#[91, 255, 93]⟩ : ByteArray), 1⟩ : S23) )) (Reps.c2 (show Kd.M k23 _ _ _ (⟨(⟨#[91, 97, 32, 45, 32, 98, 32, 45, 32, 99, 93]⟩ : ByteArray), 7⟩ : S23) [.string (⟨#[91, 97, 32, 45, 32, 98, 32, 45, 32, 99, 93]⟩ : ByteArray), .int .i64 7] from (k23_mkM _ _ _ (⟨(⟨#[91, 97, 32, 45, 32, 98, 32, 45, 32, 99, 93]⟩ : ByteArray), 7⟩ : S23) )) (Reps.c2 (show Kd.M k23 _ _ _ (⟨(⟨#[91, 98, 32, 45, 32, 97, 93]⟩ : ByteArray), 5⟩ : S23) [.string (⟨#[91, 98, 32, 45, 32, 97, 93]⟩ : ByteArray), .int .i64 5] from (k23_mkM _ _ _ (⟨(⟨#[91, 98, 32, 45, 32, 97, 93]⟩ : ByteArray), 5⟩ : S23) )) (Reps.c2 (show Kd.M k23 _ _ _ (⟨(⟨#[91, 94, 94, 93]⟩ : ByteArray), 2⟩ : S23) [.string (⟨#[91, 94, 94, 93]⟩ : ByteArray), .int .i64 2] from (k23_mkM _ _ _ (⟨(⟨#[91, 94, 94, 93]⟩ : ByteArray), 2⟩ : S23) )) (Reps.c2 (show Kd.M k23 _ _ _ (⟨(⟨#[91, 92]⟩ : ByteArray), 1⟩ : S23) [.string (⟨#[91, 92]⟩ : ByteArray), .int .i64 1] from (k23_mkM _ _ _ (⟨(⟨#[91, 92]⟩ : ByteArray), 1⟩ : S23) )) (Reps.none _ _)))))))))))))))))))))))); intro v263 w16 ho17 hb hg_ hnew_; clear hg_ hnew_; (first | rw [← Ny262.out] at ho17 | (simp only [Int.reduceToNat] at ho17; rw [← Ny262.out] at ho17)); have HO264 := Aside0.mk (Kd.R_lower ho17 (below_size (bl_ HB).out)); replace HB := Aside0.mk (below_step (bl_ HB).out hb); clear hb ho17; obtain ⟨Ao18, co18, eo18⟩ := Kd.R_slice HO264.out; subst eo18; have p265 : 0 ≤ ((ji9) : Int) := of_decide_eq_true (by first | (with_reducible assumption) | assumption); have q265 : (ji9) < (y262.length : Int) := of_decide_eq_true (by first | (with_reducible assumption) | assumption); obtain ⟨ad265, e265, hx265_0, hx265_1⟩ := at_T23 (Kd.R_reads' HO264.out).2.2 (ji9) p265 q265; cases e265; replace p265 := eq_true p265; replace q265 := eq_true q265) | ((with_reducible refine gate_dst (N := 8) rfl ?_); (try (refine gate_guard (by rfl) ?_; dsimp only)); refine be_ 8 #[.string (⟨#[]⟩ : ByteArray), .int .i64 0] 23 ?_; intro gb266 hg w19 hbox hb; have BK266 := Aside0.mk (hbox); have GW266 := sz_ HB hg; have GE266 := sz_ HB hg; replace HO264 := Aside0.mk (Kd.R_below (Kd.R_elderB (kr_ HO264) gb266 (Nat.le_of_eq hg.symm)) hb); replace HB := Aside0.mk (below_step (bl_ HB).out hb); clear hb hbox hg; obtain ⟨hcz20_0, hcz20_1, hfz20_0, hfz20_1⟩ := bo2_ BK266) | ((with_reducible refine gate_callee (f := 5) rfl ?_); refine goesL_ (some 60) rfl rfl Tryd.func5 (by kernel_rfl) rfl #[.string (x5_1 ++ ((rd_T23 y262 (ji9)).f0))] rfl (by (try simp only [List.map_toArray, List.map_cons, List.map_nil]); first | done | (simp only [hji9]; rfl) | rfl | (simp only [List.length_drop, List.length_take]; rfl) | (have z_ : ∀ s_ : ByteArray, s_.size ≤ 9223372036854775807 → -(s_.size : Int) = wrap64 (-(s_.size : Int)) := (fun s_ h_ => by unfold wrap64; omega); rw [← z_ _ (by omega)]; rfl) | (simp only [ByteArray.size_append]; rfl)) ?_; (with_reducible refine (class_Parse.calls k1 (x5_1 ++ ((rd_T23 y262 (ji9)).f0)) t267 t268 t269 _ A13.out).mono ?_); rintro e w21 ⟨v270, rfl, ho0, hb⟩; refine ⟨_, rfl, ?_⟩; have n0_ := Aside0.mk (Kd.R_below (by (with_reducible repeat (first | apply Kd.R_alloc | apply Kd.R_drewN | apply Kd.R_drew)); exact (Kd.R_mono (Kd.R_far (p := ⟨gb266, 1, none⟩) (Kd.R_far (p := ⟨gb266, 0, none⟩) (Kd.R_mono HO264.out (fun k_ hk => (⟨hk, hk.2⟩ : _ ∧ k_ ≠ gb266))) (fun _ hk => hk.2) (.string ((rd_T23 y262 (ji9)).f0))) (fun _ hk => hk.2) (.int .i64 ((rd_T23 y262 (ji9)).f1))) (fun _ h_ => h_.1))) hb); have n1_ := Aside0.mk (Kd.R_lower ho0 (below_size (bl_ HB).out)); have n2_ := Aside0.mk (blk_below (g := gb266) (o := .cells #[.string ((rd_T23 y262 (ji9)).f0), .int .i64 ((rd_T23 y262 (ji9)).f1)] 23 (0, 0)) (by (with_reducible repeat (first | refine blk_drewN ?_ _ | refine blk_drew ?_ | refine blk_alloc ?_ _)); refine blk_put (cs := #[.string ((rd_T23 y262 (ji9)).f0), .int .i64 0]) ?_ 1 _ rfl; (with_reducible repeat (first | refine blk_drewN ?_ _ | refine blk_drew ?_ | refine blk_alloc ?_ _)); refine blk_put (cs := #[.string (⟨#[]⟩ : ByteArray), .int .i64 0]) ?_ 0 _ rfl; (with_reducible repeat (first | refine blk_drewN ?_ _ | refine blk_drew ?_ | refine blk_alloc ?_ _)); exact BK266.out) hb); have n3_ := Aside0.mk (below_step (bl_ HB).out hb); clear HO264; clear BK266; clear HB; have HO264 := n0_; have HO271 := n1_; have BK266 := n2_; have HB := n3_; clear n0_ n1_ n2_ n3_; (try clear hb); (try clear ho0); obtain ⟨Ao22, co22, eo22⟩ := Kd.R_slice HO271.out; subst eo22; obtain ⟨hcz23_0, hcz23_1, hfz23_0, hfz23_1⟩ := bo2_ BK266))
                      go_ret
                      exact ⟨by first | rfl | (simp [errW_none, errW_some] <;> rfl) | (simp only [← hji9]; first | rfl | (simp [errW_none, errW_some] <;> rfl)) | (simp [*, errW_none, errW_some] <;> first | rfl | exact given_isEmpty _ | exact (given_isEmpty _).symm), by repeat (first | (with_reducible first | exact HB.out | apply below_alloc | apply pw_below_drewN | apply below_drew1 | refine below_set ?_ GE266.out) | exact HB.out)⟩
                    · rw [if_neg c15] at H
                      exact absurd H (by simp)
                  · rw [if_neg c14] at H
                    exact absurd H (by simp)
                · rw [if_neg c12] at H
                  exact absurd H (by simp)
              · rw [if_neg c11] at H
                exact absurd H (by simp)
            · rw [if_neg c10] at H
              exact absurd H (by simp)
  · replace c4 := Bool.eq_false_iff.mpr c4
    subst c4
    have H1 : (none) = some r := by rw [if_neg (show ¬ (false = true) by decide)] at H; exact H
    clear H
    have H := H1
    clear H1
    exact absurd H (by simp)

/-- THE ONE PURE STATEMENT of florinlaw10_ClassErrors: yours. -/
def florinlaw10_ClassErrors.Pure : Prop := ∀ (a0 : Int) (a1 : Int), (Lit.int .i64 a0).wf = true → (Lit.int .i64 a1).wf = true → ∃ k, florinlaw10_ClassErrors.f k a0 a1 = some true
theorem florinlaw10_ClassErrors.walk (P : florinlaw10_ClassErrors.Pure) (a0 : Int) (a1 : Int) (w : World) (w0 : (Lit.int .i64 a0).wf = true) (w1 : (Lit.int .i64 a1).wf = true) (ht : GTabs w) :
    Calls Tryd.prog 3 #[.int .i64 a0, .int .i64 a1] w fun e w' => e = .returned (.bool true) ∧ Below w.heap.size w w' := by
  obtain ⟨k, h⟩ := P a0 a1 w0 w1
  refine (florinlaw10_ClassErrors.calls k a0 a1 true w h).mono ?_
  rintro e w' ⟨rfl, hd⟩
  exact ⟨rfl, hd⟩

end Go.Proofs.YtnpohgoacbpcjaaDoor.P
