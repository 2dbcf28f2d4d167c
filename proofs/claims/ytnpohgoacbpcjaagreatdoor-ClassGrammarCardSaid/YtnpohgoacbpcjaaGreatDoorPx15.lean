-- written by a program of this session (wip/p2)
import Derived.Test.YtnpohgoacbpcjaaGreatDoorPx0
import Derived.Test.YtnpohgoacbpcjaaGreatDoorPx12
import Derived.Test.YtnpohgoacbpcjaaGreatDoorPx13
import Derived.Test.YtnpohgoacbpcjaaGreatDoorPx14
namespace Go.Proofs.YtnpohgoacbpcjaaGreatDoor.P
open Go.RowKit Go.Proofs.YtnpohgoacbpcjaaGreatDoorW.PrintWords Go.Proofs.YtnpohgoacbpcjaaGreatDoorW.PrintLast Go.Proofs.YtnpohgoacbpcjaaGreatDoorW.PrintMore
attribute [local go_sem] max2_int min2_int max_two min_two max_three min_three max_four min_four   -- for this text's walks alone
set_option linter.unusedVariables false
set_option linter.unusedSimpArgs false

/-! ### florinlaw10_One_write: function 30 -/
def florinlaw10_One_write.j0 : Nat → Int → Bool → Int → Int → Option (Int × ByteArray)
  | 0, _, _, _, _ => none
  | k + 1, x4, x5, x345000, x345001 => if (Go.bits .and .i64 x345001 3) = 0 then (if x5 = true then ((florinlaw10_hex.f k x4 1).bind fun t346 => (if 3 + t346.size ≤ 9223372036854775807 then (if ((⟨#[92, 117, 123]⟩ : ByteArray) ++ t346).size + 1 ≤ 9223372036854775807 then (some (x4, ((⟨#[92, 117, 123]⟩ : ByteArray) ++ t346) ++ (⟨#[125]⟩ : ByteArray))) else (none)) else (none))) else ((florinlaw09_Sign.f x4).bind fun t347 => (some (x4, t347)))) else (if (Go.bits .and .i64 x345001 3) = 1 then (if x5 = true then ((florinlaw09_Sign.f x4).bind fun t348 => (if 1 + t348.size ≤ 9223372036854775807 then (some (x4, (⟨#[92]⟩ : ByteArray) ++ t348)) else (none))) else ((florinlaw10_hex.f k x4 1).bind fun t349 => (if 3 + t349.size ≤ 9223372036854775807 then (if ((⟨#[92, 117, 123]⟩ : ByteArray) ++ t349).size + 1 ≤ 9223372036854775807 then (some (x4, ((⟨#[92, 117, 123]⟩ : ByteArray) ++ t349) ++ (⟨#[125]⟩ : ByteArray))) else (none)) else (none)))) else (if (Go.bits .and .i64 x345001 3) = 3 then ((florinlaw10_hex.f k x4 6).bind fun t350 => (if 3 + t350.size ≤ 9223372036854775807 then (if ((⟨#[92, 117, 123]⟩ : ByteArray) ++ t350).size + 1 ≤ 9223372036854775807 then (some (x4, ((⟨#[92, 117, 123]⟩ : ByteArray) ++ t350) ++ (⟨#[125]⟩ : ByteArray))) else (none)) else (none))) else ((florinlaw10_hex.f k x4 1).bind fun t351 => (if 3 + t351.size ≤ 9223372036854775807 then (if ((⟨#[92, 117, 123]⟩ : ByteArray) ++ t351).size + 1 ≤ 9223372036854775807 then (some (x4, ((⟨#[92, 117, 123]⟩ : ByteArray) ++ t351) ++ (⟨#[125]⟩ : ByteArray))) else (none)) else (none)))))
def florinlaw10_One_write.f (k : Nat) (a0_0 : Int) (a0_1 : Int) : Option (Int × ByteArray) := (florinlaw09_Point.f a0_0).bind fun t345 => (if t345 = 91 then (florinlaw10_One_write.j0 k t345 true a0_0 a0_1) else (if t345 = 93 then (florinlaw10_One_write.j0 k t345 true a0_0 a0_1) else (if t345 = 45 then (florinlaw10_One_write.j0 k t345 true a0_0 a0_1) else (if t345 = 94 then (florinlaw10_One_write.j0 k t345 true a0_0 a0_1) else (if t345 = 92 then (florinlaw10_One_write.j0 k t345 true a0_0 a0_1) else (florinlaw10_One_write.j0 k t345 (t345 == 32) a0_0 a0_1))))))
theorem florinlaw10_One_write.mono_l : ∀ k, (∀ y0 y1 y2 y3, LeO (florinlaw10_One_write.j0 k y0 y1 y2 y3) (florinlaw10_One_write.j0 (k + 1) y0 y1 y2 y3))
  | 0 => fun _ _ _ _ r h => by simp [florinlaw10_One_write.j0] at h
  | k + 1 => by
    have ih0 := florinlaw10_One_write.mono_l k
    · intro y0 y1 y2 y3
      unfold florinlaw10_One_write.j0
      repeat' first
      | (with_reducible exact ih0 _ _ _ _)
      | (with_reducible exact florinlaw10_hex.mono _ _ _)
      | (with_reducible exact LeO.refl _)
      | (with_reducible exact LeO.none _)
      | (with_reducible refine LeO.ite ?_ ?_)
      | (with_reducible refine LeO.bind ?_ (fun _ => ?_))
      | exact ih0 _ _ _ _
      | exact florinlaw10_hex.mono _ _ _
      | exact LeO.none _
      | refine LeO.ite ?_ ?_
      | refine LeO.bind ?_ (fun _ => ?_)
theorem florinlaw10_One_write.mono : ∀ a0 a1 k, LeO (florinlaw10_One_write.f k a0 a1) (florinlaw10_One_write.f (k + 1) a0 a1) := by
  intro a0 a1 k
  have ih0 := florinlaw10_One_write.mono_l k
  unfold florinlaw10_One_write.f
  repeat' first
      | (with_reducible exact ih0 _ _ _ _)
      | (with_reducible exact florinlaw10_hex.mono _ _ _)
      | (with_reducible exact LeO.refl _)
      | (with_reducible exact LeO.none _)
      | (with_reducible refine LeO.ite ?_ ?_)
      | (with_reducible refine LeO.bind ?_ (fun _ => ?_))
      | exact ih0 _ _ _ _
      | exact florinlaw10_hex.mono _ _ _
      | exact LeO.none _
      | refine LeO.ite ?_ ?_
      | refine LeO.bind ?_ (fun _ => ?_)
set_option maxHeartbeats 64000000 in
set_option maxRecDepth 100000 in
theorem florinlaw10_One_write.calls (k : Nat) (a0_0 : Int) (a0_1 : Int) (r1 : Int) (r2 : ByteArray) (w : World) (h : florinlaw10_One_write.f k a0_0 a0_1 = some (r1, r2)) :
    Calls Tryz.prog 30 #[.agg #[.int .i64 a0_0, .int .i64 a0_1]] w fun e w' => e = .returned (.tuple #[.int .i64 r1, .string r2]) ∧ Below w.heap.size w w' := by
  have hu58 := Tryz.underlying58
  have HB := Aside0.mk (Below.refl w.heap.size w)
  have H : ((florinlaw09_Point.f a0_0).bind fun t345 => (if t345 = 91 then (florinlaw10_One_write.j0 k t345 true a0_0 a0_1) else (if t345 = 93 then (florinlaw10_One_write.j0 k t345 true a0_0 a0_1) else (if t345 = 45 then (florinlaw10_One_write.j0 k t345 true a0_0 a0_1) else (if t345 = 94 then (florinlaw10_One_write.j0 k t345 true a0_0 a0_1) else (if t345 = 92 then (florinlaw10_One_write.j0 k t345 true a0_0 a0_1) else (florinlaw10_One_write.j0 k t345 (t345 == 32) a0_0 a0_1))))))) = some (r1, r2) := h
  clear h
  replace H := Option.bind_eq_some_iff.mp H
  obtain ⟨t345, A20, H⟩ := H
  replace H : (if t345 = 91 then (florinlaw10_One_write.j0 k t345 true a0_0 a0_1) else (if t345 = 93 then (florinlaw10_One_write.j0 k t345 true a0_0 a0_1) else (if t345 = 45 then (florinlaw10_One_write.j0 k t345 true a0_0 a0_1) else (if t345 = 94 then (florinlaw10_One_write.j0 k t345 true a0_0 a0_1) else (if t345 = 92 then (florinlaw10_One_write.j0 k t345 true a0_0 a0_1) else (florinlaw10_One_write.j0 k t345 (t345 == 32) a0_0 a0_1)))))) = some (r1, r2) := H
  have A2 := Aside0.mk A20
  clear A20
  have HC3 := Aside0.mk H
  clear H
  go_enter Tryz.func30, Tryz.ntmps30
  go_upto_region 2 with (first | ((with_reducible refine gate_dst (N := 1) rfl ?_); refine be_ 1 #[.int .i64 a0_0, .int .i64 a0_1] 58 ?_; intro gb344 hg w4 hbox hb; have BK344 := Aside0.mk (hbox); have GW344 := sz_ HB hg; have GE344 := sz_ HB hg; replace HB := Aside0.mk (below_step (bl_ HB).out hb); clear hb hbox hg; obtain ⟨hcz5_0, hcz5_1, hfz5_0, hfz5_1⟩ := bo2_ BK344) | ((with_reducible refine gate_callee (f := 40) rfl ?_); refine gl_ (some 8) Tryz.func40 #[.int .i64 a0_0] ?_; (with_reducible refine (florinlaw09_Point.calls a0_0 t345 _ A2.out).mono ?_); rintro e w' ⟨rfl, ⟨nd, rfl⟩⟩; refine ⟨_, rfl, ?_⟩))
  (try simp only [Act.put, List.setIfInBounds_toArray, List.set_cons_zero, List.set_cons_succ])
  go_cut [5] (fun v5 wc => ∃ (kq : Nat) (x5_2 : Bool), v5 = .bool x5_2 ∧ Aside0 (florinlaw10_One_write.j0 kq t345 x5_2 a0_0 a0_1 = some (r1, r2)) ∧ Aside0 (kq ≤ k) ∧ Aside0 (wc.heap[gb344]? = some (.cells #[.int .i64 a0_0, .int .i64 a0_1] 58 (0, 0))) ∧ Aside0 (Below w.heap.size w wc))
  case first =>
    have H := HC3.out
    clear HC3
    by_cases c6 : t345 = 91
    · rw [if_pos c6] at H
      have c6b0 : (t345 == 91) = true := beq_iff_eq.mpr c6
      have c6b1 : (t345 != 91) = false := bne_eq_false_iff_eq.mpr c6
      clear c6
      (first | rw [c6b0] | (simp only [i64_w, i32_w]; rw [c6b0]) | skip)
      have H' := Aside0.mk H
      clear H
      go_wp2
      go_meet
      case rel => exact ⟨_, (true), eq_, H', ⟨by first | omega | exact Nat.le_refl _⟩, (bk_ BK344), (bl_ HB)⟩
    · rw [if_neg c6] at H
      have c6b0 : (t345 == 91) = false := beq_eq_false_iff_ne.mpr c6
      have c6b1 : (t345 != 91) = true := bne_iff_ne.mpr c6
      (first | rw [c6b0] | (simp only [i64_w, i32_w]; rw [c6b0]) | skip)
      by_cases c7 : t345 = 93
      · rw [if_pos c7] at H
        have c7b0 : (t345 == 93) = true := beq_iff_eq.mpr c7
        have c7b1 : (t345 != 93) = false := bne_eq_false_iff_eq.mpr c7
        clear c7
        have H' := Aside0.mk H
        clear H
        go_wp2
        go_meet
        case rel => exact ⟨_, (true), eq_, H', ⟨by first | omega | exact Nat.le_refl _⟩, (bk_ BK344), (bl_ HB)⟩
      · rw [if_neg c7] at H
        have c7b0 : (t345 == 93) = false := beq_eq_false_iff_ne.mpr c7
        have c7b1 : (t345 != 93) = true := bne_iff_ne.mpr c7
        by_cases c8 : t345 = 45
        · rw [if_pos c8] at H
          have c8b0 : (t345 == 45) = true := beq_iff_eq.mpr c8
          have c8b1 : (t345 != 45) = false := bne_eq_false_iff_eq.mpr c8
          clear c8
          have H' := Aside0.mk H
          clear H
          go_wp2
          go_meet
          case rel => exact ⟨_, (true), eq_, H', ⟨by first | omega | exact Nat.le_refl _⟩, (bk_ BK344), (bl_ HB)⟩
        · rw [if_neg c8] at H
          have c8b0 : (t345 == 45) = false := beq_eq_false_iff_ne.mpr c8
          have c8b1 : (t345 != 45) = true := bne_iff_ne.mpr c8
          by_cases c9 : t345 = 94
          · rw [if_pos c9] at H
            have c9b0 : (t345 == 94) = true := beq_iff_eq.mpr c9
            have c9b1 : (t345 != 94) = false := bne_eq_false_iff_eq.mpr c9
            clear c9
            have H' := Aside0.mk H
            clear H
            go_wp2
            go_meet
            case rel => exact ⟨_, (true), eq_, H', ⟨by first | omega | exact Nat.le_refl _⟩, (bk_ BK344), (bl_ HB)⟩
          · rw [if_neg c9] at H
            have c9b0 : (t345 == 94) = false := beq_eq_false_iff_ne.mpr c9
            have c9b1 : (t345 != 94) = true := bne_iff_ne.mpr c9
            by_cases c10 : t345 = 92
            · rw [if_pos c10] at H
              have c10b0 : (t345 == 92) = true := beq_iff_eq.mpr c10
              have c10b1 : (t345 != 92) = false := bne_eq_false_iff_eq.mpr c10
              clear c10
              have H' := Aside0.mk H
              clear H
              go_wp2
              go_meet
              case rel => exact ⟨_, (true), eq_, H', ⟨by first | omega | exact Nat.le_refl _⟩, (bk_ BK344), (bl_ HB)⟩
            · rw [if_neg c10] at H
              have c10b0 : (t345 == 92) = false := beq_eq_false_iff_ne.mpr c10
              have c10b1 : (t345 != 92) = true := bne_iff_ne.mpr c10
              have H' := Aside0.mk H
              clear H
              go_wp2
              go_meet
              case rel => exact ⟨_, ((t345 == 32)), eq_, H', ⟨by first | omega | exact Nat.le_refl _⟩, (bk_ BK344), (bl_ HB)⟩
  case rest =>
    clear HC3
    try clear c1
    try clear p2
    try clear c3
    try clear c4
    try clear c6
    try clear c6b0
    try clear c6b1
    try clear p6
    try clear c7
    try clear c7b0
    try clear c7b1
    try clear c8
    try clear c8b0
    try clear c8b1
    try clear c9
    try clear c9b0
    try clear c9b1
    try clear c10
    try clear c10b0
    try clear c10b1
    try clear hcz5_0
    try clear hcz5_1
    try clear hfz5_0
    try clear hfz5_1
    obtain ⟨kq, x5_2, rfl, HA, HJ2, BK344, HB⟩ := hcut
    cases kq with
    | zero => exact absurd HA.out (by simp [florinlaw10_One_write.j0])
    | succ kj2 =>
      have H := HA.out
      clear HA
      simp only [florinlaw10_One_write.j0] at H
      by_cases c11 : (Go.bits .and .i64 a0_1 3) = 0
      · rw [if_pos c11] at H
        have c11b0 : ((Go.bits .and .i64 a0_1 3) == 0) = true := beq_iff_eq.mpr c11
        have c11b1 : ((Go.bits .and .i64 a0_1 3) != 0) = false := bne_eq_false_iff_eq.mpr c11
        clear c11
        by_cases c12 : x5_2 = true
        · subst c12
          have H1 : ((florinlaw10_hex.f kj2 t345 1).bind fun t346 => (if 3 + t346.size ≤ 9223372036854775807 then (if ((⟨#[92, 117, 123]⟩ : ByteArray) ++ t346).size + 1 ≤ 9223372036854775807 then (some (t345, ((⟨#[92, 117, 123]⟩ : ByteArray) ++ t346) ++ (⟨#[125]⟩ : ByteArray))) else (none)) else (none))) = some (r1, r2) := by rw [if_pos rfl] at H; exact H
          clear H
          have H := H1
          clear H1
          replace H := Option.bind_eq_some_iff.mp H
          obtain ⟨t346, A130, H⟩ := H
          replace H : (if 3 + t346.size ≤ 9223372036854775807 then (if ((⟨#[92, 117, 123]⟩ : ByteArray) ++ t346).size + 1 ≤ 9223372036854775807 then (some (t345, ((⟨#[92, 117, 123]⟩ : ByteArray) ++ t346) ++ (⟨#[125]⟩ : ByteArray))) else (none)) else (none)) = some (r1, r2) := H
          have A13 := Aside0.mk A130
          clear A130
          by_cases c14 : 3 + t346.size ≤ 9223372036854775807
          · rw [if_pos c14] at H
            have c14b0 := eq_true c14
            have c14b1 : decide (3 + t346.size ≤ 9223372036854775807) = true := decide_eq_true c14
            try have c14b2 : (9223372036854775807 < 3 + t346.size) = False := eq_false (Nat.not_lt.2 c14)
            by_cases c15 : ((⟨#[92, 117, 123]⟩ : ByteArray) ++ t346).size + 1 ≤ 9223372036854775807
            · rw [if_pos c15] at H
              have c15b0 := eq_true c15
              have c15b1 : decide (((⟨#[92, 117, 123]⟩ : ByteArray) ++ t346).size + 1 ≤ 9223372036854775807) = true := decide_eq_true c15
              try (have c15b5 := c15b0; simp only [ByteArray.size_append, Int.natCast_add] at c15b5)
              try have c15b2 : (9223372036854775807 < ((⟨#[92, 117, 123]⟩ : ByteArray) ++ t346).size + 1) = False := eq_false (Nat.not_lt.2 c15)
              try have c15b3 : (9223372036854775807 < 3 + t346.size + 1) = False := eq_false (Nat.not_lt.2 (by have h_ := c15; simp only [ByteArray.size_append] at h_; exact h_))
              try have c15b4 : (3 + t346.size + 1 ≤ 9223372036854775807) = True := eq_true (by have h_ := c15; simp only [ByteArray.size_append] at h_; exact h_)
              simp only [Option.some.injEq, Prod.mk.injEq] at H
              obtain ⟨rfl, rfl⟩ := H
              obtain ⟨hcz16_0, hcz16_1, hfz16_0, hfz16_1⟩ := bo2_ BK344
              go_wp2_with (first | ((with_reducible refine gate_callee (f := 32) rfl ?_); refine gl_ (some 57) Tryz.func32 #[.int .i64 t345, .int .i64 1] ?_; (with_reducible refine (florinlaw10_hex.calls kj2 t345 1 t346 _ A13.out).mono ?_); rintro e w17 ⟨rfl, hb⟩; refine ⟨_, rfl, ?_⟩; replace BK344 := bb_ BK344 hb; replace HB := Aside0.mk (below_step (bl_ HB).out hb); (try clear hb); (try clear hi)))
              go_ret2
              exact ⟨ew_, (bl_ HB).out⟩
            · rw [if_neg c15] at H
              exact absurd H (by simp)
          · rw [if_neg c14] at H
            exact absurd H (by simp)
        · replace c12 := Bool.eq_false_iff.mpr c12
          subst c12
          have H1 : ((florinlaw09_Sign.f t345).bind fun t347 => (some (t345, t347))) = some (r1, r2) := by rw [if_neg (show ¬ (false = true) by decide)] at H; exact H
          clear H
          have H := H1
          clear H1
          replace H := Option.bind_eq_some_iff.mp H
          obtain ⟨t347, A180, H⟩ := H
          replace H : (some (t345, t347)) = some (r1, r2) := H
          have A18 := Aside0.mk A180
          clear A180
          simp only [Option.some.injEq, Prod.mk.injEq] at H
          obtain ⟨rfl, rfl⟩ := H
          obtain ⟨hcz19_0, hcz19_1, hfz19_0, hfz19_1⟩ := bo2_ BK344
          go_wp2_with (first | ((with_reducible refine gate_callee (f := 41) rfl ?_); refine gl_ (some 40) Tryz.func41 #[.int .i64 t345] ?_; (with_reducible refine (florinlaw09_Sign.calls t345 t347 _ A18.out).mono ?_); rintro e w20 ⟨rfl, hb⟩; refine ⟨_, rfl, ?_⟩; replace BK344 := bb_ BK344 hb; replace HB := Aside0.mk (below_step (bl_ HB).out hb); (try clear hb); (try clear hi)))
          go_ret2
          exact ⟨ew_, (bl_ HB).out⟩
      · rw [if_neg c11] at H
        have c11b0 : ((Go.bits .and .i64 a0_1 3) == 0) = false := beq_eq_false_iff_ne.mpr c11
        have c11b1 : ((Go.bits .and .i64 a0_1 3) != 0) = true := bne_iff_ne.mpr c11
        by_cases c21 : (Go.bits .and .i64 a0_1 3) = 1
        · rw [if_pos c21] at H
          have c21b0 : ((Go.bits .and .i64 a0_1 3) == 1) = true := beq_iff_eq.mpr c21
          have c21b1 : ((Go.bits .and .i64 a0_1 3) != 1) = false := bne_eq_false_iff_eq.mpr c21
          clear c21
          by_cases c22 : x5_2 = true
          · subst c22
            have H1 : ((florinlaw09_Sign.f t345).bind fun t348 => (if 1 + t348.size ≤ 9223372036854775807 then (some (t345, (⟨#[92]⟩ : ByteArray) ++ t348)) else (none))) = some (r1, r2) := by rw [if_pos rfl] at H; exact H
            clear H
            have H := H1
            clear H1
            replace H := Option.bind_eq_some_iff.mp H
            obtain ⟨t348, A230, H⟩ := H
            replace H : (if 1 + t348.size ≤ 9223372036854775807 then (some (t345, (⟨#[92]⟩ : ByteArray) ++ t348)) else (none)) = some (r1, r2) := H
            have A23 := Aside0.mk A230
            clear A230
            by_cases c24 : 1 + t348.size ≤ 9223372036854775807
            · rw [if_pos c24] at H
              have c24b0 := eq_true c24
              have c24b1 : decide (1 + t348.size ≤ 9223372036854775807) = true := decide_eq_true c24
              try have c24b2 : (9223372036854775807 < 1 + t348.size) = False := eq_false (Nat.not_lt.2 c24)
              simp only [Option.some.injEq, Prod.mk.injEq] at H
              obtain ⟨rfl, rfl⟩ := H
              obtain ⟨hcz25_0, hcz25_1, hfz25_0, hfz25_1⟩ := bo2_ BK344
              go_wp2_with (first | ((with_reducible refine gate_callee (f := 41) rfl ?_); refine gl_ (some 46) Tryz.func41 #[.int .i64 t345] ?_; (with_reducible refine (florinlaw09_Sign.calls t345 t348 _ A23.out).mono ?_); rintro e w26 ⟨rfl, hb⟩; refine ⟨_, rfl, ?_⟩; replace BK344 := bb_ BK344 hb; replace HB := Aside0.mk (below_step (bl_ HB).out hb); (try clear hb); (try clear hi)))
              go_ret2
              exact ⟨ew_, (bl_ HB).out⟩
            · rw [if_neg c24] at H
              exact absurd H (by simp)
          · replace c22 := Bool.eq_false_iff.mpr c22
            subst c22
            have H1 : ((florinlaw10_hex.f kj2 t345 1).bind fun t349 => (if 3 + t349.size ≤ 9223372036854775807 then (if ((⟨#[92, 117, 123]⟩ : ByteArray) ++ t349).size + 1 ≤ 9223372036854775807 then (some (t345, ((⟨#[92, 117, 123]⟩ : ByteArray) ++ t349) ++ (⟨#[125]⟩ : ByteArray))) else (none)) else (none))) = some (r1, r2) := by rw [if_neg (show ¬ (false = true) by decide)] at H; exact H
            clear H
            have H := H1
            clear H1
            replace H := Option.bind_eq_some_iff.mp H
            obtain ⟨t349, A270, H⟩ := H
            replace H : (if 3 + t349.size ≤ 9223372036854775807 then (if ((⟨#[92, 117, 123]⟩ : ByteArray) ++ t349).size + 1 ≤ 9223372036854775807 then (some (t345, ((⟨#[92, 117, 123]⟩ : ByteArray) ++ t349) ++ (⟨#[125]⟩ : ByteArray))) else (none)) else (none)) = some (r1, r2) := H
            have A27 := Aside0.mk A270
            clear A270
            by_cases c28 : 3 + t349.size ≤ 9223372036854775807
            · rw [if_pos c28] at H
              have c28b0 := eq_true c28
              have c28b1 : decide (3 + t349.size ≤ 9223372036854775807) = true := decide_eq_true c28
              try have c28b2 : (9223372036854775807 < 3 + t349.size) = False := eq_false (Nat.not_lt.2 c28)
              by_cases c29 : ((⟨#[92, 117, 123]⟩ : ByteArray) ++ t349).size + 1 ≤ 9223372036854775807
              · rw [if_pos c29] at H
                have c29b0 := eq_true c29
                have c29b1 : decide (((⟨#[92, 117, 123]⟩ : ByteArray) ++ t349).size + 1 ≤ 9223372036854775807) = true := decide_eq_true c29
                try (have c29b5 := c29b0; simp only [ByteArray.size_append, Int.natCast_add] at c29b5)
                try have c29b2 : (9223372036854775807 < ((⟨#[92, 117, 123]⟩ : ByteArray) ++ t349).size + 1) = False := eq_false (Nat.not_lt.2 c29)
                try have c29b3 : (9223372036854775807 < 3 + t349.size + 1) = False := eq_false (Nat.not_lt.2 (by have h_ := c29; simp only [ByteArray.size_append] at h_; exact h_))
                try have c29b4 : (3 + t349.size + 1 ≤ 9223372036854775807) = True := eq_true (by have h_ := c29; simp only [ByteArray.size_append] at h_; exact h_)
                simp only [Option.some.injEq, Prod.mk.injEq] at H
                obtain ⟨rfl, rfl⟩ := H
                obtain ⟨hcz30_0, hcz30_1, hfz30_0, hfz30_1⟩ := bo2_ BK344
                go_wp2_with (first | ((with_reducible refine gate_callee (f := 32) rfl ?_); refine gl_ (some 57) Tryz.func32 #[.int .i64 t345, .int .i64 1] ?_; (with_reducible refine (florinlaw10_hex.calls kj2 t345 1 t349 _ A27.out).mono ?_); rintro e w31 ⟨rfl, hb⟩; refine ⟨_, rfl, ?_⟩; replace BK344 := bb_ BK344 hb; replace HB := Aside0.mk (below_step (bl_ HB).out hb); (try clear hb); (try clear hi)))
                go_ret2
                exact ⟨ew_, (bl_ HB).out⟩
              · rw [if_neg c29] at H
                exact absurd H (by simp)
            · rw [if_neg c28] at H
              exact absurd H (by simp)
        · rw [if_neg c21] at H
          have c21b0 : ((Go.bits .and .i64 a0_1 3) == 1) = false := beq_eq_false_iff_ne.mpr c21
          have c21b1 : ((Go.bits .and .i64 a0_1 3) != 1) = true := bne_iff_ne.mpr c21
          by_cases c32 : (Go.bits .and .i64 a0_1 3) = 3
          · rw [if_pos c32] at H
            have c32b0 : ((Go.bits .and .i64 a0_1 3) == 3) = true := beq_iff_eq.mpr c32
            have c32b1 : ((Go.bits .and .i64 a0_1 3) != 3) = false := bne_eq_false_iff_eq.mpr c32
            clear c32
            replace H := Option.bind_eq_some_iff.mp H
            obtain ⟨t350, A330, H⟩ := H
            replace H : (if 3 + t350.size ≤ 9223372036854775807 then (if ((⟨#[92, 117, 123]⟩ : ByteArray) ++ t350).size + 1 ≤ 9223372036854775807 then (some (t345, ((⟨#[92, 117, 123]⟩ : ByteArray) ++ t350) ++ (⟨#[125]⟩ : ByteArray))) else (none)) else (none)) = some (r1, r2) := H
            have A33 := Aside0.mk A330
            clear A330
            by_cases c34 : 3 + t350.size ≤ 9223372036854775807
            · rw [if_pos c34] at H
              have c34b0 := eq_true c34
              have c34b1 : decide (3 + t350.size ≤ 9223372036854775807) = true := decide_eq_true c34
              try have c34b2 : (9223372036854775807 < 3 + t350.size) = False := eq_false (Nat.not_lt.2 c34)
              by_cases c35 : ((⟨#[92, 117, 123]⟩ : ByteArray) ++ t350).size + 1 ≤ 9223372036854775807
              · rw [if_pos c35] at H
                have c35b0 := eq_true c35
                have c35b1 : decide (((⟨#[92, 117, 123]⟩ : ByteArray) ++ t350).size + 1 ≤ 9223372036854775807) = true := decide_eq_true c35
                try (have c35b5 := c35b0; simp only [ByteArray.size_append, Int.natCast_add] at c35b5)
                try have c35b2 : (9223372036854775807 < ((⟨#[92, 117, 123]⟩ : ByteArray) ++ t350).size + 1) = False := eq_false (Nat.not_lt.2 c35)
                try have c35b3 : (9223372036854775807 < 3 + t350.size + 1) = False := eq_false (Nat.not_lt.2 (by have h_ := c35; simp only [ByteArray.size_append] at h_; exact h_))
                try have c35b4 : (3 + t350.size + 1 ≤ 9223372036854775807) = True := eq_true (by have h_ := c35; simp only [ByteArray.size_append] at h_; exact h_)
                simp only [Option.some.injEq, Prod.mk.injEq] at H
                obtain ⟨rfl, rfl⟩ := H
                obtain ⟨hcz36_0, hcz36_1, hfz36_0, hfz36_1⟩ := bo2_ BK344
                go_wp2_with (first | ((with_reducible refine gate_callee (f := 32) rfl ?_); refine gl_ (some 52) Tryz.func32 #[.int .i64 t345, .int .i64 6] ?_; (with_reducible refine (florinlaw10_hex.calls kj2 t345 6 t350 _ A33.out).mono ?_); rintro e w37 ⟨rfl, hb⟩; refine ⟨_, rfl, ?_⟩; replace BK344 := bb_ BK344 hb; replace HB := Aside0.mk (below_step (bl_ HB).out hb); (try clear hb); (try clear hi)))
                go_ret2
                exact ⟨ew_, (bl_ HB).out⟩
              · rw [if_neg c35] at H
                exact absurd H (by simp)
            · rw [if_neg c34] at H
              exact absurd H (by simp)
          · rw [if_neg c32] at H
            have c32b0 : ((Go.bits .and .i64 a0_1 3) == 3) = false := beq_eq_false_iff_ne.mpr c32
            have c32b1 : ((Go.bits .and .i64 a0_1 3) != 3) = true := bne_iff_ne.mpr c32
            replace H := Option.bind_eq_some_iff.mp H
            obtain ⟨t351, A380, H⟩ := H
            replace H : (if 3 + t351.size ≤ 9223372036854775807 then (if ((⟨#[92, 117, 123]⟩ : ByteArray) ++ t351).size + 1 ≤ 9223372036854775807 then (some (t345, ((⟨#[92, 117, 123]⟩ : ByteArray) ++ t351) ++ (⟨#[125]⟩ : ByteArray))) else (none)) else (none)) = some (r1, r2) := H
            have A38 := Aside0.mk A380
            clear A380
            by_cases c39 : 3 + t351.size ≤ 9223372036854775807
            · rw [if_pos c39] at H
              have c39b0 := eq_true c39
              have c39b1 : decide (3 + t351.size ≤ 9223372036854775807) = true := decide_eq_true c39
              try have c39b2 : (9223372036854775807 < 3 + t351.size) = False := eq_false (Nat.not_lt.2 c39)
              by_cases c40 : ((⟨#[92, 117, 123]⟩ : ByteArray) ++ t351).size + 1 ≤ 9223372036854775807
              · rw [if_pos c40] at H
                have c40b0 := eq_true c40
                have c40b1 : decide (((⟨#[92, 117, 123]⟩ : ByteArray) ++ t351).size + 1 ≤ 9223372036854775807) = true := decide_eq_true c40
                try (have c40b5 := c40b0; simp only [ByteArray.size_append, Int.natCast_add] at c40b5)
                try have c40b2 : (9223372036854775807 < ((⟨#[92, 117, 123]⟩ : ByteArray) ++ t351).size + 1) = False := eq_false (Nat.not_lt.2 c40)
                try have c40b3 : (9223372036854775807 < 3 + t351.size + 1) = False := eq_false (Nat.not_lt.2 (by have h_ := c40; simp only [ByteArray.size_append] at h_; exact h_))
                try have c40b4 : (3 + t351.size + 1 ≤ 9223372036854775807) = True := eq_true (by have h_ := c40; simp only [ByteArray.size_append] at h_; exact h_)
                simp only [Option.some.injEq, Prod.mk.injEq] at H
                obtain ⟨rfl, rfl⟩ := H
                obtain ⟨hcz41_0, hcz41_1, hfz41_0, hfz41_1⟩ := bo2_ BK344
                go_wp2_with (first | ((with_reducible refine gate_callee (f := 32) rfl ?_); refine gl_ (some 57) Tryz.func32 #[.int .i64 t345, .int .i64 1] ?_; (with_reducible refine (florinlaw10_hex.calls kj2 t345 1 t351 _ A38.out).mono ?_); rintro e w42 ⟨rfl, hb⟩; refine ⟨_, rfl, ?_⟩; replace BK344 := bb_ BK344 hb; replace HB := Aside0.mk (below_step (bl_ HB).out hb); (try clear hb); (try clear hi)))
                go_ret2
                exact ⟨ew_, (bl_ HB).out⟩
              · rw [if_neg c40] at H
                exact absurd H (by simp)
            · rw [if_neg c39] at H
              exact absurd H (by simp)

end Go.Proofs.YtnpohgoacbpcjaaGreatDoor.P
