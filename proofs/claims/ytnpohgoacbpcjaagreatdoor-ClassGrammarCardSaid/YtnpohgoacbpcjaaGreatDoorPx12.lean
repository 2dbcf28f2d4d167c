-- written by a program of this session (wip/p2)
import Derived.Test.YtnpohgoacbpcjaaGreatDoorPx0
namespace Go.Proofs.YtnpohgoacbpcjaaGreatDoor.P
open Go.RowKit Go.Proofs.YtnpohgoacbpcjaaGreatDoorW.PrintWords Go.Proofs.YtnpohgoacbpcjaaGreatDoorW.PrintLast Go.Proofs.YtnpohgoacbpcjaaGreatDoorW.PrintMore
attribute [local go_sem] max2_int min2_int max_two min_two max_three min_three max_four min_four   -- for this text's walks alone
set_option linter.unusedVariables false
set_option linter.unusedSimpArgs false

/-! ### florinlaw10_hex: function 32 -/
def florinlaw10_hex.l0 : Nat → Int → Int → ByteArray → Option (ByteArray)
  | 0, _, _, _ => none
  | k + 1, x0, x1, x5 => if x0 > 0 then (if 0 ≤ (Go.bits .and .i64 x0 15) then (if (Go.bits .and .i64 x0 15) < 16 then ((some (([bt (⟨#[48, 49, 50, 51, 52, 53, 54, 55, 56, 57, 97, 98, 99, 100, 101, 102]⟩ : ByteArray) (Go.bits .and .i64 x0 15)] : List Int) : List Int)).bind fun y326 => (if (strOfNums y326).size + x5.size ≤ 9223372036854775807 then (florinlaw10_hex.l0 k (x0 / 16) x1 ((strOfNums y326) ++ x5)) else (none))) else (none)) else (none)) else (if (x5.size : Int) < x1 then (if 0 ≤ (Go.bits .and .i64 x0 15) then (if (Go.bits .and .i64 x0 15) < 16 then ((some (([bt (⟨#[48, 49, 50, 51, 52, 53, 54, 55, 56, 57, 97, 98, 99, 100, 101, 102]⟩ : ByteArray) (Go.bits .and .i64 x0 15)] : List Int) : List Int)).bind fun y329 => (if (strOfNums y329).size + x5.size ≤ 9223372036854775807 then (florinlaw10_hex.l0 k (x0 / 16) x1 ((strOfNums y329) ++ x5)) else (none))) else (none)) else (none)) else (some x5))
def florinlaw10_hex.f (k : Nat) (a0 : Int) (a1 : Int) : Option (ByteArray) := florinlaw10_hex.l0 k a0 a1 (⟨#[]⟩ : ByteArray)
theorem florinlaw10_hex.mono_l : ∀ k, (∀ y0 y1 y2, LeO (florinlaw10_hex.l0 k y0 y1 y2) (florinlaw10_hex.l0 (k + 1) y0 y1 y2))
  | 0 => fun _ _ _ r h => by simp [florinlaw10_hex.l0] at h
  | k + 1 => by
    have ih0 := florinlaw10_hex.mono_l k
    · intro y0 y1 y2
      unfold florinlaw10_hex.l0
      repeat' first
      | (with_reducible exact ih0 _ _ _)
      | (with_reducible exact LeO.refl _)
      | (with_reducible exact LeO.none _)
      | (with_reducible refine LeO.ite ?_ ?_)
      | (with_reducible refine LeO.bind ?_ (fun _ => ?_))
      | exact ih0 _ _ _
      | exact LeO.none _
      | refine LeO.ite ?_ ?_
      | refine LeO.bind ?_ (fun _ => ?_)
theorem florinlaw10_hex.mono : ∀ a0 a1 k, LeO (florinlaw10_hex.f k a0 a1) (florinlaw10_hex.f (k + 1) a0 a1) := by
  intro a0 a1 k
  have ih0 := florinlaw10_hex.mono_l k
  unfold florinlaw10_hex.f
  repeat' first
      | (with_reducible exact ih0 _ _ _)
      | (with_reducible exact LeO.refl _)
      | (with_reducible exact LeO.none _)
      | (with_reducible refine LeO.ite ?_ ?_)
      | (with_reducible refine LeO.bind ?_ (fun _ => ?_))
      | exact ih0 _ _ _
      | exact LeO.none _
      | refine LeO.ite ?_ ?_
      | refine LeO.bind ?_ (fun _ => ?_)
set_option maxHeartbeats 64000000 in
set_option maxRecDepth 100000 in
theorem florinlaw10_hex.calls (k : Nat) (a0 : Int) (a1 : Int) (r : ByteArray) (w : World) (h : florinlaw10_hex.f k a0 a1 = some r) :
    Calls Tryz.prog 32 #[.int .i64 a0, .int .i64 a1] w fun e w' => e = .returned (.string r) ∧ Below w.heap.size w w' := by
  have HB := Aside0.mk (Below.refl w.heap.size w)
  have H : (florinlaw10_hex.l0 k a0 a1 (⟨#[]⟩ : ByteArray)) = some r := h
  clear h
  have H' := Aside0.mk H
  clear H
  go_enter Tryz.func32, Tryz.ntmps32
  go_wp2
  go_loopg [0, 5] k (fun kq v0 v5 w' => ∃ (x0_1 : Int) (x5_1 : ByteArray), v0 = .int .i64 x0_1 ∧ v5 = .string x5_1 ∧ Aside0 (florinlaw10_hex.l0 kq x0_1 a1 x5_1 = some r) ∧ Aside0 (kq ≤ k) ∧ Aside0 (Below w.heap.size w w'))
  case atStart => exact ⟨(a0), ((⟨#[]⟩ : ByteArray)), eq_, eq_, H', ⟨Nat.le_refl _⟩, (bl_ HB)⟩
  case round =>
    clear H'
    try clear p2
    obtain ⟨x0_1, x5_1, rfl, rfl, HA, HK1, HB⟩ := hrel
    cases gk with
    | zero => exact absurd HA.out (by simp [florinlaw10_hex.l0])
    | succ k1 =>
      have H := HA.out
      clear HA
      simp only [florinlaw10_hex.l0] at H
      by_cases c3 : x0_1 > 0
      · rw [if_pos c3] at H
        have c3b0 : decide (0 < x0_1) = true := decide_eq_true c3
        clear c3
        by_cases c4 : 0 ≤ (Go.bits .and .i64 x0_1 15)
        · rw [if_pos c4] at H
          have c4b0 : decide (0 ≤ (Go.bits .and .i64 x0_1 15)) = true := decide_eq_true c4
          clear c4
          by_cases c5 : (Go.bits .and .i64 x0_1 15) < 16
          · rw [if_pos c5] at H
            have c5b0 : decide ((Go.bits .and .i64 x0_1 15) < 16) = true := decide_eq_true c5
            clear c5
            obtain ⟨y326, hy326⟩ : ∃ y_ : List Int, y_ = (([bt (⟨#[48, 49, 50, 51, 52, 53, 54, 55, 56, 57, 97, 98, 99, 100, 101, 102]⟩ : ByteArray) (Go.bits .and .i64 x0_1 15)] : List Int)) := ⟨_, rfl⟩
            replace H : (if (strOfNums y326).size + x5_1.size ≤ 9223372036854775807 then (florinlaw10_hex.l0 k1 (x0_1 / 16) a1 ((strOfNums y326) ++ x5_1)) else (none)) = some r := by first | (rw [hy326]; with_reducible exact H) | (have H2_ := (Option.bind_some _ _).symm.trans H; rw [hy326]; with_reducible exact H2_) | (have H2_ := (Option.bind_some _ _).symm.trans H; with_reducible exact H2_) | with_reducible exact H | (rw [hy326]; exact H) | exact H
            have Ny326 := Aside0.mk hy326
            clear hy326
            by_cases c7 : (strOfNums y326).size + x5_1.size ≤ 9223372036854775807
            · rw [if_pos c7] at H
              have c7b0 := eq_true c7
              have c7b1 : decide ((strOfNums y326).size + x5_1.size ≤ 9223372036854775807) = true := decide_eq_true c7
              try have c7b2 : (9223372036854775807 < (strOfNums y326).size + x5_1.size) = False := eq_false (Nat.not_lt.2 c7)
              have H' := Aside0.mk H
              clear H
              have p6 : 0 ≤ ((Go.bits .and .i64 x0_1 15) : Int) := of_decide_eq_true (by first | (with_reducible assumption) | assumption)
              have q6 : (Go.bits .and .i64 x0_1 15) < (16 : Int) := of_decide_eq_true (by first | (with_reducible assumption) | assumption)
              have hx6 := bt_at (⟨#[48, 49, 50, 51, 52, 53, 54, 55, 56, 57, 97, 98, 99, 100, 101, 102]⟩ : ByteArray) (Go.bits .and .i64 x0_1 15)
              replace p6 := eq_true p6
              replace q6 := eq_true q6
              go_wp2_with (first | ((with_reducible refine gate_dst (N := 17) rfl ?_); (try (refine gate_guard (by rfl) ?_; dsimp only)); refine Kd.R_lit (Kd.int .u8) _ 5 ?hg (N := 17) ?hd (xs := ([bt (⟨#[48, 49, 50, 51, 52, 53, 54, 55, 56, 57, 97, 98, 99, 100, 101, 102]⟩ : ByteArray) (Go.bits .and .i64 x0_1 15)] : List Int)) (inner := [.int .u8 (bt (⟨#[48, 49, 50, 51, 52, 53, 54, 55, 56, 57, 97, 98, 99, 100, 101, 102]⟩ : ByteArray) (Go.bits .and .i64 x0_1 15))]) (ok := fun _ => True) (okp := fun _ => True) ?hr ?hp (fun _ hk => hk) trivial (Below.refl _ _) (Nat.le_refl _) (by simp) ?_; (case hd => rfl); (case hg => rfl); (case hr => first | (go_simp; done) | (go_simp; rfl)); (case hp => exact (Reps.one (show Kd.M (Kd.int .u8) _ _ _ (bt (⟨#[48, 49, 50, 51, 52, 53, 54, 55, 56, 57, 97, 98, 99, 100, 101, 102]⟩ : ByteArray) (Go.bits .and .i64 x0_1 15)) [.int .u8 (bt (⟨#[48, 49, 50, 51, 52, 53, 54, 55, 56, 57, 97, 98, 99, 100, 101, 102]⟩ : ByteArray) (Go.bits .and .i64 x0_1 15))] from rfl) (Reps.none _ _))); intro v327 w8 ho9 hb hg_ hnew_; clear hg_ hnew_; (first | rw [← Ny326.out] at ho9 | (simp only [Int.reduceToNat] at ho9; rw [← Ny326.out] at ho9)); have HO328 := Aside0.mk (Kd.R_lower ho9 (below_size (bl_ HB).out)); replace HB := Aside0.mk (below_step (bl_ HB).out hb); clear hb ho9; have hcv10 := own_string (P := Tryz.prog) Tryz.underlying67 Tryz.underlying5 Tryz.underlying9 (Kd.own_of_R HO328.out)))
              go_roundg k1
              case measure => have := HK1.out; omega
              case rel => exact ⟨(x0_1 / 16), ((strOfNums y326) ++ x5_1), eq_, eq_, H', ⟨by have := HK1.out; omega⟩, (bl_ HB)⟩
            · rw [if_neg c7] at H
              exact absurd H (by simp)
          · rw [if_neg c5] at H
            exact absurd H (by simp)
        · rw [if_neg c4] at H
          exact absurd H (by simp)
      · rw [if_neg c3] at H
        have c3b0 : decide (0 < x0_1) = false := decide_eq_false c3
        clear c3
        by_cases c11 : (x5_1.size : Int) < a1
        · rw [if_pos c11] at H
          have c11b0 : decide ((x5_1.size : Int) < a1) = true := decide_eq_true c11
          clear c11
          by_cases c12 : 0 ≤ (Go.bits .and .i64 x0_1 15)
          · rw [if_pos c12] at H
            have c12b0 : decide (0 ≤ (Go.bits .and .i64 x0_1 15)) = true := decide_eq_true c12
            clear c12
            by_cases c13 : (Go.bits .and .i64 x0_1 15) < 16
            · rw [if_pos c13] at H
              have c13b0 : decide ((Go.bits .and .i64 x0_1 15) < 16) = true := decide_eq_true c13
              clear c13
              obtain ⟨y329, hy329⟩ : ∃ y_ : List Int, y_ = (([bt (⟨#[48, 49, 50, 51, 52, 53, 54, 55, 56, 57, 97, 98, 99, 100, 101, 102]⟩ : ByteArray) (Go.bits .and .i64 x0_1 15)] : List Int)) := ⟨_, rfl⟩
              replace H : (if (strOfNums y329).size + x5_1.size ≤ 9223372036854775807 then (florinlaw10_hex.l0 k1 (x0_1 / 16) a1 ((strOfNums y329) ++ x5_1)) else (none)) = some r := by first | (rw [hy329]; with_reducible exact H) | (have H2_ := (Option.bind_some _ _).symm.trans H; rw [hy329]; with_reducible exact H2_) | (have H2_ := (Option.bind_some _ _).symm.trans H; with_reducible exact H2_) | with_reducible exact H | (rw [hy329]; exact H) | exact H
              have Ny329 := Aside0.mk hy329
              clear hy329
              by_cases c15 : (strOfNums y329).size + x5_1.size ≤ 9223372036854775807
              · rw [if_pos c15] at H
                have c15b0 := eq_true c15
                have c15b1 : decide ((strOfNums y329).size + x5_1.size ≤ 9223372036854775807) = true := decide_eq_true c15
                try have c15b2 : (9223372036854775807 < (strOfNums y329).size + x5_1.size) = False := eq_false (Nat.not_lt.2 c15)
                have H' := Aside0.mk H
                clear H
                have p14 : 0 ≤ ((Go.bits .and .i64 x0_1 15) : Int) := of_decide_eq_true (by first | (with_reducible assumption) | assumption)
                have q14 : (Go.bits .and .i64 x0_1 15) < (16 : Int) := of_decide_eq_true (by first | (with_reducible assumption) | assumption)
                have hx14 := bt_at (⟨#[48, 49, 50, 51, 52, 53, 54, 55, 56, 57, 97, 98, 99, 100, 101, 102]⟩ : ByteArray) (Go.bits .and .i64 x0_1 15)
                replace p14 := eq_true p14
                replace q14 := eq_true q14
                go_wp2_with (first | ((with_reducible refine gate_dst (N := 17) rfl ?_); (try (refine gate_guard (by rfl) ?_; dsimp only)); refine Kd.R_lit (Kd.int .u8) _ 5 ?hg (N := 17) ?hd (xs := ([bt (⟨#[48, 49, 50, 51, 52, 53, 54, 55, 56, 57, 97, 98, 99, 100, 101, 102]⟩ : ByteArray) (Go.bits .and .i64 x0_1 15)] : List Int)) (inner := [.int .u8 (bt (⟨#[48, 49, 50, 51, 52, 53, 54, 55, 56, 57, 97, 98, 99, 100, 101, 102]⟩ : ByteArray) (Go.bits .and .i64 x0_1 15))]) (ok := fun _ => True) (okp := fun _ => True) ?hr ?hp (fun _ hk => hk) trivial (Below.refl _ _) (Nat.le_refl _) (by simp) ?_; (case hd => rfl); (case hg => rfl); (case hr => first | (go_simp; done) | (go_simp; rfl)); (case hp => exact (Reps.one (show Kd.M (Kd.int .u8) _ _ _ (bt (⟨#[48, 49, 50, 51, 52, 53, 54, 55, 56, 57, 97, 98, 99, 100, 101, 102]⟩ : ByteArray) (Go.bits .and .i64 x0_1 15)) [.int .u8 (bt (⟨#[48, 49, 50, 51, 52, 53, 54, 55, 56, 57, 97, 98, 99, 100, 101, 102]⟩ : ByteArray) (Go.bits .and .i64 x0_1 15))] from rfl) (Reps.none _ _))); intro v330 w16 ho17 hb hg_ hnew_; clear hg_ hnew_; (first | rw [← Ny329.out] at ho17 | (simp only [Int.reduceToNat] at ho17; rw [← Ny329.out] at ho17)); have HO331 := Aside0.mk (Kd.R_lower ho17 (below_size (bl_ HB).out)); replace HB := Aside0.mk (below_step (bl_ HB).out hb); clear hb ho17; have hcv18 := own_string (P := Tryz.prog) Tryz.underlying67 Tryz.underlying5 Tryz.underlying9 (Kd.own_of_R HO331.out)))
                go_roundg k1
                case measure => have := HK1.out; omega
                case rel => exact ⟨(x0_1 / 16), ((strOfNums y329) ++ x5_1), eq_, eq_, H', ⟨by have := HK1.out; omega⟩, (bl_ HB)⟩
              · rw [if_neg c15] at H
                exact absurd H (by simp)
            · rw [if_neg c13] at H
              exact absurd H (by simp)
          · rw [if_neg c12] at H
            exact absurd H (by simp)
        · rw [if_neg c11] at H
          have c11b0 : decide ((x5_1.size : Int) < a1) = false := decide_eq_false c11
          clear c11
          obtain rfl := Option.some.inj H
          go_wp2
          go_ret
          exact ⟨ew_, (bl_ HB).out⟩

end Go.Proofs.YtnpohgoacbpcjaaGreatDoor.P
