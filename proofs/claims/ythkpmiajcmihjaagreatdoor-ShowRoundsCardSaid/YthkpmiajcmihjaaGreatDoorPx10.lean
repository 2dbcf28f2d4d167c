-- written by a program of this session (wip/p2)
import Derived.Test.YthkpmiajcmihjaaGreatDoorPx0
namespace Go.Proofs.YthkpmiajcmihjaaGreatDoor.P
open Go.RowKit Go.Proofs.YthkpmiajcmihjaaGreatDoorW.PrintWords Go.Proofs.YthkpmiajcmihjaaGreatDoorW.PrintLast Go.Proofs.YthkpmiajcmihjaaGreatDoorW.PrintMore
attribute [local go_sem] max2_int min2_int max_two min_two max_three min_three max_four min_four   -- for this text's walks alone
set_option linter.unusedVariables false
set_option linter.unusedSimpArgs false

/-! ### florinlaw01_Digits: function 20 -/
def florinlaw01_Digits.l0 : Nat → ByteArray → List Int → Int → Int → Option (ByteArray)
  | 0, _, _, _, _ => none
  | k + 1, x3, x6, x7, x8 => if x8 < x7 then (if 0 ≤ x8 then (if x8 < (x6.length : Int) then ((some (([(48 + (Int.tmod (rd x6 x8) 10)) % 256] : List Int) : List Int)).bind fun y288 => (if x3.size + (strOfNums y288).size ≤ 9223372036854775807 then (florinlaw01_Digits.l0 k (x3 ++ (strOfNums y288)) x6 x7 (wrap64 (x8 + 1))) else (none))) else (none)) else (none)) else (some x3)
def florinlaw01_Digits.f (k : Nat) (l0 : List Int) : Option (ByteArray) := florinlaw01_Digits.l0 k (⟨#[]⟩ : ByteArray) l0 (l0.length : Int) 0
theorem florinlaw01_Digits.mono_l : ∀ k, (∀ y0 y1 y2 y3, LeO (florinlaw01_Digits.l0 k y0 y1 y2 y3) (florinlaw01_Digits.l0 (k + 1) y0 y1 y2 y3))
  | 0 => fun _ _ _ _ r h => by simp [florinlaw01_Digits.l0] at h
  | k + 1 => by
    have ih0 := florinlaw01_Digits.mono_l k
    · intro y0 y1 y2 y3
      unfold florinlaw01_Digits.l0
      repeat' first
      | (with_reducible exact ih0 _ _ _ _)
      | (with_reducible exact LeO.refl _)
      | (with_reducible exact LeO.none _)
      | (with_reducible refine LeO.ite ?_ ?_)
      | (with_reducible refine LeO.bind ?_ (fun _ => ?_))
      | exact ih0 _ _ _ _
      | exact LeO.none _
      | refine LeO.ite ?_ ?_
      | refine LeO.bind ?_ (fun _ => ?_)
theorem florinlaw01_Digits.mono : ∀ a0 k, LeO (florinlaw01_Digits.f k a0) (florinlaw01_Digits.f (k + 1) a0) := by
  intro a0 k
  have ih0 := florinlaw01_Digits.mono_l k
  unfold florinlaw01_Digits.f
  repeat' first
      | (with_reducible exact ih0 _ _ _ _)
      | (with_reducible exact LeO.refl _)
      | (with_reducible exact LeO.none _)
      | (with_reducible refine LeO.ite ?_ ?_)
      | (with_reducible refine LeO.bind ?_ (fun _ => ?_))
      | exact ih0 _ _ _ _
      | exact LeO.none _
      | refine LeO.ite ?_ ?_
      | refine LeO.bind ?_ (fun _ => ?_)
set_option maxHeartbeats 8000000 in
set_option maxRecDepth 100000 in
theorem florinlaw01_Digits.calls (k : Nat) (A0 : Option Addr) (c0 : Nat) (l0 : List Int) (r : ByteArray) (w : World) (hr0 : Kd.C (Kd.int .u8) w A0 l0.length l0) (hc0 : l0.length ≤ c0) (h : florinlaw01_Digits.f k l0 = some r) :
    Calls Tryz.prog 20 #[.slice A0 l0.length c0] w fun e w' => e = .returned (.string r) ∧ Below w.heap.size w w' := by
  have HR0 := Aside0.mk hr0
  have HC0 := Aside0.mk hc0
  clear hr0 hc0
  have HB := Aside0.mk (Below.refl w.heap.size w)
  have H : (florinlaw01_Digits.l0 k (⟨#[]⟩ : ByteArray) l0 (l0.length : Int) 0) = some r := h
  clear h
  have H' := Aside0.mk H
  clear H
  go_enter Tryz.func20, Tryz.ntmps20
  go_wp2
  go_loopg [3, 8] k (fun kq v3 v8 w' => ∃ (x3_1 : ByteArray) (x8_1 : Int), v3 = .string x3_1 ∧ v8 = .int .i64 x8_1 ∧ Aside0 (florinlaw01_Digits.l0 kq x3_1 l0 (l0.length : Int) x8_1 = some r) ∧ Aside0 (kq ≤ k) ∧ Aside0 (Below w.heap.size w w'))
  case atStart => exact ⟨((⟨#[]⟩ : ByteArray)), (0), eq_, eq_, H', ⟨Nat.le_refl _⟩, (bl_ HB)⟩
  case round =>
    clear H'
    obtain ⟨x3_1, x8_1, rfl, rfl, HA, HK1, HB⟩ := hrel
    cases gk with
    | zero => exact absurd HA.out (by simp [florinlaw01_Digits.l0])
    | succ k1 =>
      have H := HA.out
      clear HA
      simp only [florinlaw01_Digits.l0] at H
      by_cases c2 : x8_1 < (l0.length : Int)
      · rw [if_pos c2] at H
        have c2b0 : decide (x8_1 < (l0.length : Int)) = true := decide_eq_true c2
        clear c2
        by_cases c3 : 0 ≤ x8_1
        · rw [if_pos c3] at H
          have c3b0 : decide (0 ≤ x8_1) = true := decide_eq_true c3
          clear c3
          by_cases c4 : x8_1 < (l0.length : Int)
          · rw [if_pos c4] at H
            have c4b0 : decide (x8_1 < (l0.length : Int)) = true := decide_eq_true c4
            clear c4
            obtain ⟨y288, hy288⟩ : ∃ y_ : List Int, y_ = (([(48 + (Int.tmod (rd l0 x8_1) 10)) % 256] : List Int)) := ⟨_, rfl⟩
            replace H : (if x3_1.size + (strOfNums y288).size ≤ 9223372036854775807 then (florinlaw01_Digits.l0 k1 (x3_1 ++ (strOfNums y288)) l0 (l0.length : Int) (wrap64 (x8_1 + 1))) else (none)) = some r := by first | (rw [hy288]; with_reducible exact H) | (have H2_ := (Option.bind_some _ _).symm.trans H; rw [hy288]; with_reducible exact H2_) | (have H2_ := (Option.bind_some _ _).symm.trans H; with_reducible exact H2_) | with_reducible exact H | (rw [hy288]; exact H) | exact H
            have Ny288 := Aside0.mk hy288
            clear hy288
            by_cases c5 : x3_1.size + (strOfNums y288).size ≤ 9223372036854775807
            · rw [if_pos c5] at H
              have c5b0 := eq_true c5
              have c5b1 : decide (x3_1.size + (strOfNums y288).size ≤ 9223372036854775807) = true := decide_eq_true c5
              try have c5b2 : (9223372036854775807 < x3_1.size + (strOfNums y288).size) = False := eq_false (Nat.not_lt.2 c5)
              have H' := Aside0.mk H
              clear H
              have p287 : 0 ≤ (x8_1 : Int) := of_decide_eq_true (by first | (with_reducible assumption) | assumption)
              have q287 : x8_1 < (l0.length : Int) := of_decide_eq_true (by first | (with_reducible assumption) | assumption)
              obtain ⟨ad287, e287, hx287_0⟩ := Kd.at_int HR0.out x8_1 p287 q287
              cases e287
              replace hx287_0 := (HB.out.cell (World.block_lt_of_cell? w _ hx287_0)).trans hx287_0
              replace p287 := eq_true p287
              replace q287 := eq_true q287
              go_wp2_with (first | ((with_reducible refine gate_dst (N := 16) rfl ?_); refine Kd.R_lit (Kd.int .u8) _ 5 ?hg (N := 16) ?hd (xs := ([(48 + (Int.tmod (rd l0 x8_1) 10)) % 256] : List Int)) (inner := [.int .u8 ((48 + (Int.tmod (rd l0 x8_1) 10)) % 256)]) (ok := fun _ => True) (okp := fun _ => True) ?hr ?hp (fun _ hk => hk) trivial (Below.refl _ _) (Nat.le_refl _) (by simp) ?_; (case hd => rfl); (case hg => rfl); (case hr => first | (go_simp; done) | (go_simp; rfl)); (case hp => exact (Reps.one (show Kd.M (Kd.int .u8) _ _ _ ((48 + (Int.tmod (rd l0 x8_1) 10)) % 256) [.int .u8 ((48 + (Int.tmod (rd l0 x8_1) 10)) % 256)] from rfl) (Reps.none _ _))); intro v289 w6 ho7 hb hg_ hnew_; clear hg_ hnew_; (first | rw [← Ny288.out] at ho7 | (simp only [Int.reduceToNat] at ho7; rw [← Ny288.out] at ho7)); have HO290 := Aside0.mk (Kd.R_lower ho7 (below_size (bl_ HB).out)); replace HB := Aside0.mk (below_step (bl_ HB).out hb); clear hb ho7; have hcv8 := own_string (P := Tryz.prog) Tryz.underlying22 Tryz.underlying5 Tryz.underlying9 (Kd.own_of_R HO290.out)))
              go_roundg k1
              case measure => have := HK1.out; omega
              case rel => exact ⟨(x3_1 ++ (strOfNums y288)), (wrap64 (x8_1 + 1)), eq_, eq_, H', ⟨by have := HK1.out; omega⟩, (bl_ HB)⟩
            · rw [if_neg c5] at H
              exact absurd H (by simp)
          · rw [if_neg c4] at H
            exact absurd H (by simp)
        · rw [if_neg c3] at H
          exact absurd H (by simp)
      · rw [if_neg c2] at H
        have c2b0 : decide (x8_1 < (l0.length : Int)) = false := decide_eq_false c2
        clear c2
        obtain rfl := Option.some.inj H
        go_wp2
        go_ret
        exact ⟨ew_, (bl_ HB).out⟩

end Go.Proofs.YthkpmiajcmihjaaGreatDoor.P
