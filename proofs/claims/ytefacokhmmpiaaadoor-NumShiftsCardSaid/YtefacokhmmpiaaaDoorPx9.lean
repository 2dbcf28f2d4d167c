-- written by a program of this session (wip/p2)
import Derived.Test.YtefacokhmmpiaaaDoorPx0
import Derived.Test.YtefacokhmmpiaaaDoorPx2
import Derived.Test.YtefacokhmmpiaaaDoorPx3
import Derived.Test.YtefacokhmmpiaaaDoorPx8
namespace Go.Proofs.YtefacokhmmpiaaaDoor.P
open Go.RowKit Go.Proofs.YtefacokhmmpiaaaDoorW.PrintWords Go.Proofs.YtefacokhmmpiaaaDoorW.PrintLast Go.Proofs.YtefacokhmmpiaaaDoorW.PrintMore
attribute [local go_sem] max2_int min2_int max_two min_two max_three min_three max_four min_four   -- for this text's walks alone
set_option linter.unusedVariables false
set_option linter.unusedSimpArgs false

/-! ### florinlaw01_NumShifts: function 10 -/
def florinlaw01_NumShifts.l0 : Nat → Int → ByteArray → Int → Int → Option (Bool)
  | 0, _, _, _, _ => none
  | k + 1, x1, x5, x6, x7 => if x7 < x1 then (florinlaw01_NumShifts.l0 k x1 x5 (wrap64 (x6 * 10)) (wrap64 (x7 + 1))) else ((num_Div.f k x5 x6).bind fun bt278 => (if 0 ≤ (mx (wrap64 ((x5.size : Int) - x1)) 0) then (if (mx (wrap64 ((x5.size : Int) - x1)) 0) ≤ (x5.size : Int) then ((num_Int.f k (x5.extract ((mx (wrap64 ((x5.size : Int) - x1)) 0) : Int).toNat x5.size)).bind fun bt280 => ((num_Times.f k x5 x6).bind fun t282 => ((num_Zeros.f x1).bind fun t283 => (if x5.size + t283.size ≤ 9223372036854775807 then ((florinlaw01_bare.f k (x5 ++ t283)).bind fun t284 => (if t282.toList = t284.toList then ((florinlaw01_bare.f k (x5.extract 0 ((mx (wrap64 ((x5.size : Int) - x1)) 0) : Int).toNat)).bind fun t285 => (if bt278.1.toList = t285.toList then (if bt280.2 = true then (some (bt278.2 == bt280.1)) else (some false)) else (some false))) else (some false))) else (none))))) else (none)) else (none)))
def florinlaw01_NumShifts.f (k : Nat) (l0 : List Int) (a1 : Int) : Option (Bool) := (florinlaw01_head.f k).bind fun t276 => (if t276 = true then (if (l0.length : Int) > 200 then (some true) else ((florinlaw01_Digits.f k l0).bind fun t277 => (florinlaw01_NumShifts.l0 k (Go.bits .and .i64 a1 7) t277 1 0))) else (some false))
theorem florinlaw01_NumShifts.mono_l : ∀ k, (∀ y0 y1 y2 y3, LeO (florinlaw01_NumShifts.l0 k y0 y1 y2 y3) (florinlaw01_NumShifts.l0 (k + 1) y0 y1 y2 y3))
  | 0 => fun _ _ _ _ r h => by simp [florinlaw01_NumShifts.l0] at h
  | k + 1 => by
    have ih0 := florinlaw01_NumShifts.mono_l k
    · intro y0 y1 y2 y3
      unfold florinlaw01_NumShifts.l0
      repeat' first
      | (with_reducible exact ih0 _ _ _ _)
      | (with_reducible exact florinlaw01_Digits.mono _ _)
      | (with_reducible exact florinlaw01_bare.mono _ _)
      | (with_reducible exact florinlaw01_head.mono _)
      | (with_reducible exact num_Div.mono _ _ _)
      | (with_reducible exact num_Int.mono _ _)
      | (with_reducible exact num_Times.mono _ _ _)
      | (with_reducible exact LeO.refl _)
      | (with_reducible exact LeO.none _)
      | (with_reducible refine LeO.ite ?_ ?_)
      | (with_reducible refine LeO.bind ?_ (fun _ => ?_))
      | exact ih0 _ _ _ _
      | exact florinlaw01_Digits.mono _ _
      | exact florinlaw01_bare.mono _ _
      | exact florinlaw01_head.mono _
      | exact num_Div.mono _ _ _
      | exact num_Int.mono _ _
      | exact num_Times.mono _ _ _
      | exact LeO.none _
      | refine LeO.ite ?_ ?_
      | refine LeO.bind ?_ (fun _ => ?_)
theorem florinlaw01_NumShifts.mono : ∀ a0 a1 k, LeO (florinlaw01_NumShifts.f k a0 a1) (florinlaw01_NumShifts.f (k + 1) a0 a1) := by
  intro a0 a1 k
  have ih0 := florinlaw01_NumShifts.mono_l k
  unfold florinlaw01_NumShifts.f
  repeat' first
      | (with_reducible exact ih0 _ _ _ _)
      | (with_reducible exact florinlaw01_Digits.mono _ _)
      | (with_reducible exact florinlaw01_bare.mono _ _)
      | (with_reducible exact florinlaw01_head.mono _)
      | (with_reducible exact num_Div.mono _ _ _)
      | (with_reducible exact num_Int.mono _ _)
      | (with_reducible exact num_Times.mono _ _ _)
      | (with_reducible exact LeO.refl _)
      | (with_reducible exact LeO.none _)
      | (with_reducible refine LeO.ite ?_ ?_)
      | (with_reducible refine LeO.bind ?_ (fun _ => ?_))
      | exact ih0 _ _ _ _
      | exact florinlaw01_Digits.mono _ _
      | exact florinlaw01_bare.mono _ _
      | exact florinlaw01_head.mono _
      | exact num_Div.mono _ _ _
      | exact num_Int.mono _ _
      | exact num_Times.mono _ _ _
      | exact LeO.none _
      | refine LeO.ite ?_ ?_
      | refine LeO.bind ?_ (fun _ => ?_)
set_option maxHeartbeats 8000000 in
set_option maxRecDepth 100000 in
theorem florinlaw01_NumShifts.calls (k : Nat) (A0 : Option Addr) (c0 : Nat) (l0 : List Int) (a1 : Int) (r : Bool) (w : World) (hr0 : Kd.C (Kd.int .u8) w A0 l0.length l0) (hc0 : l0.length ≤ c0) (h : florinlaw01_NumShifts.f k l0 a1 = some r) :
    Calls Tryd.prog 10 #[.slice A0 l0.length c0, .int .i64 a1] w fun e w' => e = .returned (.bool r) ∧ Below w.heap.size w w' := by
  have HR0 := Aside0.mk hr0
  have HC0 := Aside0.mk hc0
  clear hr0 hc0
  have HB := Aside0.mk (Below.refl w.heap.size w)
  have H : ((florinlaw01_head.f k).bind fun t276 => (if t276 = true then (if (l0.length : Int) > 200 then (some true) else ((florinlaw01_Digits.f k l0).bind fun t277 => (florinlaw01_NumShifts.l0 k (Go.bits .and .i64 a1 7) t277 1 0))) else (some false))) = some r := h
  clear h
  replace H := Option.bind_eq_some_iff.mp H
  obtain ⟨t276, A30, H⟩ := H
  replace H : (if t276 = true then (if (l0.length : Int) > 200 then (some true) else ((florinlaw01_Digits.f k l0).bind fun t277 => (florinlaw01_NumShifts.l0 k (Go.bits .and .i64 a1 7) t277 1 0))) else (some false)) = some r := H
  have A3 := Aside0.mk A30
  clear A30
  by_cases c4 : t276 = true
  · subst c4
    have H1 : (if (l0.length : Int) > 200 then (some true) else ((florinlaw01_Digits.f k l0).bind fun t277 => (florinlaw01_NumShifts.l0 k (Go.bits .and .i64 a1 7) t277 1 0))) = some r := by rw [if_pos rfl] at H; exact H
    clear H
    have H := H1
    clear H1
    by_cases c5 : (l0.length : Int) > 200
    · rw [if_pos c5] at H
      have c5b0 : decide (200 < (l0.length : Int)) = true := decide_eq_true c5
      have c5b1 : decide (200 < l0.length) = true := decide_eq_true (by omega)
      clear c5
      obtain rfl := Option.some.inj H
      go_enter Tryd.func10, Tryd.ntmps10
      go_wp2_with (first | ((with_reducible refine gate_callee (f := 12) rfl ?_); refine goesL_ (some 13) rfl rfl Tryd.func12 (by kernel_rfl) rfl #[] rfl (by (try simp only [List.map_toArray, List.map_cons, List.map_nil]); first | done | rfl | (simp only [List.length_drop, List.length_take]; rfl)) ?_; (with_reducible refine (florinlaw01_head.calls k  true _ A3.out).mono ?_); rintro e w6 ⟨rfl, hb⟩; refine ⟨_, rfl, ?_⟩; have n0_ := Aside0.mk (below_step (by repeat (first | (with_reducible first | exact HB.out | apply below_alloc | apply pw_below_drewN | apply below_drew1) | exact HB.out)) hb); clear HB; have HB := n0_; clear n0_; (try clear hb); (try clear hb2); (try clear hk); (try clear hi)))
      go_ret
      exact ⟨by first | rfl | (simp [errW_none, errW_some] <;> rfl) | (simp [*, errW_none, errW_some] <;> rfl), by repeat (first | (with_reducible first | exact HB.out | apply below_alloc | apply pw_below_drewN | apply below_drew1) | exact HB.out)⟩
    · rw [if_neg c5] at H
      have c5b0 : decide (200 < (l0.length : Int)) = false := decide_eq_false c5
      have c5b1 : decide (200 < l0.length) = false := decide_eq_false (by omega)
      clear c5
      replace H := Option.bind_eq_some_iff.mp H
      obtain ⟨t277, A70, H⟩ := H
      replace H : (florinlaw01_NumShifts.l0 k (Go.bits .and .i64 a1 7) t277 1 0) = some r := H
      have A7 := Aside0.mk A70
      clear A70
      have H' := Aside0.mk H
      clear H
      go_enter Tryd.func10, Tryd.ntmps10
      go_wp2_with (first | ((with_reducible refine gate_callee (f := 12) rfl ?_); refine goesL_ (some 13) rfl rfl Tryd.func12 (by kernel_rfl) rfl #[] rfl (by (try simp only [List.map_toArray, List.map_cons, List.map_nil]); first | done | rfl | (simp only [List.length_drop, List.length_take]; rfl)) ?_; (with_reducible refine (florinlaw01_head.calls k  true _ A3.out).mono ?_); rintro e w8 ⟨rfl, hb⟩; refine ⟨_, rfl, ?_⟩; have n0_ := Aside0.mk (below_step (by repeat (first | (with_reducible first | exact HB.out | apply below_alloc | apply pw_below_drewN | apply below_drew1) | exact HB.out)) hb); clear HB; have HB := n0_; clear n0_; (try clear hb); (try clear hb2); (try clear hk); (try clear hi)) | ((with_reducible refine gate_callee (f := 13) rfl ?_); refine goesL_ (some 19) rfl rfl Tryd.func13 (by kernel_rfl) rfl #[.slice A0 l0.length c0] rfl (by (try simp only [List.map_toArray, List.map_cons, List.map_nil]); first | done | rfl | (simp only [List.length_drop, List.length_take]; rfl)) ?_; (with_reducible refine (florinlaw01_Digits.calls k _ _ l0 t277 _ ?side1 ?side2 A7.out).mono ?_); (case side1 => repeat (first | exact (Kd.C_below HR0.out HB.out) | (with_reducible refine Kd.C_alloc ?_ _) | (with_reducible refine Kd.C_drewN ?_ _) | (with_reducible refine Kd.C_drew ?_))); (case side2 => exact HC0.out); rintro e w9 ⟨rfl, hb⟩; refine ⟨_, rfl, ?_⟩; have n0_ := Aside0.mk (below_step (by repeat (first | (with_reducible first | exact HB.out | apply below_alloc | apply pw_below_drewN | apply below_drew1) | exact HB.out)) hb); clear HB; have HB := n0_; clear n0_; (try clear hb); (try clear hb2); (try clear hk); (try clear hi)))
      go_loopg [6, 7] k (fun kq v6 v7 w' => ∃ (x6_1 : Int) (x7_1 : Int), v6 = .int .i64 x6_1 ∧ v7 = .int .i64 x7_1 ∧ Aside0 (florinlaw01_NumShifts.l0 kq (Go.bits .and .i64 a1 7) t277 x6_1 x7_1 = some r) ∧ Aside0 (kq ≤ k) ∧ Aside0 (Below w.heap.size w w'))
      case atStart => exact ⟨(1), (0), (by first | rfl | (simp; done) | (simp [*]; done) | (simp; first | exact given_isEmpty _ | exact (given_isEmpty _).symm)), (by first | rfl | (simp; done) | (simp [*]; done) | (simp; first | exact given_isEmpty _ | exact (given_isEmpty _).symm)), H', ⟨Nat.le_refl _⟩, ⟨by repeat (first | (with_reducible first | exact HB.out | apply below_alloc | apply pw_below_drewN | apply below_drew1) | exact HB.out)⟩⟩
      case round =>
        clear H'
        try clear c1
        try clear p2
        try clear c4
        try clear c5
        try clear c5b0
        try clear c5b1
        obtain ⟨x6_1, x7_1, rfl, rfl, HA, HK1, HB⟩ := hrel
        cases gk with
        | zero => exact absurd HA.out (by simp [florinlaw01_NumShifts.l0])
        | succ k1 =>
          have H := HA.out
          clear HA
          simp only [florinlaw01_NumShifts.l0] at H
          by_cases c10 : x7_1 < (Go.bits .and .i64 a1 7)
          · rw [if_pos c10] at H
            have c10b0 : decide (x7_1 < (Go.bits .and .i64 a1 7)) = true := decide_eq_true c10
            clear c10
            have H' := Aside0.mk H
            clear H
            go_wp2
            go_roundg k1
            case measure => have := HK1.out; omega
            case rel => exact ⟨(wrap64 (x6_1 * 10)), (wrap64 (x7_1 + 1)), (by first | rfl | (simp; done) | (simp [*]; done) | (simp; first | exact given_isEmpty _ | exact (given_isEmpty _).symm)), (by first | rfl | (simp; done) | (simp [*]; done) | (simp; first | exact given_isEmpty _ | exact (given_isEmpty _).symm)), H', ⟨by have := HK1.out; omega⟩, ⟨by repeat (first | (with_reducible first | exact HB.out | apply below_alloc | apply pw_below_drewN | apply below_drew1) | exact HB.out)⟩⟩
          · rw [if_neg c10] at H
            have c10b0 : decide (x7_1 < (Go.bits .and .i64 a1 7)) = false := decide_eq_false c10
            clear c10
            replace H := Option.bind_eq_some_iff.mp H
            obtain ⟨⟨t278, t279⟩, A110, H⟩ := H
            replace H : (if 0 ≤ (mx (wrap64 ((t277.size : Int) - (Go.bits .and .i64 a1 7))) 0) then (if (mx (wrap64 ((t277.size : Int) - (Go.bits .and .i64 a1 7))) 0) ≤ (t277.size : Int) then ((num_Int.f k1 (t277.extract ((mx (wrap64 ((t277.size : Int) - (Go.bits .and .i64 a1 7))) 0) : Int).toNat t277.size)).bind fun bt280 => ((num_Times.f k1 t277 x6_1).bind fun t282 => ((num_Zeros.f (Go.bits .and .i64 a1 7)).bind fun t283 => (if t277.size + t283.size ≤ 9223372036854775807 then ((florinlaw01_bare.f k1 (t277 ++ t283)).bind fun t284 => (if t282.toList = t284.toList then ((florinlaw01_bare.f k1 (t277.extract 0 ((mx (wrap64 ((t277.size : Int) - (Go.bits .and .i64 a1 7))) 0) : Int).toNat)).bind fun t285 => (if t278.toList = t285.toList then (if bt280.2 = true then (some (t279 == bt280.1)) else (some false)) else (some false))) else (some false))) else (none))))) else (none)) else (none)) = some r := H
            have A11 := Aside0.mk A110
            clear A110
            obtain ⟨ji12, hji12⟩ : ∃ j_ : Int, (mx (wrap64 ((t277.size : Int) - (Go.bits .and .i64 a1 7))) 0) = j_ := ⟨_, rfl⟩
            replace H : (if 0 ≤ (ji12) then (if (ji12) ≤ (t277.size : Int) then ((num_Int.f k1 (t277.extract ((ji12) : Int).toNat t277.size)).bind fun bt280 => ((num_Times.f k1 t277 x6_1).bind fun t282 => ((num_Zeros.f (Go.bits .and .i64 a1 7)).bind fun t283 => (if t277.size + t283.size ≤ 9223372036854775807 then ((florinlaw01_bare.f k1 (t277 ++ t283)).bind fun t284 => (if t282.toList = t284.toList then ((florinlaw01_bare.f k1 (t277.extract 0 ((ji12) : Int).toNat)).bind fun t285 => (if t278.toList = t285.toList then (if bt280.2 = true then (some (t279 == bt280.1)) else (some false)) else (some false))) else (some false))) else (none))))) else (none)) else (none)) = some r := by first | (rw [hji12] at H; exact H) | (simp only [hji12] at H ⊢; exact H)
            (try rw [hji12] at A11)
            have hji12_ : (if (wrap64 ((t277.size : Int) - (Go.bits .and .i64 a1 7))) < 0 then 0 else (wrap64 ((t277.size : Int) - (Go.bits .and .i64 a1 7)))) = ji12 := hji12
            by_cases c13 : 0 ≤ (ji12)
            · rw [if_pos c13] at H
              have c13b0 := eq_true c13
              have c13b1 : decide (0 ≤ (ji12)) = true := decide_eq_true c13
              clear c13
              by_cases c14 : (ji12) ≤ (t277.size : Int)
              · rw [if_pos c14] at H
                have c14b0 := eq_true c14
                have c14b1 : decide ((ji12) ≤ (t277.size : Int)) = true := decide_eq_true c14
                clear c14
                replace H := Option.bind_eq_some_iff.mp H
                obtain ⟨⟨t280, t281⟩, A150, H⟩ := H
                replace H : ((num_Times.f k1 t277 x6_1).bind fun t282 => ((num_Zeros.f (Go.bits .and .i64 a1 7)).bind fun t283 => (if t277.size + t283.size ≤ 9223372036854775807 then ((florinlaw01_bare.f k1 (t277 ++ t283)).bind fun t284 => (if t282.toList = t284.toList then ((florinlaw01_bare.f k1 (t277.extract 0 ((ji12) : Int).toNat)).bind fun t285 => (if t278.toList = t285.toList then (if t281 = true then (some (t279 == t280)) else (some false)) else (some false))) else (some false))) else (none)))) = some r := H
                have A15 := Aside0.mk A150
                clear A150
                replace H := Option.bind_eq_some_iff.mp H
                obtain ⟨t282, A160, H⟩ := H
                replace H : ((num_Zeros.f (Go.bits .and .i64 a1 7)).bind fun t283 => (if t277.size + t283.size ≤ 9223372036854775807 then ((florinlaw01_bare.f k1 (t277 ++ t283)).bind fun t284 => (if t282.toList = t284.toList then ((florinlaw01_bare.f k1 (t277.extract 0 ((ji12) : Int).toNat)).bind fun t285 => (if t278.toList = t285.toList then (if t281 = true then (some (t279 == t280)) else (some false)) else (some false))) else (some false))) else (none))) = some r := H
                have A16 := Aside0.mk A160
                clear A160
                replace H := Option.bind_eq_some_iff.mp H
                obtain ⟨t283, A170, H⟩ := H
                replace H : (if t277.size + t283.size ≤ 9223372036854775807 then ((florinlaw01_bare.f k1 (t277 ++ t283)).bind fun t284 => (if t282.toList = t284.toList then ((florinlaw01_bare.f k1 (t277.extract 0 ((ji12) : Int).toNat)).bind fun t285 => (if t278.toList = t285.toList then (if t281 = true then (some (t279 == t280)) else (some false)) else (some false))) else (some false))) else (none)) = some r := H
                have A17 := Aside0.mk A170
                clear A170
                by_cases c18 : t277.size + t283.size ≤ 9223372036854775807
                · rw [if_pos c18] at H
                  have c18b0 := eq_true c18
                  have c18b1 : decide (t277.size + t283.size ≤ 9223372036854775807) = true := decide_eq_true c18
                  try have c18b2 : (9223372036854775807 < t277.size + t283.size) = False := eq_false (Nat.not_lt.2 c18)
                  replace H := Option.bind_eq_some_iff.mp H
                  obtain ⟨t284, A190, H⟩ := H
                  replace H : (if t282.toList = t284.toList then ((florinlaw01_bare.f k1 (t277.extract 0 ((ji12) : Int).toNat)).bind fun t285 => (if t278.toList = t285.toList then (if t281 = true then (some (t279 == t280)) else (some false)) else (some false))) else (some false)) = some r := H
                  have A19 := Aside0.mk A190
                  clear A190
                  by_cases c20 : t282.toList = t284.toList
                  · rw [if_pos c20] at H
                    have c20b0 : (t282.toList == t284.toList) = true := beq_iff_eq.mpr c20
                    have c20b1 : (t282.toList != t284.toList) = false := bne_eq_false_iff_eq.mpr c20
                    clear c20
                    have c21b0 := eq_true (of_decide_eq_true (by first | (with_reducible assumption) | assumption) : 0 ≤ (ji12))
                    have c22b0 := eq_true (of_decide_eq_true (by first | (with_reducible assumption) | assumption) : (ji12) ≤ (t277.size : Int))
                    replace H := Option.bind_eq_some_iff.mp H
                    obtain ⟨t285, A230, H⟩ := H
                    replace H : (if t278.toList = t285.toList then (if t281 = true then (some (t279 == t280)) else (some false)) else (some false)) = some r := H
                    have A23 := Aside0.mk A230
                    clear A230
                    by_cases c24 : t278.toList = t285.toList
                    · rw [if_pos c24] at H
                      have c24b0 : (t278.toList == t285.toList) = true := beq_iff_eq.mpr c24
                      have c24b1 : (t278.toList != t285.toList) = false := bne_eq_false_iff_eq.mpr c24
                      clear c24
                      by_cases c25 : t281 = true
                      · subst c25
                        have H1 : (some (t279 == t280)) = some r := by rw [if_pos rfl] at H; exact H
                        clear H
                        have H := H1
                        clear H1
                        obtain rfl := Option.some.inj H
                        go_wp2_with (first | ((with_reducible refine gate_callee (f := 19) rfl ?_); refine goesL_ (some 32) rfl rfl Tryd.func19 (by kernel_rfl) rfl #[.string t277, .int .i64 x6_1] rfl (by (try simp only [List.map_toArray, List.map_cons, List.map_nil]); first | done | rfl | (simp only [List.length_drop, List.length_take]; rfl)) ?_; (with_reducible refine (num_Div.calls k1 t277 x6_1 t278 t279 _ A11.out).mono ?_); rintro e w26 ⟨rfl, hb⟩; refine ⟨_, rfl, ?_⟩; have n0_ := Aside0.mk (below_step (by repeat (first | (with_reducible first | exact HB.out | apply below_alloc | apply pw_below_drewN | apply below_drew1) | exact HB.out)) hb); clear HB; have HB := n0_; clear n0_; (try clear hb); (try clear hb2); (try clear hk); (try clear hi)) | ((with_reducible refine gate_callee (f := 17) rfl ?_); refine goesL_ (some 44) rfl rfl Tryd.func17 (by kernel_rfl) rfl #[.string (t277.extract ((ji12) : Int).toNat t277.size)] rfl (by (try simp only [List.map_toArray, List.map_cons, List.map_nil]); first | done | (simp only [hji12]; rfl) | rfl | (simp only [List.length_drop, List.length_take]; rfl)) ?_; (with_reducible refine (num_Int.calls k1 (t277.extract ((ji12) : Int).toNat t277.size) t280 true _ A15.out).mono ?_); rintro e w27 ⟨rfl, hb⟩; refine ⟨_, rfl, ?_⟩; have n0_ := Aside0.mk (below_step (by repeat (first | (with_reducible first | exact HB.out | apply below_alloc | apply pw_below_drewN | apply below_drew1) | exact HB.out)) hb); clear HB; have HB := n0_; clear n0_; (try clear hb); (try clear hb2); (try clear hk); (try clear hi)) | ((with_reducible refine gate_callee (f := 14) rfl ?_); refine goesL_ (some 49) rfl rfl Tryd.func14 (by kernel_rfl) rfl #[.string t277, .int .i64 x6_1] rfl (by (try simp only [List.map_toArray, List.map_cons, List.map_nil]); first | done | rfl | (simp only [List.length_drop, List.length_take]; rfl)) ?_; (with_reducible refine (num_Times.calls k1 t277 x6_1 t282 _ A16.out).mono ?_); rintro e w28 ⟨rfl, hb⟩; refine ⟨_, rfl, ?_⟩; have n0_ := Aside0.mk (below_step (by repeat (first | (with_reducible first | exact HB.out | apply below_alloc | apply pw_below_drewN | apply below_drew1) | exact HB.out)) hb); clear HB; have HB := n0_; clear n0_; (try clear hb); (try clear hb2); (try clear hk); (try clear hi)) | ((with_reducible refine gate_callee (f := 25) rfl ?_); refine goesL_ (some 52) rfl rfl Tryd.func25 (by kernel_rfl) rfl #[.int .i64 (Go.bits .and .i64 a1 7)] rfl (by (try simp only [List.map_toArray, List.map_cons, List.map_nil]); first | done | rfl | (simp only [List.length_drop, List.length_take]; rfl)) ?_; (with_reducible refine (num_Zeros.calls (Go.bits .and .i64 a1 7) t283 _ A17.out).mono ?_); rintro e w29 ⟨rfl, hb⟩; refine ⟨_, rfl, ?_⟩; have n0_ := Aside0.mk (below_step (by repeat (first | (with_reducible first | exact HB.out | apply below_alloc | apply pw_below_drewN | apply below_drew1) | exact HB.out)) hb); clear HB; have HB := n0_; clear n0_; (try clear hb); (try clear hb2); (try clear hk); (try clear hi)) | ((with_reducible refine gate_callee (f := 15) rfl ?_); refine goesL_ (some 54) rfl rfl Tryd.func15 (by kernel_rfl) rfl #[.string (t277 ++ t283)] rfl (by (try simp only [List.map_toArray, List.map_cons, List.map_nil]); first | done | rfl | (simp only [List.length_drop, List.length_take]; rfl)) ?_; (with_reducible refine (florinlaw01_bare.calls k1 (t277 ++ t283) t284 _ A19.out).mono ?_); rintro e w' ⟨rfl, ⟨nd, rfl⟩⟩; refine ⟨_, rfl, ?_⟩) | (go_at_call 15; (with_reducible refine (florinlaw01_bare.calls k1 (t277.extract 0 ((ji12) : Int).toNat) t285 _ A23.out).mono ?_); rintro e w' ⟨rfl, ⟨nd, rfl⟩⟩))
                        go_ret
                        exact ⟨by first | rfl | (simp [errW_none, errW_some] <;> rfl) | (simp only [← hji12]; first | rfl | (simp [errW_none, errW_some] <;> rfl)) | (simp [*, errW_none, errW_some] <;> rfl), by repeat (first | (with_reducible first | exact HB.out | apply below_alloc | apply pw_below_drewN | apply below_drew1) | exact HB.out)⟩
                      · replace c25 := Bool.eq_false_iff.mpr c25
                        subst c25
                        have H1 : (some false) = some r := by rw [if_neg (show ¬ (false = true) by decide)] at H; exact H
                        clear H
                        have H := H1
                        clear H1
                        obtain rfl := Option.some.inj H
                        go_wp2_with (first | ((with_reducible refine gate_callee (f := 19) rfl ?_); refine goesL_ (some 32) rfl rfl Tryd.func19 (by kernel_rfl) rfl #[.string t277, .int .i64 x6_1] rfl (by (try simp only [List.map_toArray, List.map_cons, List.map_nil]); first | done | rfl | (simp only [List.length_drop, List.length_take]; rfl)) ?_; (with_reducible refine (num_Div.calls k1 t277 x6_1 t278 t279 _ A11.out).mono ?_); rintro e w30 ⟨rfl, hb⟩; refine ⟨_, rfl, ?_⟩; have n0_ := Aside0.mk (below_step (by repeat (first | (with_reducible first | exact HB.out | apply below_alloc | apply pw_below_drewN | apply below_drew1) | exact HB.out)) hb); clear HB; have HB := n0_; clear n0_; (try clear hb); (try clear hb2); (try clear hk); (try clear hi)) | ((with_reducible refine gate_callee (f := 17) rfl ?_); refine goesL_ (some 44) rfl rfl Tryd.func17 (by kernel_rfl) rfl #[.string (t277.extract ((ji12) : Int).toNat t277.size)] rfl (by (try simp only [List.map_toArray, List.map_cons, List.map_nil]); first | done | (simp only [hji12]; rfl) | rfl | (simp only [List.length_drop, List.length_take]; rfl)) ?_; (with_reducible refine (num_Int.calls k1 (t277.extract ((ji12) : Int).toNat t277.size) t280 false _ A15.out).mono ?_); rintro e w31 ⟨rfl, hb⟩; refine ⟨_, rfl, ?_⟩; have n0_ := Aside0.mk (below_step (by repeat (first | (with_reducible first | exact HB.out | apply below_alloc | apply pw_below_drewN | apply below_drew1) | exact HB.out)) hb); clear HB; have HB := n0_; clear n0_; (try clear hb); (try clear hb2); (try clear hk); (try clear hi)) | ((with_reducible refine gate_callee (f := 14) rfl ?_); refine goesL_ (some 49) rfl rfl Tryd.func14 (by kernel_rfl) rfl #[.string t277, .int .i64 x6_1] rfl (by (try simp only [List.map_toArray, List.map_cons, List.map_nil]); first | done | rfl | (simp only [List.length_drop, List.length_take]; rfl)) ?_; (with_reducible refine (num_Times.calls k1 t277 x6_1 t282 _ A16.out).mono ?_); rintro e w32 ⟨rfl, hb⟩; refine ⟨_, rfl, ?_⟩; have n0_ := Aside0.mk (below_step (by repeat (first | (with_reducible first | exact HB.out | apply below_alloc | apply pw_below_drewN | apply below_drew1) | exact HB.out)) hb); clear HB; have HB := n0_; clear n0_; (try clear hb); (try clear hb2); (try clear hk); (try clear hi)) | ((with_reducible refine gate_callee (f := 25) rfl ?_); refine goesL_ (some 52) rfl rfl Tryd.func25 (by kernel_rfl) rfl #[.int .i64 (Go.bits .and .i64 a1 7)] rfl (by (try simp only [List.map_toArray, List.map_cons, List.map_nil]); first | done | rfl | (simp only [List.length_drop, List.length_take]; rfl)) ?_; (with_reducible refine (num_Zeros.calls (Go.bits .and .i64 a1 7) t283 _ A17.out).mono ?_); rintro e w33 ⟨rfl, hb⟩; refine ⟨_, rfl, ?_⟩; have n0_ := Aside0.mk (below_step (by repeat (first | (with_reducible first | exact HB.out | apply below_alloc | apply pw_below_drewN | apply below_drew1) | exact HB.out)) hb); clear HB; have HB := n0_; clear n0_; (try clear hb); (try clear hb2); (try clear hk); (try clear hi)) | ((with_reducible refine gate_callee (f := 15) rfl ?_); refine goesL_ (some 54) rfl rfl Tryd.func15 (by kernel_rfl) rfl #[.string (t277 ++ t283)] rfl (by (try simp only [List.map_toArray, List.map_cons, List.map_nil]); first | done | rfl | (simp only [List.length_drop, List.length_take]; rfl)) ?_; (with_reducible refine (florinlaw01_bare.calls k1 (t277 ++ t283) t284 _ A19.out).mono ?_); rintro e w' ⟨rfl, ⟨nd, rfl⟩⟩; refine ⟨_, rfl, ?_⟩) | (go_at_call 15; (with_reducible refine (florinlaw01_bare.calls k1 (t277.extract 0 ((ji12) : Int).toNat) t285 _ A23.out).mono ?_); rintro e w' ⟨rfl, ⟨nd, rfl⟩⟩))
                        go_ret
                        exact ⟨by first | rfl | (simp [errW_none, errW_some] <;> rfl) | (simp only [← hji12]; first | rfl | (simp [errW_none, errW_some] <;> rfl)) | (simp [*, errW_none, errW_some] <;> rfl), by repeat (first | (with_reducible first | exact HB.out | apply below_alloc | apply pw_below_drewN | apply below_drew1) | exact HB.out)⟩
                    · rw [if_neg c24] at H
                      have c24b0 : (t278.toList == t285.toList) = false := beq_eq_false_iff_ne.mpr c24
                      have c24b1 : (t278.toList != t285.toList) = true := bne_iff_ne.mpr c24
                      obtain rfl := Option.some.inj H
                      go_wp2_with (first | ((with_reducible refine gate_callee (f := 19) rfl ?_); refine goesL_ (some 32) rfl rfl Tryd.func19 (by kernel_rfl) rfl #[.string t277, .int .i64 x6_1] rfl (by (try simp only [List.map_toArray, List.map_cons, List.map_nil]); first | done | rfl | (simp only [List.length_drop, List.length_take]; rfl)) ?_; (with_reducible refine (num_Div.calls k1 t277 x6_1 t278 t279 _ A11.out).mono ?_); rintro e w34 ⟨rfl, hb⟩; refine ⟨_, rfl, ?_⟩; have n0_ := Aside0.mk (below_step (by repeat (first | (with_reducible first | exact HB.out | apply below_alloc | apply pw_below_drewN | apply below_drew1) | exact HB.out)) hb); clear HB; have HB := n0_; clear n0_; (try clear hb); (try clear hb2); (try clear hk); (try clear hi)) | ((with_reducible refine gate_callee (f := 17) rfl ?_); refine goesL_ (some 44) rfl rfl Tryd.func17 (by kernel_rfl) rfl #[.string (t277.extract ((ji12) : Int).toNat t277.size)] rfl (by (try simp only [List.map_toArray, List.map_cons, List.map_nil]); first | done | (simp only [hji12]; rfl) | rfl | (simp only [List.length_drop, List.length_take]; rfl)) ?_; (with_reducible refine (num_Int.calls k1 (t277.extract ((ji12) : Int).toNat t277.size) t280 t281 _ A15.out).mono ?_); rintro e w35 ⟨rfl, hb⟩; refine ⟨_, rfl, ?_⟩; have n0_ := Aside0.mk (below_step (by repeat (first | (with_reducible first | exact HB.out | apply below_alloc | apply pw_below_drewN | apply below_drew1) | exact HB.out)) hb); clear HB; have HB := n0_; clear n0_; (try clear hb); (try clear hb2); (try clear hk); (try clear hi)) | ((with_reducible refine gate_callee (f := 14) rfl ?_); refine goesL_ (some 49) rfl rfl Tryd.func14 (by kernel_rfl) rfl #[.string t277, .int .i64 x6_1] rfl (by (try simp only [List.map_toArray, List.map_cons, List.map_nil]); first | done | rfl | (simp only [List.length_drop, List.length_take]; rfl)) ?_; (with_reducible refine (num_Times.calls k1 t277 x6_1 t282 _ A16.out).mono ?_); rintro e w36 ⟨rfl, hb⟩; refine ⟨_, rfl, ?_⟩; have n0_ := Aside0.mk (below_step (by repeat (first | (with_reducible first | exact HB.out | apply below_alloc | apply pw_below_drewN | apply below_drew1) | exact HB.out)) hb); clear HB; have HB := n0_; clear n0_; (try clear hb); (try clear hb2); (try clear hk); (try clear hi)) | ((with_reducible refine gate_callee (f := 25) rfl ?_); refine goesL_ (some 52) rfl rfl Tryd.func25 (by kernel_rfl) rfl #[.int .i64 (Go.bits .and .i64 a1 7)] rfl (by (try simp only [List.map_toArray, List.map_cons, List.map_nil]); first | done | rfl | (simp only [List.length_drop, List.length_take]; rfl)) ?_; (with_reducible refine (num_Zeros.calls (Go.bits .and .i64 a1 7) t283 _ A17.out).mono ?_); rintro e w37 ⟨rfl, hb⟩; refine ⟨_, rfl, ?_⟩; have n0_ := Aside0.mk (below_step (by repeat (first | (with_reducible first | exact HB.out | apply below_alloc | apply pw_below_drewN | apply below_drew1) | exact HB.out)) hb); clear HB; have HB := n0_; clear n0_; (try clear hb); (try clear hb2); (try clear hk); (try clear hi)) | ((with_reducible refine gate_callee (f := 15) rfl ?_); refine goesL_ (some 54) rfl rfl Tryd.func15 (by kernel_rfl) rfl #[.string (t277 ++ t283)] rfl (by (try simp only [List.map_toArray, List.map_cons, List.map_nil]); first | done | rfl | (simp only [List.length_drop, List.length_take]; rfl)) ?_; (with_reducible refine (florinlaw01_bare.calls k1 (t277 ++ t283) t284 _ A19.out).mono ?_); rintro e w' ⟨rfl, ⟨nd, rfl⟩⟩; refine ⟨_, rfl, ?_⟩) | (go_at_call 15; (with_reducible refine (florinlaw01_bare.calls k1 (t277.extract 0 ((ji12) : Int).toNat) t285 _ A23.out).mono ?_); rintro e w' ⟨rfl, ⟨nd, rfl⟩⟩))
                      go_ret
                      exact ⟨by first | rfl | (simp [errW_none, errW_some] <;> rfl) | (simp only [← hji12]; first | rfl | (simp [errW_none, errW_some] <;> rfl)) | (simp [*, errW_none, errW_some] <;> rfl), by repeat (first | (with_reducible first | exact HB.out | apply below_alloc | apply pw_below_drewN | apply below_drew1) | exact HB.out)⟩
                  · rw [if_neg c20] at H
                    have c20b0 : (t282.toList == t284.toList) = false := beq_eq_false_iff_ne.mpr c20
                    have c20b1 : (t282.toList != t284.toList) = true := bne_iff_ne.mpr c20
                    obtain rfl := Option.some.inj H
                    go_wp2_with (first | ((with_reducible refine gate_callee (f := 19) rfl ?_); refine goesL_ (some 32) rfl rfl Tryd.func19 (by kernel_rfl) rfl #[.string t277, .int .i64 x6_1] rfl (by (try simp only [List.map_toArray, List.map_cons, List.map_nil]); first | done | rfl | (simp only [List.length_drop, List.length_take]; rfl)) ?_; (with_reducible refine (num_Div.calls k1 t277 x6_1 t278 t279 _ A11.out).mono ?_); rintro e w38 ⟨rfl, hb⟩; refine ⟨_, rfl, ?_⟩; have n0_ := Aside0.mk (below_step (by repeat (first | (with_reducible first | exact HB.out | apply below_alloc | apply pw_below_drewN | apply below_drew1) | exact HB.out)) hb); clear HB; have HB := n0_; clear n0_; (try clear hb); (try clear hb2); (try clear hk); (try clear hi)) | ((with_reducible refine gate_callee (f := 17) rfl ?_); refine goesL_ (some 44) rfl rfl Tryd.func17 (by kernel_rfl) rfl #[.string (t277.extract ((ji12) : Int).toNat t277.size)] rfl (by (try simp only [List.map_toArray, List.map_cons, List.map_nil]); first | done | (simp only [hji12]; rfl) | rfl | (simp only [List.length_drop, List.length_take]; rfl)) ?_; (with_reducible refine (num_Int.calls k1 (t277.extract ((ji12) : Int).toNat t277.size) t280 t281 _ A15.out).mono ?_); rintro e w39 ⟨rfl, hb⟩; refine ⟨_, rfl, ?_⟩; have n0_ := Aside0.mk (below_step (by repeat (first | (with_reducible first | exact HB.out | apply below_alloc | apply pw_below_drewN | apply below_drew1) | exact HB.out)) hb); clear HB; have HB := n0_; clear n0_; (try clear hb); (try clear hb2); (try clear hk); (try clear hi)) | ((with_reducible refine gate_callee (f := 14) rfl ?_); refine goesL_ (some 49) rfl rfl Tryd.func14 (by kernel_rfl) rfl #[.string t277, .int .i64 x6_1] rfl (by (try simp only [List.map_toArray, List.map_cons, List.map_nil]); first | done | rfl | (simp only [List.length_drop, List.length_take]; rfl)) ?_; (with_reducible refine (num_Times.calls k1 t277 x6_1 t282 _ A16.out).mono ?_); rintro e w40 ⟨rfl, hb⟩; refine ⟨_, rfl, ?_⟩; have n0_ := Aside0.mk (below_step (by repeat (first | (with_reducible first | exact HB.out | apply below_alloc | apply pw_below_drewN | apply below_drew1) | exact HB.out)) hb); clear HB; have HB := n0_; clear n0_; (try clear hb); (try clear hb2); (try clear hk); (try clear hi)) | ((with_reducible refine gate_callee (f := 25) rfl ?_); refine goesL_ (some 52) rfl rfl Tryd.func25 (by kernel_rfl) rfl #[.int .i64 (Go.bits .and .i64 a1 7)] rfl (by (try simp only [List.map_toArray, List.map_cons, List.map_nil]); first | done | rfl | (simp only [List.length_drop, List.length_take]; rfl)) ?_; (with_reducible refine (num_Zeros.calls (Go.bits .and .i64 a1 7) t283 _ A17.out).mono ?_); rintro e w41 ⟨rfl, hb⟩; refine ⟨_, rfl, ?_⟩; have n0_ := Aside0.mk (below_step (by repeat (first | (with_reducible first | exact HB.out | apply below_alloc | apply pw_below_drewN | apply below_drew1) | exact HB.out)) hb); clear HB; have HB := n0_; clear n0_; (try clear hb); (try clear hb2); (try clear hk); (try clear hi)) | ((with_reducible refine gate_callee (f := 15) rfl ?_); refine goesL_ (some 54) rfl rfl Tryd.func15 (by kernel_rfl) rfl #[.string (t277 ++ t283)] rfl (by (try simp only [List.map_toArray, List.map_cons, List.map_nil]); first | done | rfl | (simp only [List.length_drop, List.length_take]; rfl)) ?_; (with_reducible refine (florinlaw01_bare.calls k1 (t277 ++ t283) t284 _ A19.out).mono ?_); rintro e w' ⟨rfl, ⟨nd, rfl⟩⟩; refine ⟨_, rfl, ?_⟩))
                    go_ret
                    exact ⟨by first | rfl | (simp [errW_none, errW_some] <;> rfl) | (simp only [← hji12]; first | rfl | (simp [errW_none, errW_some] <;> rfl)) | (simp [*, errW_none, errW_some] <;> rfl), by repeat (first | (with_reducible first | exact HB.out | apply below_alloc | apply pw_below_drewN | apply below_drew1) | exact HB.out)⟩
                · rw [if_neg c18] at H
                  exact absurd H (by simp)
              · rw [if_neg c14] at H
                exact absurd H (by simp)
            · rw [if_neg c13] at H
              exact absurd H (by simp)
  · replace c4 := Bool.eq_false_iff.mpr c4
    subst c4
    have H1 : (some false) = some r := by rw [if_neg (show ¬ (false = true) by decide)] at H; exact H
    clear H
    have H := H1
    clear H1
    obtain rfl := Option.some.inj H
    go_enter Tryd.func10, Tryd.ntmps10
    go_wp2_with (first | ((with_reducible refine gate_callee (f := 12) rfl ?_); refine goesL_ (some 13) rfl rfl Tryd.func12 (by kernel_rfl) rfl #[] rfl (by (try simp only [List.map_toArray, List.map_cons, List.map_nil]); first | done | rfl | (simp only [List.length_drop, List.length_take]; rfl)) ?_; (with_reducible refine (florinlaw01_head.calls k  false _ A3.out).mono ?_); rintro e w42 ⟨rfl, hb⟩; refine ⟨_, rfl, ?_⟩; have n0_ := Aside0.mk (below_step (by repeat (first | (with_reducible first | exact HB.out | apply below_alloc | apply pw_below_drewN | apply below_drew1) | exact HB.out)) hb); clear HB; have HB := n0_; clear n0_; (try clear hb); (try clear hb2); (try clear hk); (try clear hi)))
    go_ret
    exact ⟨by first | rfl | (simp [errW_none, errW_some] <;> rfl) | (simp [*, errW_none, errW_some] <;> rfl), by repeat (first | (with_reducible first | exact HB.out | apply below_alloc | apply pw_below_drewN | apply below_drew1) | exact HB.out)⟩

/-- THE ONE PURE STATEMENT of florinlaw01_NumShifts: yours. -/
def florinlaw01_NumShifts.Pure : Prop := ∀ (l0 : List Int) (a1 : Int), l0.length ≤ maxLen → l0.length * 1 ≤ 140737488351232 → (∀ x ∈ l0, (Lit.int .u8 x).wf = true) → (Lit.int .i64 a1).wf = true → ∃ k, florinlaw01_NumShifts.f k l0 a1 = some true
theorem florinlaw01_NumShifts.walk (P : florinlaw01_NumShifts.Pure) (a0 : Option Addr) (len0 cap0 : Nat) (z0 : List Int) (a1 : Int) (w : World) (w0 : (a0 = none ∧ len0 = 0 ∧ cap0 = 0 ∧ z0 = []) ∨ ∃ x, a0 = some x ∧ len0 ≤ cap0 ∧ cap0 ≤ maxLen ∧ z0.length = cap0 ∧ (∀ i, i < z0.length → w.cell? (x.add i) = some (.int .u8 (z0.getD i 0))) ∧ ∀ n ∈ z0, (Lit.int .u8 n).wf = true) (y0 : len0 * 1 ≤ 140737488351232) (w1 : (Lit.int .i64 a1).wf = true) :
    Calls Tryd.prog 10 #[.slice a0 len0 cap0, .int .i64 a1] w fun e w' => e = .returned (.bool true) ∧ Below w.heap.size w w' := by
  obtain ⟨l0, rfl, hr0, hm0, hw0, hc0⟩ := ReadsInt.ofRowC w0
  obtain ⟨k, h⟩ := P l0 a1 hm0 y0 hw0 w1
  refine (florinlaw01_NumShifts.calls k _ _ l0 a1 true w (Kd.C_of_reads (d := (0 : Int)) (h1 := fun _ => rfl) hr0) hc0 h).mono ?_
  rintro e w' ⟨rfl, hd⟩
  exact ⟨rfl, hd⟩

end Go.Proofs.YtefacokhmmpiaaaDoor.P
