-- written by a program of this session (wip/p2)
import Derived.Test.YtefacokhmmpiaaaDoorPx0
import Derived.Test.YtefacokhmmpiaaaDoorPx1
import Derived.Test.YtefacokhmmpiaaaDoorPx2
namespace Go.Proofs.YtefacokhmmpiaaaDoor.P
open Go.RowKit Go.Proofs.YtefacokhmmpiaaaDoorW.PrintWords Go.Proofs.YtefacokhmmpiaaaDoorW.PrintLast Go.Proofs.YtefacokhmmpiaaaDoorW.PrintMore
attribute [local go_sem] max2_int min2_int max_two min_two max_three min_three max_four min_four   -- for this text's walks alone
set_option linter.unusedVariables false
set_option linter.unusedSimpArgs false

/-! ### florinlaw01_NumTimes: function 3 -/
def florinlaw01_NumTimes.f (k : Nat) (l0 : List Int) (a1 : Int) (a2 : Int) : Option (Bool) := (florinlaw01_head.f k).bind fun t140 => (if t140 = true then (if (l0.length : Int) > 200 then (some true) else ((florinlaw01_Digits.f k l0).bind fun t141 => ((num_Times.f k t141 0).bind fun t142 => (if t142.toList = ([] : List UInt8) then ((num_Times.f k t141 1).bind fun t143 => ((florinlaw01_bare.f k t141).bind fun t144 => (if t143.toList = t144.toList then ((num_Times.f k t141 10).bind fun t145 => (if t141.size + 1 ≤ 9223372036854775807 then ((florinlaw01_bare.f k (t141 ++ (⟨#[48]⟩ : ByteArray))).bind fun t146 => (if t145.toList = t146.toList then ((num_Times.f k t141 (wrap64 ((Go.bits .and .i64 a1 268435455) + (Go.bits .and .i64 a2 268435455)))).bind fun t147 => ((num_Times.f k t141 (Go.bits .and .i64 a1 268435455)).bind fun t148 => ((num_Times.f k t141 (Go.bits .and .i64 a2 268435455)).bind fun t149 => ((num_Add.f k t148 t149).bind fun t150 => (if t147.toList = t150.toList then ((num_Times.f k t141 (wrap64 ((Go.bits .and .i64 a1 268435455) + 1))).bind fun t151 => ((num_Add.f k t148 t141).bind fun t152 => (if t151.toList = t152.toList then ((num_Times.f k t141 (-1)).bind fun t153 => (if t153.toList = ([] : List UInt8) then ((num_Times.f k (⟨#[49]⟩ : ByteArray) 1000000001).bind fun t154 => (if t154.toList = ([] : List UInt8) then ((num_Times.f k (⟨#[49]⟩ : ByteArray) 1000000000).bind fun t155 => (some (t155.toList == ([49, 48, 48, 48, 48, 48, 48, 48, 48, 48] : List UInt8)))) else (some false))) else (some false))) else (some false)))) else (some false)))))) else (some false))) else (none))) else (some false)))) else (some false))))) else (some false))
theorem florinlaw01_NumTimes.mono : ∀ a0 a1 a2 k, LeO (florinlaw01_NumTimes.f k a0 a1 a2) (florinlaw01_NumTimes.f (k + 1) a0 a1 a2) := by
  intro a0 a1 a2 k
  unfold florinlaw01_NumTimes.f
  repeat' first
      | (with_reducible exact florinlaw01_Digits.mono _ _)
      | (with_reducible exact florinlaw01_bare.mono _ _)
      | (with_reducible exact florinlaw01_head.mono _)
      | (with_reducible exact num_Add.mono _ _ _)
      | (with_reducible exact num_Times.mono _ _ _)
      | (with_reducible exact LeO.refl _)
      | (with_reducible exact LeO.none _)
      | (with_reducible refine LeO.ite ?_ ?_)
      | (with_reducible refine LeO.bind ?_ (fun _ => ?_))
      | exact florinlaw01_Digits.mono _ _
      | exact florinlaw01_bare.mono _ _
      | exact florinlaw01_head.mono _
      | exact num_Add.mono _ _ _
      | exact num_Times.mono _ _ _
      | exact LeO.none _
      | refine LeO.ite ?_ ?_
      | refine LeO.bind ?_ (fun _ => ?_)
set_option maxHeartbeats 8000000 in
set_option maxRecDepth 100000 in
theorem florinlaw01_NumTimes.calls (k : Nat) (A0 : Option Addr) (c0 : Nat) (l0 : List Int) (a1 : Int) (a2 : Int) (r : Bool) (w : World) (hr0 : Kd.C (Kd.int .u8) w A0 l0.length l0) (hc0 : l0.length ≤ c0) (h : florinlaw01_NumTimes.f k l0 a1 a2 = some r) :
    Calls Tryd.prog 3 #[.slice A0 l0.length c0, .int .i64 a1, .int .i64 a2] w fun e w' => e = .returned (.bool r) ∧ Below w.heap.size w w' := by
  have HR0 := Aside0.mk hr0
  have HC0 := Aside0.mk hc0
  clear hr0 hc0
  have HB := Aside0.mk (Below.refl w.heap.size w)
  have H : ((florinlaw01_head.f k).bind fun t140 => (if t140 = true then (if (l0.length : Int) > 200 then (some true) else ((florinlaw01_Digits.f k l0).bind fun t141 => ((num_Times.f k t141 0).bind fun t142 => (if t142.toList = ([] : List UInt8) then ((num_Times.f k t141 1).bind fun t143 => ((florinlaw01_bare.f k t141).bind fun t144 => (if t143.toList = t144.toList then ((num_Times.f k t141 10).bind fun t145 => (if t141.size + 1 ≤ 9223372036854775807 then ((florinlaw01_bare.f k (t141 ++ (⟨#[48]⟩ : ByteArray))).bind fun t146 => (if t145.toList = t146.toList then ((num_Times.f k t141 (wrap64 ((Go.bits .and .i64 a1 268435455) + (Go.bits .and .i64 a2 268435455)))).bind fun t147 => ((num_Times.f k t141 (Go.bits .and .i64 a1 268435455)).bind fun t148 => ((num_Times.f k t141 (Go.bits .and .i64 a2 268435455)).bind fun t149 => ((num_Add.f k t148 t149).bind fun t150 => (if t147.toList = t150.toList then ((num_Times.f k t141 (wrap64 ((Go.bits .and .i64 a1 268435455) + 1))).bind fun t151 => ((num_Add.f k t148 t141).bind fun t152 => (if t151.toList = t152.toList then ((num_Times.f k t141 (-1)).bind fun t153 => (if t153.toList = ([] : List UInt8) then ((num_Times.f k (⟨#[49]⟩ : ByteArray) 1000000001).bind fun t154 => (if t154.toList = ([] : List UInt8) then ((num_Times.f k (⟨#[49]⟩ : ByteArray) 1000000000).bind fun t155 => (some (t155.toList == ([49, 48, 48, 48, 48, 48, 48, 48, 48, 48] : List UInt8)))) else (some false))) else (some false))) else (some false)))) else (some false)))))) else (some false))) else (none))) else (some false)))) else (some false))))) else (some false))) = some r := h
  clear h
  replace H := Option.bind_eq_some_iff.mp H
  obtain ⟨t140, A40, H⟩ := H
  replace H : (if t140 = true then (if (l0.length : Int) > 200 then (some true) else ((florinlaw01_Digits.f k l0).bind fun t141 => ((num_Times.f k t141 0).bind fun t142 => (if t142.toList = ([] : List UInt8) then ((num_Times.f k t141 1).bind fun t143 => ((florinlaw01_bare.f k t141).bind fun t144 => (if t143.toList = t144.toList then ((num_Times.f k t141 10).bind fun t145 => (if t141.size + 1 ≤ 9223372036854775807 then ((florinlaw01_bare.f k (t141 ++ (⟨#[48]⟩ : ByteArray))).bind fun t146 => (if t145.toList = t146.toList then ((num_Times.f k t141 (wrap64 ((Go.bits .and .i64 a1 268435455) + (Go.bits .and .i64 a2 268435455)))).bind fun t147 => ((num_Times.f k t141 (Go.bits .and .i64 a1 268435455)).bind fun t148 => ((num_Times.f k t141 (Go.bits .and .i64 a2 268435455)).bind fun t149 => ((num_Add.f k t148 t149).bind fun t150 => (if t147.toList = t150.toList then ((num_Times.f k t141 (wrap64 ((Go.bits .and .i64 a1 268435455) + 1))).bind fun t151 => ((num_Add.f k t148 t141).bind fun t152 => (if t151.toList = t152.toList then ((num_Times.f k t141 (-1)).bind fun t153 => (if t153.toList = ([] : List UInt8) then ((num_Times.f k (⟨#[49]⟩ : ByteArray) 1000000001).bind fun t154 => (if t154.toList = ([] : List UInt8) then ((num_Times.f k (⟨#[49]⟩ : ByteArray) 1000000000).bind fun t155 => (some (t155.toList == ([49, 48, 48, 48, 48, 48, 48, 48, 48, 48] : List UInt8)))) else (some false))) else (some false))) else (some false)))) else (some false)))))) else (some false))) else (none))) else (some false)))) else (some false))))) else (some false)) = some r := H
  have A4 := Aside0.mk A40
  clear A40
  by_cases c5 : t140 = true
  · subst c5
    have H1 : (if (l0.length : Int) > 200 then (some true) else ((florinlaw01_Digits.f k l0).bind fun t141 => ((num_Times.f k t141 0).bind fun t142 => (if t142.toList = ([] : List UInt8) then ((num_Times.f k t141 1).bind fun t143 => ((florinlaw01_bare.f k t141).bind fun t144 => (if t143.toList = t144.toList then ((num_Times.f k t141 10).bind fun t145 => (if t141.size + 1 ≤ 9223372036854775807 then ((florinlaw01_bare.f k (t141 ++ (⟨#[48]⟩ : ByteArray))).bind fun t146 => (if t145.toList = t146.toList then ((num_Times.f k t141 (wrap64 ((Go.bits .and .i64 a1 268435455) + (Go.bits .and .i64 a2 268435455)))).bind fun t147 => ((num_Times.f k t141 (Go.bits .and .i64 a1 268435455)).bind fun t148 => ((num_Times.f k t141 (Go.bits .and .i64 a2 268435455)).bind fun t149 => ((num_Add.f k t148 t149).bind fun t150 => (if t147.toList = t150.toList then ((num_Times.f k t141 (wrap64 ((Go.bits .and .i64 a1 268435455) + 1))).bind fun t151 => ((num_Add.f k t148 t141).bind fun t152 => (if t151.toList = t152.toList then ((num_Times.f k t141 (-1)).bind fun t153 => (if t153.toList = ([] : List UInt8) then ((num_Times.f k (⟨#[49]⟩ : ByteArray) 1000000001).bind fun t154 => (if t154.toList = ([] : List UInt8) then ((num_Times.f k (⟨#[49]⟩ : ByteArray) 1000000000).bind fun t155 => (some (t155.toList == ([49, 48, 48, 48, 48, 48, 48, 48, 48, 48] : List UInt8)))) else (some false))) else (some false))) else (some false)))) else (some false)))))) else (some false))) else (none))) else (some false)))) else (some false))))) = some r := by rw [if_pos rfl] at H; exact H
    clear H
    have H := H1
    clear H1
    by_cases c6 : (l0.length : Int) > 200
    · rw [if_pos c6] at H
      have c6b0 : decide (200 < (l0.length : Int)) = true := decide_eq_true c6
      have c6b1 : decide (200 < l0.length) = true := decide_eq_true (by omega)
      clear c6
      obtain rfl := Option.some.inj H
      go_enter Tryd.func3, Tryd.ntmps3
      go_wp2_with (first | ((with_reducible refine gate_callee (f := 12) rfl ?_); refine goesL_ (some 8) rfl rfl Tryd.func12 (by kernel_rfl) rfl #[] rfl (by (try simp only [List.map_toArray, List.map_cons, List.map_nil]); first | done | rfl | (simp only [List.length_drop, List.length_take]; rfl)) ?_; (with_reducible refine (florinlaw01_head.calls k  true _ A4.out).mono ?_); rintro e w7 ⟨rfl, hb⟩; refine ⟨_, rfl, ?_⟩; have n0_ := Aside0.mk (below_step (by repeat (first | (with_reducible first | exact HB.out | apply below_alloc | apply pw_below_drewN | apply below_drew1) | exact HB.out)) hb); clear HB; have HB := n0_; clear n0_; (try clear hb); (try clear hb2); (try clear hk); (try clear hi)))
      go_ret
      exact ⟨by first | rfl | (simp [errW_none, errW_some] <;> rfl) | (simp [*, errW_none, errW_some] <;> rfl), by repeat (first | (with_reducible first | exact HB.out | apply below_alloc | apply pw_below_drewN | apply below_drew1) | exact HB.out)⟩
    · rw [if_neg c6] at H
      have c6b0 : decide (200 < (l0.length : Int)) = false := decide_eq_false c6
      have c6b1 : decide (200 < l0.length) = false := decide_eq_false (by omega)
      clear c6
      replace H := Option.bind_eq_some_iff.mp H
      obtain ⟨t141, A80, H⟩ := H
      replace H : ((num_Times.f k t141 0).bind fun t142 => (if t142.toList = ([] : List UInt8) then ((num_Times.f k t141 1).bind fun t143 => ((florinlaw01_bare.f k t141).bind fun t144 => (if t143.toList = t144.toList then ((num_Times.f k t141 10).bind fun t145 => (if t141.size + 1 ≤ 9223372036854775807 then ((florinlaw01_bare.f k (t141 ++ (⟨#[48]⟩ : ByteArray))).bind fun t146 => (if t145.toList = t146.toList then ((num_Times.f k t141 (wrap64 ((Go.bits .and .i64 a1 268435455) + (Go.bits .and .i64 a2 268435455)))).bind fun t147 => ((num_Times.f k t141 (Go.bits .and .i64 a1 268435455)).bind fun t148 => ((num_Times.f k t141 (Go.bits .and .i64 a2 268435455)).bind fun t149 => ((num_Add.f k t148 t149).bind fun t150 => (if t147.toList = t150.toList then ((num_Times.f k t141 (wrap64 ((Go.bits .and .i64 a1 268435455) + 1))).bind fun t151 => ((num_Add.f k t148 t141).bind fun t152 => (if t151.toList = t152.toList then ((num_Times.f k t141 (-1)).bind fun t153 => (if t153.toList = ([] : List UInt8) then ((num_Times.f k (⟨#[49]⟩ : ByteArray) 1000000001).bind fun t154 => (if t154.toList = ([] : List UInt8) then ((num_Times.f k (⟨#[49]⟩ : ByteArray) 1000000000).bind fun t155 => (some (t155.toList == ([49, 48, 48, 48, 48, 48, 48, 48, 48, 48] : List UInt8)))) else (some false))) else (some false))) else (some false)))) else (some false)))))) else (some false))) else (none))) else (some false)))) else (some false))) = some r := H
      have A8 := Aside0.mk A80
      clear A80
      replace H := Option.bind_eq_some_iff.mp H
      obtain ⟨t142, A90, H⟩ := H
      replace H : (if t142.toList = ([] : List UInt8) then ((num_Times.f k t141 1).bind fun t143 => ((florinlaw01_bare.f k t141).bind fun t144 => (if t143.toList = t144.toList then ((num_Times.f k t141 10).bind fun t145 => (if t141.size + 1 ≤ 9223372036854775807 then ((florinlaw01_bare.f k (t141 ++ (⟨#[48]⟩ : ByteArray))).bind fun t146 => (if t145.toList = t146.toList then ((num_Times.f k t141 (wrap64 ((Go.bits .and .i64 a1 268435455) + (Go.bits .and .i64 a2 268435455)))).bind fun t147 => ((num_Times.f k t141 (Go.bits .and .i64 a1 268435455)).bind fun t148 => ((num_Times.f k t141 (Go.bits .and .i64 a2 268435455)).bind fun t149 => ((num_Add.f k t148 t149).bind fun t150 => (if t147.toList = t150.toList then ((num_Times.f k t141 (wrap64 ((Go.bits .and .i64 a1 268435455) + 1))).bind fun t151 => ((num_Add.f k t148 t141).bind fun t152 => (if t151.toList = t152.toList then ((num_Times.f k t141 (-1)).bind fun t153 => (if t153.toList = ([] : List UInt8) then ((num_Times.f k (⟨#[49]⟩ : ByteArray) 1000000001).bind fun t154 => (if t154.toList = ([] : List UInt8) then ((num_Times.f k (⟨#[49]⟩ : ByteArray) 1000000000).bind fun t155 => (some (t155.toList == ([49, 48, 48, 48, 48, 48, 48, 48, 48, 48] : List UInt8)))) else (some false))) else (some false))) else (some false)))) else (some false)))))) else (some false))) else (none))) else (some false)))) else (some false)) = some r := H
      have A9 := Aside0.mk A90
      clear A90
      by_cases c10 : t142.toList = ([] : List UInt8)
      · rw [if_pos c10] at H
        have c10b0 : (t142.toList == ([] : List UInt8)) = true := beq_iff_eq.mpr c10
        have c10b1 : (t142.toList != ([] : List UInt8)) = false := bne_eq_false_iff_eq.mpr c10
        clear c10
        replace H := Option.bind_eq_some_iff.mp H
        obtain ⟨t143, A110, H⟩ := H
        replace H : ((florinlaw01_bare.f k t141).bind fun t144 => (if t143.toList = t144.toList then ((num_Times.f k t141 10).bind fun t145 => (if t141.size + 1 ≤ 9223372036854775807 then ((florinlaw01_bare.f k (t141 ++ (⟨#[48]⟩ : ByteArray))).bind fun t146 => (if t145.toList = t146.toList then ((num_Times.f k t141 (wrap64 ((Go.bits .and .i64 a1 268435455) + (Go.bits .and .i64 a2 268435455)))).bind fun t147 => ((num_Times.f k t141 (Go.bits .and .i64 a1 268435455)).bind fun t148 => ((num_Times.f k t141 (Go.bits .and .i64 a2 268435455)).bind fun t149 => ((num_Add.f k t148 t149).bind fun t150 => (if t147.toList = t150.toList then ((num_Times.f k t141 (wrap64 ((Go.bits .and .i64 a1 268435455) + 1))).bind fun t151 => ((num_Add.f k t148 t141).bind fun t152 => (if t151.toList = t152.toList then ((num_Times.f k t141 (-1)).bind fun t153 => (if t153.toList = ([] : List UInt8) then ((num_Times.f k (⟨#[49]⟩ : ByteArray) 1000000001).bind fun t154 => (if t154.toList = ([] : List UInt8) then ((num_Times.f k (⟨#[49]⟩ : ByteArray) 1000000000).bind fun t155 => (some (t155.toList == ([49, 48, 48, 48, 48, 48, 48, 48, 48, 48] : List UInt8)))) else (some false))) else (some false))) else (some false)))) else (some false)))))) else (some false))) else (none))) else (some false))) = some r := H
        have A11 := Aside0.mk A110
        clear A110
        replace H := Option.bind_eq_some_iff.mp H
        obtain ⟨t144, A120, H⟩ := H
        replace H : (if t143.toList = t144.toList then ((num_Times.f k t141 10).bind fun t145 => (if t141.size + 1 ≤ 9223372036854775807 then ((florinlaw01_bare.f k (t141 ++ (⟨#[48]⟩ : ByteArray))).bind fun t146 => (if t145.toList = t146.toList then ((num_Times.f k t141 (wrap64 ((Go.bits .and .i64 a1 268435455) + (Go.bits .and .i64 a2 268435455)))).bind fun t147 => ((num_Times.f k t141 (Go.bits .and .i64 a1 268435455)).bind fun t148 => ((num_Times.f k t141 (Go.bits .and .i64 a2 268435455)).bind fun t149 => ((num_Add.f k t148 t149).bind fun t150 => (if t147.toList = t150.toList then ((num_Times.f k t141 (wrap64 ((Go.bits .and .i64 a1 268435455) + 1))).bind fun t151 => ((num_Add.f k t148 t141).bind fun t152 => (if t151.toList = t152.toList then ((num_Times.f k t141 (-1)).bind fun t153 => (if t153.toList = ([] : List UInt8) then ((num_Times.f k (⟨#[49]⟩ : ByteArray) 1000000001).bind fun t154 => (if t154.toList = ([] : List UInt8) then ((num_Times.f k (⟨#[49]⟩ : ByteArray) 1000000000).bind fun t155 => (some (t155.toList == ([49, 48, 48, 48, 48, 48, 48, 48, 48, 48] : List UInt8)))) else (some false))) else (some false))) else (some false)))) else (some false)))))) else (some false))) else (none))) else (some false)) = some r := H
        have A12 := Aside0.mk A120
        clear A120
        by_cases c13 : t143.toList = t144.toList
        · rw [if_pos c13] at H
          have c13b0 : (t143.toList == t144.toList) = true := beq_iff_eq.mpr c13
          have c13b1 : (t143.toList != t144.toList) = false := bne_eq_false_iff_eq.mpr c13
          clear c13
          replace H := Option.bind_eq_some_iff.mp H
          obtain ⟨t145, A140, H⟩ := H
          replace H : (if t141.size + 1 ≤ 9223372036854775807 then ((florinlaw01_bare.f k (t141 ++ (⟨#[48]⟩ : ByteArray))).bind fun t146 => (if t145.toList = t146.toList then ((num_Times.f k t141 (wrap64 ((Go.bits .and .i64 a1 268435455) + (Go.bits .and .i64 a2 268435455)))).bind fun t147 => ((num_Times.f k t141 (Go.bits .and .i64 a1 268435455)).bind fun t148 => ((num_Times.f k t141 (Go.bits .and .i64 a2 268435455)).bind fun t149 => ((num_Add.f k t148 t149).bind fun t150 => (if t147.toList = t150.toList then ((num_Times.f k t141 (wrap64 ((Go.bits .and .i64 a1 268435455) + 1))).bind fun t151 => ((num_Add.f k t148 t141).bind fun t152 => (if t151.toList = t152.toList then ((num_Times.f k t141 (-1)).bind fun t153 => (if t153.toList = ([] : List UInt8) then ((num_Times.f k (⟨#[49]⟩ : ByteArray) 1000000001).bind fun t154 => (if t154.toList = ([] : List UInt8) then ((num_Times.f k (⟨#[49]⟩ : ByteArray) 1000000000).bind fun t155 => (some (t155.toList == ([49, 48, 48, 48, 48, 48, 48, 48, 48, 48] : List UInt8)))) else (some false))) else (some false))) else (some false)))) else (some false)))))) else (some false))) else (none)) = some r := H
          have A14 := Aside0.mk A140
          clear A140
          by_cases c15 : t141.size + 1 ≤ 9223372036854775807
          · rw [if_pos c15] at H
            have c15b0 := eq_true c15
            have c15b1 : decide (t141.size + 1 ≤ 9223372036854775807) = true := decide_eq_true c15
            try have c15b2 : (9223372036854775807 < t141.size + 1) = False := eq_false (Nat.not_lt.2 c15)
            replace H := Option.bind_eq_some_iff.mp H
            obtain ⟨t146, A160, H⟩ := H
            replace H : (if t145.toList = t146.toList then ((num_Times.f k t141 (wrap64 ((Go.bits .and .i64 a1 268435455) + (Go.bits .and .i64 a2 268435455)))).bind fun t147 => ((num_Times.f k t141 (Go.bits .and .i64 a1 268435455)).bind fun t148 => ((num_Times.f k t141 (Go.bits .and .i64 a2 268435455)).bind fun t149 => ((num_Add.f k t148 t149).bind fun t150 => (if t147.toList = t150.toList then ((num_Times.f k t141 (wrap64 ((Go.bits .and .i64 a1 268435455) + 1))).bind fun t151 => ((num_Add.f k t148 t141).bind fun t152 => (if t151.toList = t152.toList then ((num_Times.f k t141 (-1)).bind fun t153 => (if t153.toList = ([] : List UInt8) then ((num_Times.f k (⟨#[49]⟩ : ByteArray) 1000000001).bind fun t154 => (if t154.toList = ([] : List UInt8) then ((num_Times.f k (⟨#[49]⟩ : ByteArray) 1000000000).bind fun t155 => (some (t155.toList == ([49, 48, 48, 48, 48, 48, 48, 48, 48, 48] : List UInt8)))) else (some false))) else (some false))) else (some false)))) else (some false)))))) else (some false)) = some r := H
            have A16 := Aside0.mk A160
            clear A160
            by_cases c17 : t145.toList = t146.toList
            · rw [if_pos c17] at H
              have c17b0 : (t145.toList == t146.toList) = true := beq_iff_eq.mpr c17
              have c17b1 : (t145.toList != t146.toList) = false := bne_eq_false_iff_eq.mpr c17
              clear c17
              replace H := Option.bind_eq_some_iff.mp H
              obtain ⟨t147, A180, H⟩ := H
              replace H : ((num_Times.f k t141 (Go.bits .and .i64 a1 268435455)).bind fun t148 => ((num_Times.f k t141 (Go.bits .and .i64 a2 268435455)).bind fun t149 => ((num_Add.f k t148 t149).bind fun t150 => (if t147.toList = t150.toList then ((num_Times.f k t141 (wrap64 ((Go.bits .and .i64 a1 268435455) + 1))).bind fun t151 => ((num_Add.f k t148 t141).bind fun t152 => (if t151.toList = t152.toList then ((num_Times.f k t141 (-1)).bind fun t153 => (if t153.toList = ([] : List UInt8) then ((num_Times.f k (⟨#[49]⟩ : ByteArray) 1000000001).bind fun t154 => (if t154.toList = ([] : List UInt8) then ((num_Times.f k (⟨#[49]⟩ : ByteArray) 1000000000).bind fun t155 => (some (t155.toList == ([49, 48, 48, 48, 48, 48, 48, 48, 48, 48] : List UInt8)))) else (some false))) else (some false))) else (some false)))) else (some false))))) = some r := H
              have A18 := Aside0.mk A180
              clear A180
              replace H := Option.bind_eq_some_iff.mp H
              obtain ⟨t148, A190, H⟩ := H
              replace H : ((num_Times.f k t141 (Go.bits .and .i64 a2 268435455)).bind fun t149 => ((num_Add.f k t148 t149).bind fun t150 => (if t147.toList = t150.toList then ((num_Times.f k t141 (wrap64 ((Go.bits .and .i64 a1 268435455) + 1))).bind fun t151 => ((num_Add.f k t148 t141).bind fun t152 => (if t151.toList = t152.toList then ((num_Times.f k t141 (-1)).bind fun t153 => (if t153.toList = ([] : List UInt8) then ((num_Times.f k (⟨#[49]⟩ : ByteArray) 1000000001).bind fun t154 => (if t154.toList = ([] : List UInt8) then ((num_Times.f k (⟨#[49]⟩ : ByteArray) 1000000000).bind fun t155 => (some (t155.toList == ([49, 48, 48, 48, 48, 48, 48, 48, 48, 48] : List UInt8)))) else (some false))) else (some false))) else (some false)))) else (some false)))) = some r := H
              have A19 := Aside0.mk A190
              clear A190
              replace H := Option.bind_eq_some_iff.mp H
              obtain ⟨t149, A200, H⟩ := H
              replace H : ((num_Add.f k t148 t149).bind fun t150 => (if t147.toList = t150.toList then ((num_Times.f k t141 (wrap64 ((Go.bits .and .i64 a1 268435455) + 1))).bind fun t151 => ((num_Add.f k t148 t141).bind fun t152 => (if t151.toList = t152.toList then ((num_Times.f k t141 (-1)).bind fun t153 => (if t153.toList = ([] : List UInt8) then ((num_Times.f k (⟨#[49]⟩ : ByteArray) 1000000001).bind fun t154 => (if t154.toList = ([] : List UInt8) then ((num_Times.f k (⟨#[49]⟩ : ByteArray) 1000000000).bind fun t155 => (some (t155.toList == ([49, 48, 48, 48, 48, 48, 48, 48, 48, 48] : List UInt8)))) else (some false))) else (some false))) else (some false)))) else (some false))) = some r := H
              have A20 := Aside0.mk A200
              clear A200
              replace H := Option.bind_eq_some_iff.mp H
              obtain ⟨t150, A210, H⟩ := H
              replace H : (if t147.toList = t150.toList then ((num_Times.f k t141 (wrap64 ((Go.bits .and .i64 a1 268435455) + 1))).bind fun t151 => ((num_Add.f k t148 t141).bind fun t152 => (if t151.toList = t152.toList then ((num_Times.f k t141 (-1)).bind fun t153 => (if t153.toList = ([] : List UInt8) then ((num_Times.f k (⟨#[49]⟩ : ByteArray) 1000000001).bind fun t154 => (if t154.toList = ([] : List UInt8) then ((num_Times.f k (⟨#[49]⟩ : ByteArray) 1000000000).bind fun t155 => (some (t155.toList == ([49, 48, 48, 48, 48, 48, 48, 48, 48, 48] : List UInt8)))) else (some false))) else (some false))) else (some false)))) else (some false)) = some r := H
              have A21 := Aside0.mk A210
              clear A210
              by_cases c22 : t147.toList = t150.toList
              · rw [if_pos c22] at H
                have c22b0 : (t147.toList == t150.toList) = true := beq_iff_eq.mpr c22
                have c22b1 : (t147.toList != t150.toList) = false := bne_eq_false_iff_eq.mpr c22
                clear c22
                replace H := Option.bind_eq_some_iff.mp H
                obtain ⟨t151, A230, H⟩ := H
                replace H : ((num_Add.f k t148 t141).bind fun t152 => (if t151.toList = t152.toList then ((num_Times.f k t141 (-1)).bind fun t153 => (if t153.toList = ([] : List UInt8) then ((num_Times.f k (⟨#[49]⟩ : ByteArray) 1000000001).bind fun t154 => (if t154.toList = ([] : List UInt8) then ((num_Times.f k (⟨#[49]⟩ : ByteArray) 1000000000).bind fun t155 => (some (t155.toList == ([49, 48, 48, 48, 48, 48, 48, 48, 48, 48] : List UInt8)))) else (some false))) else (some false))) else (some false))) = some r := H
                have A23 := Aside0.mk A230
                clear A230
                replace H := Option.bind_eq_some_iff.mp H
                obtain ⟨t152, A240, H⟩ := H
                replace H : (if t151.toList = t152.toList then ((num_Times.f k t141 (-1)).bind fun t153 => (if t153.toList = ([] : List UInt8) then ((num_Times.f k (⟨#[49]⟩ : ByteArray) 1000000001).bind fun t154 => (if t154.toList = ([] : List UInt8) then ((num_Times.f k (⟨#[49]⟩ : ByteArray) 1000000000).bind fun t155 => (some (t155.toList == ([49, 48, 48, 48, 48, 48, 48, 48, 48, 48] : List UInt8)))) else (some false))) else (some false))) else (some false)) = some r := H
                have A24 := Aside0.mk A240
                clear A240
                by_cases c25 : t151.toList = t152.toList
                · rw [if_pos c25] at H
                  have c25b0 : (t151.toList == t152.toList) = true := beq_iff_eq.mpr c25
                  have c25b1 : (t151.toList != t152.toList) = false := bne_eq_false_iff_eq.mpr c25
                  clear c25
                  replace H := Option.bind_eq_some_iff.mp H
                  obtain ⟨t153, A260, H⟩ := H
                  replace H : (if t153.toList = ([] : List UInt8) then ((num_Times.f k (⟨#[49]⟩ : ByteArray) 1000000001).bind fun t154 => (if t154.toList = ([] : List UInt8) then ((num_Times.f k (⟨#[49]⟩ : ByteArray) 1000000000).bind fun t155 => (some (t155.toList == ([49, 48, 48, 48, 48, 48, 48, 48, 48, 48] : List UInt8)))) else (some false))) else (some false)) = some r := H
                  have A26 := Aside0.mk A260
                  clear A260
                  by_cases c27 : t153.toList = ([] : List UInt8)
                  · rw [if_pos c27] at H
                    have c27b0 : (t153.toList == ([] : List UInt8)) = true := beq_iff_eq.mpr c27
                    have c27b1 : (t153.toList != ([] : List UInt8)) = false := bne_eq_false_iff_eq.mpr c27
                    clear c27
                    replace H := Option.bind_eq_some_iff.mp H
                    obtain ⟨t154, A280, H⟩ := H
                    replace H : (if t154.toList = ([] : List UInt8) then ((num_Times.f k (⟨#[49]⟩ : ByteArray) 1000000000).bind fun t155 => (some (t155.toList == ([49, 48, 48, 48, 48, 48, 48, 48, 48, 48] : List UInt8)))) else (some false)) = some r := H
                    have A28 := Aside0.mk A280
                    clear A280
                    by_cases c29 : t154.toList = ([] : List UInt8)
                    · rw [if_pos c29] at H
                      have c29b0 : (t154.toList == ([] : List UInt8)) = true := beq_iff_eq.mpr c29
                      have c29b1 : (t154.toList != ([] : List UInt8)) = false := bne_eq_false_iff_eq.mpr c29
                      clear c29
                      replace H := Option.bind_eq_some_iff.mp H
                      obtain ⟨t155, A300, H⟩ := H
                      replace H : (some (t155.toList == ([49, 48, 48, 48, 48, 48, 48, 48, 48, 48] : List UInt8))) = some r := H
                      have A30 := Aside0.mk A300
                      clear A300
                      obtain rfl := Option.some.inj H
                      go_enter Tryd.func3, Tryd.ntmps3
                      go_wp2_with (first | ((with_reducible refine gate_callee (f := 12) rfl ?_); refine goesL_ (some 8) rfl rfl Tryd.func12 (by kernel_rfl) rfl #[] rfl (by (try simp only [List.map_toArray, List.map_cons, List.map_nil]); first | done | rfl | (simp only [List.length_drop, List.length_take]; rfl)) ?_; (with_reducible refine (florinlaw01_head.calls k  true _ A4.out).mono ?_); rintro e w31 ⟨rfl, hb⟩; refine ⟨_, rfl, ?_⟩; have n0_ := Aside0.mk (below_step (by repeat (first | (with_reducible first | exact HB.out | apply below_alloc | apply pw_below_drewN | apply below_drew1) | exact HB.out)) hb); clear HB; have HB := n0_; clear n0_; (try clear hb); (try clear hb2); (try clear hk); (try clear hi)) | ((with_reducible refine gate_callee (f := 13) rfl ?_); refine goesL_ (some 14) rfl rfl Tryd.func13 (by kernel_rfl) rfl #[.slice A0 l0.length c0] rfl (by (try simp only [List.map_toArray, List.map_cons, List.map_nil]); first | done | rfl | (simp only [List.length_drop, List.length_take]; rfl)) ?_; (with_reducible refine (florinlaw01_Digits.calls k _ _ l0 t141 _ ?side1 ?side2 A8.out).mono ?_); (case side1 => repeat (first | exact (Kd.C_below HR0.out HB.out) | (with_reducible refine Kd.C_alloc ?_ _) | (with_reducible refine Kd.C_drewN ?_ _) | (with_reducible refine Kd.C_drew ?_))); (case side2 => exact HC0.out); rintro e w32 ⟨rfl, hb⟩; refine ⟨_, rfl, ?_⟩; have n0_ := Aside0.mk (below_step (by repeat (first | (with_reducible first | exact HB.out | apply below_alloc | apply pw_below_drewN | apply below_drew1) | exact HB.out)) hb); clear HB; have HB := n0_; clear n0_; (try clear hb); (try clear hb2); (try clear hk); (try clear hi)) | ((with_reducible refine gate_callee (f := 14) rfl ?_); refine goesL_ (some 20) rfl rfl Tryd.func14 (by kernel_rfl) rfl #[.string t141, .int .i64 0] rfl (by (try simp only [List.map_toArray, List.map_cons, List.map_nil]); first | done | rfl | (simp only [List.length_drop, List.length_take]; rfl)) ?_; (with_reducible refine (num_Times.calls k t141 0 t142 _ A9.out).mono ?_); rintro e w33 ⟨rfl, hb⟩; refine ⟨_, rfl, ?_⟩; have n0_ := Aside0.mk (below_step (by repeat (first | (with_reducible first | exact HB.out | apply below_alloc | apply pw_below_drewN | apply below_drew1) | exact HB.out)) hb); clear HB; have HB := n0_; clear n0_; (try clear hb); (try clear hb2); (try clear hk); (try clear hi)) | (go_at_call 14; (with_reducible refine (num_Times.calls k t141 1 t143 _ A11.out).mono ?_); rintro e w34 ⟨rfl, hb⟩; have n0_ := Aside0.mk (below_step (by repeat (first | (with_reducible first | exact HB.out | apply below_alloc | apply pw_below_drewN | apply below_drew1) | exact HB.out)) hb); clear HB; have HB := n0_; clear n0_; (try clear hb); (try clear hb2); (try clear hk); (try clear hi)) | (go_at_call 15; (with_reducible refine (florinlaw01_bare.calls k t141 t144 _ A12.out).mono ?_); rintro e w' ⟨rfl, ⟨nd, rfl⟩⟩) | (go_at_call 14; (with_reducible refine (num_Times.calls k t141 10 t145 _ A14.out).mono ?_); rintro e w35 ⟨rfl, hb⟩; have n0_ := Aside0.mk (below_step (by repeat (first | (with_reducible first | exact HB.out | apply below_alloc | apply pw_below_drewN | apply below_drew1) | exact HB.out)) hb); clear HB; have HB := n0_; clear n0_; (try clear hb); (try clear hb2); (try clear hk); (try clear hi)) | (go_at_call 15; (with_reducible refine (florinlaw01_bare.calls k (t141 ++ (⟨#[48]⟩ : ByteArray)) t146 _ A16.out).mono ?_); rintro e w' ⟨rfl, ⟨nd, rfl⟩⟩) | (go_at_call 14; (with_reducible refine (num_Times.calls k t141 (wrap64 ((Go.bits .and .i64 a1 268435455) + (Go.bits .and .i64 a2 268435455))) t147 _ A18.out).mono ?_); rintro e w36 ⟨rfl, hb⟩; have n0_ := Aside0.mk (below_step (by repeat (first | (with_reducible first | exact HB.out | apply below_alloc | apply pw_below_drewN | apply below_drew1) | exact HB.out)) hb); clear HB; have HB := n0_; clear n0_; (try clear hb); (try clear hb2); (try clear hk); (try clear hi)) | (go_at_call 14; (with_reducible refine (num_Times.calls k t141 (Go.bits .and .i64 a1 268435455) t148 _ A19.out).mono ?_); rintro e w37 ⟨rfl, hb⟩; have n0_ := Aside0.mk (below_step (by repeat (first | (with_reducible first | exact HB.out | apply below_alloc | apply pw_below_drewN | apply below_drew1) | exact HB.out)) hb); clear HB; have HB := n0_; clear n0_; (try clear hb); (try clear hb2); (try clear hk); (try clear hi)) | (go_at_call 14; (with_reducible refine (num_Times.calls k t141 (Go.bits .and .i64 a2 268435455) t149 _ A20.out).mono ?_); rintro e w38 ⟨rfl, hb⟩; have n0_ := Aside0.mk (below_step (by repeat (first | (with_reducible first | exact HB.out | apply below_alloc | apply pw_below_drewN | apply below_drew1) | exact HB.out)) hb); clear HB; have HB := n0_; clear n0_; (try clear hb); (try clear hb2); (try clear hk); (try clear hi)) | (go_at_call 16; (with_reducible refine (num_Add.calls k t148 t149 t150 _ A21.out).mono ?_); rintro e w39 ⟨rfl, hb⟩; have n0_ := Aside0.mk (below_step (by repeat (first | (with_reducible first | exact HB.out | apply below_alloc | apply pw_below_drewN | apply below_drew1) | exact HB.out)) hb); clear HB; have HB := n0_; clear n0_; (try clear hb); (try clear hb2); (try clear hk); (try clear hi)) | (go_at_call 14; (with_reducible refine (num_Times.calls k t141 (wrap64 ((Go.bits .and .i64 a1 268435455) + 1)) t151 _ A23.out).mono ?_); rintro e w40 ⟨rfl, hb⟩; have n0_ := Aside0.mk (below_step (by repeat (first | (with_reducible first | exact HB.out | apply below_alloc | apply pw_below_drewN | apply below_drew1) | exact HB.out)) hb); clear HB; have HB := n0_; clear n0_; (try clear hb); (try clear hb2); (try clear hk); (try clear hi)) | (go_at_call 16; (with_reducible refine (num_Add.calls k t148 t141 t152 _ A24.out).mono ?_); rintro e w41 ⟨rfl, hb⟩; have n0_ := Aside0.mk (below_step (by repeat (first | (with_reducible first | exact HB.out | apply below_alloc | apply pw_below_drewN | apply below_drew1) | exact HB.out)) hb); clear HB; have HB := n0_; clear n0_; (try clear hb); (try clear hb2); (try clear hk); (try clear hi)) | (go_at_call 14; (with_reducible refine (num_Times.calls k t141 (-1) t153 _ A26.out).mono ?_); rintro e w42 ⟨rfl, hb⟩; have n0_ := Aside0.mk (below_step (by repeat (first | (with_reducible first | exact HB.out | apply below_alloc | apply pw_below_drewN | apply below_drew1) | exact HB.out)) hb); clear HB; have HB := n0_; clear n0_; (try clear hb); (try clear hb2); (try clear hk); (try clear hi)) | (go_at_call 14; (with_reducible refine (num_Times.calls k (⟨#[49]⟩ : ByteArray) 1000000001 t154 _ A28.out).mono ?_); rintro e w43 ⟨rfl, hb⟩; have n0_ := Aside0.mk (below_step (by repeat (first | (with_reducible first | exact HB.out | apply below_alloc | apply pw_below_drewN | apply below_drew1) | exact HB.out)) hb); clear HB; have HB := n0_; clear n0_; (try clear hb); (try clear hb2); (try clear hk); (try clear hi)) | (go_at_call 14; (with_reducible refine (num_Times.calls k (⟨#[49]⟩ : ByteArray) 1000000000 t155 _ A30.out).mono ?_); rintro e w44 ⟨rfl, hb⟩; have n0_ := Aside0.mk (below_step (by repeat (first | (with_reducible first | exact HB.out | apply below_alloc | apply pw_below_drewN | apply below_drew1) | exact HB.out)) hb); clear HB; have HB := n0_; clear n0_; (try clear hb); (try clear hb2); (try clear hk); (try clear hi)))
                      go_ret
                      exact ⟨by first | rfl | (simp [errW_none, errW_some] <;> rfl) | (simp [*, errW_none, errW_some] <;> rfl), by repeat (first | (with_reducible first | exact HB.out | apply below_alloc | apply pw_below_drewN | apply below_drew1) | exact HB.out)⟩
                    · rw [if_neg c29] at H
                      have c29b0 : (t154.toList == ([] : List UInt8)) = false := beq_eq_false_iff_ne.mpr c29
                      have c29b1 : (t154.toList != ([] : List UInt8)) = true := bne_iff_ne.mpr c29
                      obtain rfl := Option.some.inj H
                      go_enter Tryd.func3, Tryd.ntmps3
                      go_wp2_with (first | ((with_reducible refine gate_callee (f := 12) rfl ?_); refine goesL_ (some 8) rfl rfl Tryd.func12 (by kernel_rfl) rfl #[] rfl (by (try simp only [List.map_toArray, List.map_cons, List.map_nil]); first | done | rfl | (simp only [List.length_drop, List.length_take]; rfl)) ?_; (with_reducible refine (florinlaw01_head.calls k  true _ A4.out).mono ?_); rintro e w45 ⟨rfl, hb⟩; refine ⟨_, rfl, ?_⟩; have n0_ := Aside0.mk (below_step (by repeat (first | (with_reducible first | exact HB.out | apply below_alloc | apply pw_below_drewN | apply below_drew1) | exact HB.out)) hb); clear HB; have HB := n0_; clear n0_; (try clear hb); (try clear hb2); (try clear hk); (try clear hi)) | ((with_reducible refine gate_callee (f := 13) rfl ?_); refine goesL_ (some 14) rfl rfl Tryd.func13 (by kernel_rfl) rfl #[.slice A0 l0.length c0] rfl (by (try simp only [List.map_toArray, List.map_cons, List.map_nil]); first | done | rfl | (simp only [List.length_drop, List.length_take]; rfl)) ?_; (with_reducible refine (florinlaw01_Digits.calls k _ _ l0 t141 _ ?side1 ?side2 A8.out).mono ?_); (case side1 => repeat (first | exact (Kd.C_below HR0.out HB.out) | (with_reducible refine Kd.C_alloc ?_ _) | (with_reducible refine Kd.C_drewN ?_ _) | (with_reducible refine Kd.C_drew ?_))); (case side2 => exact HC0.out); rintro e w46 ⟨rfl, hb⟩; refine ⟨_, rfl, ?_⟩; have n0_ := Aside0.mk (below_step (by repeat (first | (with_reducible first | exact HB.out | apply below_alloc | apply pw_below_drewN | apply below_drew1) | exact HB.out)) hb); clear HB; have HB := n0_; clear n0_; (try clear hb); (try clear hb2); (try clear hk); (try clear hi)) | ((with_reducible refine gate_callee (f := 14) rfl ?_); refine goesL_ (some 20) rfl rfl Tryd.func14 (by kernel_rfl) rfl #[.string t141, .int .i64 0] rfl (by (try simp only [List.map_toArray, List.map_cons, List.map_nil]); first | done | rfl | (simp only [List.length_drop, List.length_take]; rfl)) ?_; (with_reducible refine (num_Times.calls k t141 0 t142 _ A9.out).mono ?_); rintro e w47 ⟨rfl, hb⟩; refine ⟨_, rfl, ?_⟩; have n0_ := Aside0.mk (below_step (by repeat (first | (with_reducible first | exact HB.out | apply below_alloc | apply pw_below_drewN | apply below_drew1) | exact HB.out)) hb); clear HB; have HB := n0_; clear n0_; (try clear hb); (try clear hb2); (try clear hk); (try clear hi)) | (go_at_call 14; (with_reducible refine (num_Times.calls k t141 1 t143 _ A11.out).mono ?_); rintro e w48 ⟨rfl, hb⟩; have n0_ := Aside0.mk (below_step (by repeat (first | (with_reducible first | exact HB.out | apply below_alloc | apply pw_below_drewN | apply below_drew1) | exact HB.out)) hb); clear HB; have HB := n0_; clear n0_; (try clear hb); (try clear hb2); (try clear hk); (try clear hi)) | (go_at_call 15; (with_reducible refine (florinlaw01_bare.calls k t141 t144 _ A12.out).mono ?_); rintro e w' ⟨rfl, ⟨nd, rfl⟩⟩) | (go_at_call 14; (with_reducible refine (num_Times.calls k t141 10 t145 _ A14.out).mono ?_); rintro e w49 ⟨rfl, hb⟩; have n0_ := Aside0.mk (below_step (by repeat (first | (with_reducible first | exact HB.out | apply below_alloc | apply pw_below_drewN | apply below_drew1) | exact HB.out)) hb); clear HB; have HB := n0_; clear n0_; (try clear hb); (try clear hb2); (try clear hk); (try clear hi)) | (go_at_call 15; (with_reducible refine (florinlaw01_bare.calls k (t141 ++ (⟨#[48]⟩ : ByteArray)) t146 _ A16.out).mono ?_); rintro e w' ⟨rfl, ⟨nd, rfl⟩⟩) | (go_at_call 14; (with_reducible refine (num_Times.calls k t141 (wrap64 ((Go.bits .and .i64 a1 268435455) + (Go.bits .and .i64 a2 268435455))) t147 _ A18.out).mono ?_); rintro e w50 ⟨rfl, hb⟩; have n0_ := Aside0.mk (below_step (by repeat (first | (with_reducible first | exact HB.out | apply below_alloc | apply pw_below_drewN | apply below_drew1) | exact HB.out)) hb); clear HB; have HB := n0_; clear n0_; (try clear hb); (try clear hb2); (try clear hk); (try clear hi)) | (go_at_call 14; (with_reducible refine (num_Times.calls k t141 (Go.bits .and .i64 a1 268435455) t148 _ A19.out).mono ?_); rintro e w51 ⟨rfl, hb⟩; have n0_ := Aside0.mk (below_step (by repeat (first | (with_reducible first | exact HB.out | apply below_alloc | apply pw_below_drewN | apply below_drew1) | exact HB.out)) hb); clear HB; have HB := n0_; clear n0_; (try clear hb); (try clear hb2); (try clear hk); (try clear hi)) | (go_at_call 14; (with_reducible refine (num_Times.calls k t141 (Go.bits .and .i64 a2 268435455) t149 _ A20.out).mono ?_); rintro e w52 ⟨rfl, hb⟩; have n0_ := Aside0.mk (below_step (by repeat (first | (with_reducible first | exact HB.out | apply below_alloc | apply pw_below_drewN | apply below_drew1) | exact HB.out)) hb); clear HB; have HB := n0_; clear n0_; (try clear hb); (try clear hb2); (try clear hk); (try clear hi)) | (go_at_call 16; (with_reducible refine (num_Add.calls k t148 t149 t150 _ A21.out).mono ?_); rintro e w53 ⟨rfl, hb⟩; have n0_ := Aside0.mk (below_step (by repeat (first | (with_reducible first | exact HB.out | apply below_alloc | apply pw_below_drewN | apply below_drew1) | exact HB.out)) hb); clear HB; have HB := n0_; clear n0_; (try clear hb); (try clear hb2); (try clear hk); (try clear hi)) | (go_at_call 14; (with_reducible refine (num_Times.calls k t141 (wrap64 ((Go.bits .and .i64 a1 268435455) + 1)) t151 _ A23.out).mono ?_); rintro e w54 ⟨rfl, hb⟩; have n0_ := Aside0.mk (below_step (by repeat (first | (with_reducible first | exact HB.out | apply below_alloc | apply pw_below_drewN | apply below_drew1) | exact HB.out)) hb); clear HB; have HB := n0_; clear n0_; (try clear hb); (try clear hb2); (try clear hk); (try clear hi)) | (go_at_call 16; (with_reducible refine (num_Add.calls k t148 t141 t152 _ A24.out).mono ?_); rintro e w55 ⟨rfl, hb⟩; have n0_ := Aside0.mk (below_step (by repeat (first | (with_reducible first | exact HB.out | apply below_alloc | apply pw_below_drewN | apply below_drew1) | exact HB.out)) hb); clear HB; have HB := n0_; clear n0_; (try clear hb); (try clear hb2); (try clear hk); (try clear hi)) | (go_at_call 14; (with_reducible refine (num_Times.calls k t141 (-1) t153 _ A26.out).mono ?_); rintro e w56 ⟨rfl, hb⟩; have n0_ := Aside0.mk (below_step (by repeat (first | (with_reducible first | exact HB.out | apply below_alloc | apply pw_below_drewN | apply below_drew1) | exact HB.out)) hb); clear HB; have HB := n0_; clear n0_; (try clear hb); (try clear hb2); (try clear hk); (try clear hi)) | (go_at_call 14; (with_reducible refine (num_Times.calls k (⟨#[49]⟩ : ByteArray) 1000000001 t154 _ A28.out).mono ?_); rintro e w57 ⟨rfl, hb⟩; have n0_ := Aside0.mk (below_step (by repeat (first | (with_reducible first | exact HB.out | apply below_alloc | apply pw_below_drewN | apply below_drew1) | exact HB.out)) hb); clear HB; have HB := n0_; clear n0_; (try clear hb); (try clear hb2); (try clear hk); (try clear hi)))
                      go_ret
                      exact ⟨by first | rfl | (simp [errW_none, errW_some] <;> rfl) | (simp [*, errW_none, errW_some] <;> rfl), by repeat (first | (with_reducible first | exact HB.out | apply below_alloc | apply pw_below_drewN | apply below_drew1) | exact HB.out)⟩
                  · rw [if_neg c27] at H
                    have c27b0 : (t153.toList == ([] : List UInt8)) = false := beq_eq_false_iff_ne.mpr c27
                    have c27b1 : (t153.toList != ([] : List UInt8)) = true := bne_iff_ne.mpr c27
                    obtain rfl := Option.some.inj H
                    go_enter Tryd.func3, Tryd.ntmps3
                    go_wp2_with (first | ((with_reducible refine gate_callee (f := 12) rfl ?_); refine goesL_ (some 8) rfl rfl Tryd.func12 (by kernel_rfl) rfl #[] rfl (by (try simp only [List.map_toArray, List.map_cons, List.map_nil]); first | done | rfl | (simp only [List.length_drop, List.length_take]; rfl)) ?_; (with_reducible refine (florinlaw01_head.calls k  true _ A4.out).mono ?_); rintro e w58 ⟨rfl, hb⟩; refine ⟨_, rfl, ?_⟩; have n0_ := Aside0.mk (below_step (by repeat (first | (with_reducible first | exact HB.out | apply below_alloc | apply pw_below_drewN | apply below_drew1) | exact HB.out)) hb); clear HB; have HB := n0_; clear n0_; (try clear hb); (try clear hb2); (try clear hk); (try clear hi)) | ((with_reducible refine gate_callee (f := 13) rfl ?_); refine goesL_ (some 14) rfl rfl Tryd.func13 (by kernel_rfl) rfl #[.slice A0 l0.length c0] rfl (by (try simp only [List.map_toArray, List.map_cons, List.map_nil]); first | done | rfl | (simp only [List.length_drop, List.length_take]; rfl)) ?_; (with_reducible refine (florinlaw01_Digits.calls k _ _ l0 t141 _ ?side1 ?side2 A8.out).mono ?_); (case side1 => repeat (first | exact (Kd.C_below HR0.out HB.out) | (with_reducible refine Kd.C_alloc ?_ _) | (with_reducible refine Kd.C_drewN ?_ _) | (with_reducible refine Kd.C_drew ?_))); (case side2 => exact HC0.out); rintro e w59 ⟨rfl, hb⟩; refine ⟨_, rfl, ?_⟩; have n0_ := Aside0.mk (below_step (by repeat (first | (with_reducible first | exact HB.out | apply below_alloc | apply pw_below_drewN | apply below_drew1) | exact HB.out)) hb); clear HB; have HB := n0_; clear n0_; (try clear hb); (try clear hb2); (try clear hk); (try clear hi)) | ((with_reducible refine gate_callee (f := 14) rfl ?_); refine goesL_ (some 20) rfl rfl Tryd.func14 (by kernel_rfl) rfl #[.string t141, .int .i64 0] rfl (by (try simp only [List.map_toArray, List.map_cons, List.map_nil]); first | done | rfl | (simp only [List.length_drop, List.length_take]; rfl)) ?_; (with_reducible refine (num_Times.calls k t141 0 t142 _ A9.out).mono ?_); rintro e w60 ⟨rfl, hb⟩; refine ⟨_, rfl, ?_⟩; have n0_ := Aside0.mk (below_step (by repeat (first | (with_reducible first | exact HB.out | apply below_alloc | apply pw_below_drewN | apply below_drew1) | exact HB.out)) hb); clear HB; have HB := n0_; clear n0_; (try clear hb); (try clear hb2); (try clear hk); (try clear hi)) | (go_at_call 14; (with_reducible refine (num_Times.calls k t141 1 t143 _ A11.out).mono ?_); rintro e w61 ⟨rfl, hb⟩; have n0_ := Aside0.mk (below_step (by repeat (first | (with_reducible first | exact HB.out | apply below_alloc | apply pw_below_drewN | apply below_drew1) | exact HB.out)) hb); clear HB; have HB := n0_; clear n0_; (try clear hb); (try clear hb2); (try clear hk); (try clear hi)) | (go_at_call 15; (with_reducible refine (florinlaw01_bare.calls k t141 t144 _ A12.out).mono ?_); rintro e w' ⟨rfl, ⟨nd, rfl⟩⟩) | (go_at_call 14; (with_reducible refine (num_Times.calls k t141 10 t145 _ A14.out).mono ?_); rintro e w62 ⟨rfl, hb⟩; have n0_ := Aside0.mk (below_step (by repeat (first | (with_reducible first | exact HB.out | apply below_alloc | apply pw_below_drewN | apply below_drew1) | exact HB.out)) hb); clear HB; have HB := n0_; clear n0_; (try clear hb); (try clear hb2); (try clear hk); (try clear hi)) | (go_at_call 15; (with_reducible refine (florinlaw01_bare.calls k (t141 ++ (⟨#[48]⟩ : ByteArray)) t146 _ A16.out).mono ?_); rintro e w' ⟨rfl, ⟨nd, rfl⟩⟩) | (go_at_call 14; (with_reducible refine (num_Times.calls k t141 (wrap64 ((Go.bits .and .i64 a1 268435455) + (Go.bits .and .i64 a2 268435455))) t147 _ A18.out).mono ?_); rintro e w63 ⟨rfl, hb⟩; have n0_ := Aside0.mk (below_step (by repeat (first | (with_reducible first | exact HB.out | apply below_alloc | apply pw_below_drewN | apply below_drew1) | exact HB.out)) hb); clear HB; have HB := n0_; clear n0_; (try clear hb); (try clear hb2); (try clear hk); (try clear hi)) | (go_at_call 14; (with_reducible refine (num_Times.calls k t141 (Go.bits .and .i64 a1 268435455) t148 _ A19.out).mono ?_); rintro e w64 ⟨rfl, hb⟩; have n0_ := Aside0.mk (below_step (by repeat (first | (with_reducible first | exact HB.out | apply below_alloc | apply pw_below_drewN | apply below_drew1) | exact HB.out)) hb); clear HB; have HB := n0_; clear n0_; (try clear hb); (try clear hb2); (try clear hk); (try clear hi)) | (go_at_call 14; (with_reducible refine (num_Times.calls k t141 (Go.bits .and .i64 a2 268435455) t149 _ A20.out).mono ?_); rintro e w65 ⟨rfl, hb⟩; have n0_ := Aside0.mk (below_step (by repeat (first | (with_reducible first | exact HB.out | apply below_alloc | apply pw_below_drewN | apply below_drew1) | exact HB.out)) hb); clear HB; have HB := n0_; clear n0_; (try clear hb); (try clear hb2); (try clear hk); (try clear hi)) | (go_at_call 16; (with_reducible refine (num_Add.calls k t148 t149 t150 _ A21.out).mono ?_); rintro e w66 ⟨rfl, hb⟩; have n0_ := Aside0.mk (below_step (by repeat (first | (with_reducible first | exact HB.out | apply below_alloc | apply pw_below_drewN | apply below_drew1) | exact HB.out)) hb); clear HB; have HB := n0_; clear n0_; (try clear hb); (try clear hb2); (try clear hk); (try clear hi)) | (go_at_call 14; (with_reducible refine (num_Times.calls k t141 (wrap64 ((Go.bits .and .i64 a1 268435455) + 1)) t151 _ A23.out).mono ?_); rintro e w67 ⟨rfl, hb⟩; have n0_ := Aside0.mk (below_step (by repeat (first | (with_reducible first | exact HB.out | apply below_alloc | apply pw_below_drewN | apply below_drew1) | exact HB.out)) hb); clear HB; have HB := n0_; clear n0_; (try clear hb); (try clear hb2); (try clear hk); (try clear hi)) | (go_at_call 16; (with_reducible refine (num_Add.calls k t148 t141 t152 _ A24.out).mono ?_); rintro e w68 ⟨rfl, hb⟩; have n0_ := Aside0.mk (below_step (by repeat (first | (with_reducible first | exact HB.out | apply below_alloc | apply pw_below_drewN | apply below_drew1) | exact HB.out)) hb); clear HB; have HB := n0_; clear n0_; (try clear hb); (try clear hb2); (try clear hk); (try clear hi)) | (go_at_call 14; (with_reducible refine (num_Times.calls k t141 (-1) t153 _ A26.out).mono ?_); rintro e w69 ⟨rfl, hb⟩; have n0_ := Aside0.mk (below_step (by repeat (first | (with_reducible first | exact HB.out | apply below_alloc | apply pw_below_drewN | apply below_drew1) | exact HB.out)) hb); clear HB; have HB := n0_; clear n0_; (try clear hb); (try clear hb2); (try clear hk); (try clear hi)))
                    go_ret
                    exact ⟨by first | rfl | (simp [errW_none, errW_some] <;> rfl) | (simp [*, errW_none, errW_some] <;> rfl), by repeat (first | (with_reducible first | exact HB.out | apply below_alloc | apply pw_below_drewN | apply below_drew1) | exact HB.out)⟩
                · rw [if_neg c25] at H
                  have c25b0 : (t151.toList == t152.toList) = false := beq_eq_false_iff_ne.mpr c25
                  have c25b1 : (t151.toList != t152.toList) = true := bne_iff_ne.mpr c25
                  obtain rfl := Option.some.inj H
                  go_enter Tryd.func3, Tryd.ntmps3
                  go_wp2_with (first | ((with_reducible refine gate_callee (f := 12) rfl ?_); refine goesL_ (some 8) rfl rfl Tryd.func12 (by kernel_rfl) rfl #[] rfl (by (try simp only [List.map_toArray, List.map_cons, List.map_nil]); first | done | rfl | (simp only [List.length_drop, List.length_take]; rfl)) ?_; (with_reducible refine (florinlaw01_head.calls k  true _ A4.out).mono ?_); rintro e w70 ⟨rfl, hb⟩; refine ⟨_, rfl, ?_⟩; have n0_ := Aside0.mk (below_step (by repeat (first | (with_reducible first | exact HB.out | apply below_alloc | apply pw_below_drewN | apply below_drew1) | exact HB.out)) hb); clear HB; have HB := n0_; clear n0_; (try clear hb); (try clear hb2); (try clear hk); (try clear hi)) | ((with_reducible refine gate_callee (f := 13) rfl ?_); refine goesL_ (some 14) rfl rfl Tryd.func13 (by kernel_rfl) rfl #[.slice A0 l0.length c0] rfl (by (try simp only [List.map_toArray, List.map_cons, List.map_nil]); first | done | rfl | (simp only [List.length_drop, List.length_take]; rfl)) ?_; (with_reducible refine (florinlaw01_Digits.calls k _ _ l0 t141 _ ?side1 ?side2 A8.out).mono ?_); (case side1 => repeat (first | exact (Kd.C_below HR0.out HB.out) | (with_reducible refine Kd.C_alloc ?_ _) | (with_reducible refine Kd.C_drewN ?_ _) | (with_reducible refine Kd.C_drew ?_))); (case side2 => exact HC0.out); rintro e w71 ⟨rfl, hb⟩; refine ⟨_, rfl, ?_⟩; have n0_ := Aside0.mk (below_step (by repeat (first | (with_reducible first | exact HB.out | apply below_alloc | apply pw_below_drewN | apply below_drew1) | exact HB.out)) hb); clear HB; have HB := n0_; clear n0_; (try clear hb); (try clear hb2); (try clear hk); (try clear hi)) | ((with_reducible refine gate_callee (f := 14) rfl ?_); refine goesL_ (some 20) rfl rfl Tryd.func14 (by kernel_rfl) rfl #[.string t141, .int .i64 0] rfl (by (try simp only [List.map_toArray, List.map_cons, List.map_nil]); first | done | rfl | (simp only [List.length_drop, List.length_take]; rfl)) ?_; (with_reducible refine (num_Times.calls k t141 0 t142 _ A9.out).mono ?_); rintro e w72 ⟨rfl, hb⟩; refine ⟨_, rfl, ?_⟩; have n0_ := Aside0.mk (below_step (by repeat (first | (with_reducible first | exact HB.out | apply below_alloc | apply pw_below_drewN | apply below_drew1) | exact HB.out)) hb); clear HB; have HB := n0_; clear n0_; (try clear hb); (try clear hb2); (try clear hk); (try clear hi)) | (go_at_call 14; (with_reducible refine (num_Times.calls k t141 1 t143 _ A11.out).mono ?_); rintro e w73 ⟨rfl, hb⟩; have n0_ := Aside0.mk (below_step (by repeat (first | (with_reducible first | exact HB.out | apply below_alloc | apply pw_below_drewN | apply below_drew1) | exact HB.out)) hb); clear HB; have HB := n0_; clear n0_; (try clear hb); (try clear hb2); (try clear hk); (try clear hi)) | (go_at_call 15; (with_reducible refine (florinlaw01_bare.calls k t141 t144 _ A12.out).mono ?_); rintro e w' ⟨rfl, ⟨nd, rfl⟩⟩) | (go_at_call 14; (with_reducible refine (num_Times.calls k t141 10 t145 _ A14.out).mono ?_); rintro e w74 ⟨rfl, hb⟩; have n0_ := Aside0.mk (below_step (by repeat (first | (with_reducible first | exact HB.out | apply below_alloc | apply pw_below_drewN | apply below_drew1) | exact HB.out)) hb); clear HB; have HB := n0_; clear n0_; (try clear hb); (try clear hb2); (try clear hk); (try clear hi)) | (go_at_call 15; (with_reducible refine (florinlaw01_bare.calls k (t141 ++ (⟨#[48]⟩ : ByteArray)) t146 _ A16.out).mono ?_); rintro e w' ⟨rfl, ⟨nd, rfl⟩⟩) | (go_at_call 14; (with_reducible refine (num_Times.calls k t141 (wrap64 ((Go.bits .and .i64 a1 268435455) + (Go.bits .and .i64 a2 268435455))) t147 _ A18.out).mono ?_); rintro e w75 ⟨rfl, hb⟩; have n0_ := Aside0.mk (below_step (by repeat (first | (with_reducible first | exact HB.out | apply below_alloc | apply pw_below_drewN | apply below_drew1) | exact HB.out)) hb); clear HB; have HB := n0_; clear n0_; (try clear hb); (try clear hb2); (try clear hk); (try clear hi)) | (go_at_call 14; (with_reducible refine (num_Times.calls k t141 (Go.bits .and .i64 a1 268435455) t148 _ A19.out).mono ?_); rintro e w76 ⟨rfl, hb⟩; have n0_ := Aside0.mk (below_step (by repeat (first | (with_reducible first | exact HB.out | apply below_alloc | apply pw_below_drewN | apply below_drew1) | exact HB.out)) hb); clear HB; have HB := n0_; clear n0_; (try clear hb); (try clear hb2); (try clear hk); (try clear hi)) | (go_at_call 14; (with_reducible refine (num_Times.calls k t141 (Go.bits .and .i64 a2 268435455) t149 _ A20.out).mono ?_); rintro e w77 ⟨rfl, hb⟩; have n0_ := Aside0.mk (below_step (by repeat (first | (with_reducible first | exact HB.out | apply below_alloc | apply pw_below_drewN | apply below_drew1) | exact HB.out)) hb); clear HB; have HB := n0_; clear n0_; (try clear hb); (try clear hb2); (try clear hk); (try clear hi)) | (go_at_call 16; (with_reducible refine (num_Add.calls k t148 t149 t150 _ A21.out).mono ?_); rintro e w78 ⟨rfl, hb⟩; have n0_ := Aside0.mk (below_step (by repeat (first | (with_reducible first | exact HB.out | apply below_alloc | apply pw_below_drewN | apply below_drew1) | exact HB.out)) hb); clear HB; have HB := n0_; clear n0_; (try clear hb); (try clear hb2); (try clear hk); (try clear hi)) | (go_at_call 14; (with_reducible refine (num_Times.calls k t141 (wrap64 ((Go.bits .and .i64 a1 268435455) + 1)) t151 _ A23.out).mono ?_); rintro e w79 ⟨rfl, hb⟩; have n0_ := Aside0.mk (below_step (by repeat (first | (with_reducible first | exact HB.out | apply below_alloc | apply pw_below_drewN | apply below_drew1) | exact HB.out)) hb); clear HB; have HB := n0_; clear n0_; (try clear hb); (try clear hb2); (try clear hk); (try clear hi)) | (go_at_call 16; (with_reducible refine (num_Add.calls k t148 t141 t152 _ A24.out).mono ?_); rintro e w80 ⟨rfl, hb⟩; have n0_ := Aside0.mk (below_step (by repeat (first | (with_reducible first | exact HB.out | apply below_alloc | apply pw_below_drewN | apply below_drew1) | exact HB.out)) hb); clear HB; have HB := n0_; clear n0_; (try clear hb); (try clear hb2); (try clear hk); (try clear hi)))
                  go_ret
                  exact ⟨by first | rfl | (simp [errW_none, errW_some] <;> rfl) | (simp [*, errW_none, errW_some] <;> rfl), by repeat (first | (with_reducible first | exact HB.out | apply below_alloc | apply pw_below_drewN | apply below_drew1) | exact HB.out)⟩
              · rw [if_neg c22] at H
                have c22b0 : (t147.toList == t150.toList) = false := beq_eq_false_iff_ne.mpr c22
                have c22b1 : (t147.toList != t150.toList) = true := bne_iff_ne.mpr c22
                obtain rfl := Option.some.inj H
                go_enter Tryd.func3, Tryd.ntmps3
                go_wp2_with (first | ((with_reducible refine gate_callee (f := 12) rfl ?_); refine goesL_ (some 8) rfl rfl Tryd.func12 (by kernel_rfl) rfl #[] rfl (by (try simp only [List.map_toArray, List.map_cons, List.map_nil]); first | done | rfl | (simp only [List.length_drop, List.length_take]; rfl)) ?_; (with_reducible refine (florinlaw01_head.calls k  true _ A4.out).mono ?_); rintro e w81 ⟨rfl, hb⟩; refine ⟨_, rfl, ?_⟩; have n0_ := Aside0.mk (below_step (by repeat (first | (with_reducible first | exact HB.out | apply below_alloc | apply pw_below_drewN | apply below_drew1) | exact HB.out)) hb); clear HB; have HB := n0_; clear n0_; (try clear hb); (try clear hb2); (try clear hk); (try clear hi)) | ((with_reducible refine gate_callee (f := 13) rfl ?_); refine goesL_ (some 14) rfl rfl Tryd.func13 (by kernel_rfl) rfl #[.slice A0 l0.length c0] rfl (by (try simp only [List.map_toArray, List.map_cons, List.map_nil]); first | done | rfl | (simp only [List.length_drop, List.length_take]; rfl)) ?_; (with_reducible refine (florinlaw01_Digits.calls k _ _ l0 t141 _ ?side1 ?side2 A8.out).mono ?_); (case side1 => repeat (first | exact (Kd.C_below HR0.out HB.out) | (with_reducible refine Kd.C_alloc ?_ _) | (with_reducible refine Kd.C_drewN ?_ _) | (with_reducible refine Kd.C_drew ?_))); (case side2 => exact HC0.out); rintro e w82 ⟨rfl, hb⟩; refine ⟨_, rfl, ?_⟩; have n0_ := Aside0.mk (below_step (by repeat (first | (with_reducible first | exact HB.out | apply below_alloc | apply pw_below_drewN | apply below_drew1) | exact HB.out)) hb); clear HB; have HB := n0_; clear n0_; (try clear hb); (try clear hb2); (try clear hk); (try clear hi)) | ((with_reducible refine gate_callee (f := 14) rfl ?_); refine goesL_ (some 20) rfl rfl Tryd.func14 (by kernel_rfl) rfl #[.string t141, .int .i64 0] rfl (by (try simp only [List.map_toArray, List.map_cons, List.map_nil]); first | done | rfl | (simp only [List.length_drop, List.length_take]; rfl)) ?_; (with_reducible refine (num_Times.calls k t141 0 t142 _ A9.out).mono ?_); rintro e w83 ⟨rfl, hb⟩; refine ⟨_, rfl, ?_⟩; have n0_ := Aside0.mk (below_step (by repeat (first | (with_reducible first | exact HB.out | apply below_alloc | apply pw_below_drewN | apply below_drew1) | exact HB.out)) hb); clear HB; have HB := n0_; clear n0_; (try clear hb); (try clear hb2); (try clear hk); (try clear hi)) | (go_at_call 14; (with_reducible refine (num_Times.calls k t141 1 t143 _ A11.out).mono ?_); rintro e w84 ⟨rfl, hb⟩; have n0_ := Aside0.mk (below_step (by repeat (first | (with_reducible first | exact HB.out | apply below_alloc | apply pw_below_drewN | apply below_drew1) | exact HB.out)) hb); clear HB; have HB := n0_; clear n0_; (try clear hb); (try clear hb2); (try clear hk); (try clear hi)) | (go_at_call 15; (with_reducible refine (florinlaw01_bare.calls k t141 t144 _ A12.out).mono ?_); rintro e w' ⟨rfl, ⟨nd, rfl⟩⟩) | (go_at_call 14; (with_reducible refine (num_Times.calls k t141 10 t145 _ A14.out).mono ?_); rintro e w85 ⟨rfl, hb⟩; have n0_ := Aside0.mk (below_step (by repeat (first | (with_reducible first | exact HB.out | apply below_alloc | apply pw_below_drewN | apply below_drew1) | exact HB.out)) hb); clear HB; have HB := n0_; clear n0_; (try clear hb); (try clear hb2); (try clear hk); (try clear hi)) | (go_at_call 15; (with_reducible refine (florinlaw01_bare.calls k (t141 ++ (⟨#[48]⟩ : ByteArray)) t146 _ A16.out).mono ?_); rintro e w' ⟨rfl, ⟨nd, rfl⟩⟩) | (go_at_call 14; (with_reducible refine (num_Times.calls k t141 (wrap64 ((Go.bits .and .i64 a1 268435455) + (Go.bits .and .i64 a2 268435455))) t147 _ A18.out).mono ?_); rintro e w86 ⟨rfl, hb⟩; have n0_ := Aside0.mk (below_step (by repeat (first | (with_reducible first | exact HB.out | apply below_alloc | apply pw_below_drewN | apply below_drew1) | exact HB.out)) hb); clear HB; have HB := n0_; clear n0_; (try clear hb); (try clear hb2); (try clear hk); (try clear hi)) | (go_at_call 14; (with_reducible refine (num_Times.calls k t141 (Go.bits .and .i64 a1 268435455) t148 _ A19.out).mono ?_); rintro e w87 ⟨rfl, hb⟩; have n0_ := Aside0.mk (below_step (by repeat (first | (with_reducible first | exact HB.out | apply below_alloc | apply pw_below_drewN | apply below_drew1) | exact HB.out)) hb); clear HB; have HB := n0_; clear n0_; (try clear hb); (try clear hb2); (try clear hk); (try clear hi)) | (go_at_call 14; (with_reducible refine (num_Times.calls k t141 (Go.bits .and .i64 a2 268435455) t149 _ A20.out).mono ?_); rintro e w88 ⟨rfl, hb⟩; have n0_ := Aside0.mk (below_step (by repeat (first | (with_reducible first | exact HB.out | apply below_alloc | apply pw_below_drewN | apply below_drew1) | exact HB.out)) hb); clear HB; have HB := n0_; clear n0_; (try clear hb); (try clear hb2); (try clear hk); (try clear hi)) | (go_at_call 16; (with_reducible refine (num_Add.calls k t148 t149 t150 _ A21.out).mono ?_); rintro e w89 ⟨rfl, hb⟩; have n0_ := Aside0.mk (below_step (by repeat (first | (with_reducible first | exact HB.out | apply below_alloc | apply pw_below_drewN | apply below_drew1) | exact HB.out)) hb); clear HB; have HB := n0_; clear n0_; (try clear hb); (try clear hb2); (try clear hk); (try clear hi)))
                go_ret
                exact ⟨by first | rfl | (simp [errW_none, errW_some] <;> rfl) | (simp [*, errW_none, errW_some] <;> rfl), by repeat (first | (with_reducible first | exact HB.out | apply below_alloc | apply pw_below_drewN | apply below_drew1) | exact HB.out)⟩
            · rw [if_neg c17] at H
              have c17b0 : (t145.toList == t146.toList) = false := beq_eq_false_iff_ne.mpr c17
              have c17b1 : (t145.toList != t146.toList) = true := bne_iff_ne.mpr c17
              obtain rfl := Option.some.inj H
              go_enter Tryd.func3, Tryd.ntmps3
              go_wp2_with (first | ((with_reducible refine gate_callee (f := 12) rfl ?_); refine goesL_ (some 8) rfl rfl Tryd.func12 (by kernel_rfl) rfl #[] rfl (by (try simp only [List.map_toArray, List.map_cons, List.map_nil]); first | done | rfl | (simp only [List.length_drop, List.length_take]; rfl)) ?_; (with_reducible refine (florinlaw01_head.calls k  true _ A4.out).mono ?_); rintro e w90 ⟨rfl, hb⟩; refine ⟨_, rfl, ?_⟩; have n0_ := Aside0.mk (below_step (by repeat (first | (with_reducible first | exact HB.out | apply below_alloc | apply pw_below_drewN | apply below_drew1) | exact HB.out)) hb); clear HB; have HB := n0_; clear n0_; (try clear hb); (try clear hb2); (try clear hk); (try clear hi)) | ((with_reducible refine gate_callee (f := 13) rfl ?_); refine goesL_ (some 14) rfl rfl Tryd.func13 (by kernel_rfl) rfl #[.slice A0 l0.length c0] rfl (by (try simp only [List.map_toArray, List.map_cons, List.map_nil]); first | done | rfl | (simp only [List.length_drop, List.length_take]; rfl)) ?_; (with_reducible refine (florinlaw01_Digits.calls k _ _ l0 t141 _ ?side1 ?side2 A8.out).mono ?_); (case side1 => repeat (first | exact (Kd.C_below HR0.out HB.out) | (with_reducible refine Kd.C_alloc ?_ _) | (with_reducible refine Kd.C_drewN ?_ _) | (with_reducible refine Kd.C_drew ?_))); (case side2 => exact HC0.out); rintro e w91 ⟨rfl, hb⟩; refine ⟨_, rfl, ?_⟩; have n0_ := Aside0.mk (below_step (by repeat (first | (with_reducible first | exact HB.out | apply below_alloc | apply pw_below_drewN | apply below_drew1) | exact HB.out)) hb); clear HB; have HB := n0_; clear n0_; (try clear hb); (try clear hb2); (try clear hk); (try clear hi)) | ((with_reducible refine gate_callee (f := 14) rfl ?_); refine goesL_ (some 20) rfl rfl Tryd.func14 (by kernel_rfl) rfl #[.string t141, .int .i64 0] rfl (by (try simp only [List.map_toArray, List.map_cons, List.map_nil]); first | done | rfl | (simp only [List.length_drop, List.length_take]; rfl)) ?_; (with_reducible refine (num_Times.calls k t141 0 t142 _ A9.out).mono ?_); rintro e w92 ⟨rfl, hb⟩; refine ⟨_, rfl, ?_⟩; have n0_ := Aside0.mk (below_step (by repeat (first | (with_reducible first | exact HB.out | apply below_alloc | apply pw_below_drewN | apply below_drew1) | exact HB.out)) hb); clear HB; have HB := n0_; clear n0_; (try clear hb); (try clear hb2); (try clear hk); (try clear hi)) | (go_at_call 14; (with_reducible refine (num_Times.calls k t141 1 t143 _ A11.out).mono ?_); rintro e w93 ⟨rfl, hb⟩; have n0_ := Aside0.mk (below_step (by repeat (first | (with_reducible first | exact HB.out | apply below_alloc | apply pw_below_drewN | apply below_drew1) | exact HB.out)) hb); clear HB; have HB := n0_; clear n0_; (try clear hb); (try clear hb2); (try clear hk); (try clear hi)) | (go_at_call 15; (with_reducible refine (florinlaw01_bare.calls k t141 t144 _ A12.out).mono ?_); rintro e w' ⟨rfl, ⟨nd, rfl⟩⟩) | (go_at_call 14; (with_reducible refine (num_Times.calls k t141 10 t145 _ A14.out).mono ?_); rintro e w94 ⟨rfl, hb⟩; have n0_ := Aside0.mk (below_step (by repeat (first | (with_reducible first | exact HB.out | apply below_alloc | apply pw_below_drewN | apply below_drew1) | exact HB.out)) hb); clear HB; have HB := n0_; clear n0_; (try clear hb); (try clear hb2); (try clear hk); (try clear hi)) | (go_at_call 15; (with_reducible refine (florinlaw01_bare.calls k (t141 ++ (⟨#[48]⟩ : ByteArray)) t146 _ A16.out).mono ?_); rintro e w' ⟨rfl, ⟨nd, rfl⟩⟩))
              go_ret
              exact ⟨by first | rfl | (simp [errW_none, errW_some] <;> rfl) | (simp [*, errW_none, errW_some] <;> rfl), by repeat (first | (with_reducible first | exact HB.out | apply below_alloc | apply pw_below_drewN | apply below_drew1) | exact HB.out)⟩
          · rw [if_neg c15] at H
            exact absurd H (by simp)
        · rw [if_neg c13] at H
          have c13b0 : (t143.toList == t144.toList) = false := beq_eq_false_iff_ne.mpr c13
          have c13b1 : (t143.toList != t144.toList) = true := bne_iff_ne.mpr c13
          obtain rfl := Option.some.inj H
          go_enter Tryd.func3, Tryd.ntmps3
          go_wp2_with (first | ((with_reducible refine gate_callee (f := 12) rfl ?_); refine goesL_ (some 8) rfl rfl Tryd.func12 (by kernel_rfl) rfl #[] rfl (by (try simp only [List.map_toArray, List.map_cons, List.map_nil]); first | done | rfl | (simp only [List.length_drop, List.length_take]; rfl)) ?_; (with_reducible refine (florinlaw01_head.calls k  true _ A4.out).mono ?_); rintro e w95 ⟨rfl, hb⟩; refine ⟨_, rfl, ?_⟩; have n0_ := Aside0.mk (below_step (by repeat (first | (with_reducible first | exact HB.out | apply below_alloc | apply pw_below_drewN | apply below_drew1) | exact HB.out)) hb); clear HB; have HB := n0_; clear n0_; (try clear hb); (try clear hb2); (try clear hk); (try clear hi)) | ((with_reducible refine gate_callee (f := 13) rfl ?_); refine goesL_ (some 14) rfl rfl Tryd.func13 (by kernel_rfl) rfl #[.slice A0 l0.length c0] rfl (by (try simp only [List.map_toArray, List.map_cons, List.map_nil]); first | done | rfl | (simp only [List.length_drop, List.length_take]; rfl)) ?_; (with_reducible refine (florinlaw01_Digits.calls k _ _ l0 t141 _ ?side1 ?side2 A8.out).mono ?_); (case side1 => repeat (first | exact (Kd.C_below HR0.out HB.out) | (with_reducible refine Kd.C_alloc ?_ _) | (with_reducible refine Kd.C_drewN ?_ _) | (with_reducible refine Kd.C_drew ?_))); (case side2 => exact HC0.out); rintro e w96 ⟨rfl, hb⟩; refine ⟨_, rfl, ?_⟩; have n0_ := Aside0.mk (below_step (by repeat (first | (with_reducible first | exact HB.out | apply below_alloc | apply pw_below_drewN | apply below_drew1) | exact HB.out)) hb); clear HB; have HB := n0_; clear n0_; (try clear hb); (try clear hb2); (try clear hk); (try clear hi)) | ((with_reducible refine gate_callee (f := 14) rfl ?_); refine goesL_ (some 20) rfl rfl Tryd.func14 (by kernel_rfl) rfl #[.string t141, .int .i64 0] rfl (by (try simp only [List.map_toArray, List.map_cons, List.map_nil]); first | done | rfl | (simp only [List.length_drop, List.length_take]; rfl)) ?_; (with_reducible refine (num_Times.calls k t141 0 t142 _ A9.out).mono ?_); rintro e w97 ⟨rfl, hb⟩; refine ⟨_, rfl, ?_⟩; have n0_ := Aside0.mk (below_step (by repeat (first | (with_reducible first | exact HB.out | apply below_alloc | apply pw_below_drewN | apply below_drew1) | exact HB.out)) hb); clear HB; have HB := n0_; clear n0_; (try clear hb); (try clear hb2); (try clear hk); (try clear hi)) | (go_at_call 14; (with_reducible refine (num_Times.calls k t141 1 t143 _ A11.out).mono ?_); rintro e w98 ⟨rfl, hb⟩; have n0_ := Aside0.mk (below_step (by repeat (first | (with_reducible first | exact HB.out | apply below_alloc | apply pw_below_drewN | apply below_drew1) | exact HB.out)) hb); clear HB; have HB := n0_; clear n0_; (try clear hb); (try clear hb2); (try clear hk); (try clear hi)) | (go_at_call 15; (with_reducible refine (florinlaw01_bare.calls k t141 t144 _ A12.out).mono ?_); rintro e w' ⟨rfl, ⟨nd, rfl⟩⟩))
          go_ret
          exact ⟨by first | rfl | (simp [errW_none, errW_some] <;> rfl) | (simp [*, errW_none, errW_some] <;> rfl), by repeat (first | (with_reducible first | exact HB.out | apply below_alloc | apply pw_below_drewN | apply below_drew1) | exact HB.out)⟩
      · rw [if_neg c10] at H
        have c10b0 : (t142.toList == ([] : List UInt8)) = false := beq_eq_false_iff_ne.mpr c10
        have c10b1 : (t142.toList != ([] : List UInt8)) = true := bne_iff_ne.mpr c10
        obtain rfl := Option.some.inj H
        go_enter Tryd.func3, Tryd.ntmps3
        go_wp2_with (first | ((with_reducible refine gate_callee (f := 12) rfl ?_); refine goesL_ (some 8) rfl rfl Tryd.func12 (by kernel_rfl) rfl #[] rfl (by (try simp only [List.map_toArray, List.map_cons, List.map_nil]); first | done | rfl | (simp only [List.length_drop, List.length_take]; rfl)) ?_; (with_reducible refine (florinlaw01_head.calls k  true _ A4.out).mono ?_); rintro e w99 ⟨rfl, hb⟩; refine ⟨_, rfl, ?_⟩; have n0_ := Aside0.mk (below_step (by repeat (first | (with_reducible first | exact HB.out | apply below_alloc | apply pw_below_drewN | apply below_drew1) | exact HB.out)) hb); clear HB; have HB := n0_; clear n0_; (try clear hb); (try clear hb2); (try clear hk); (try clear hi)) | ((with_reducible refine gate_callee (f := 13) rfl ?_); refine goesL_ (some 14) rfl rfl Tryd.func13 (by kernel_rfl) rfl #[.slice A0 l0.length c0] rfl (by (try simp only [List.map_toArray, List.map_cons, List.map_nil]); first | done | rfl | (simp only [List.length_drop, List.length_take]; rfl)) ?_; (with_reducible refine (florinlaw01_Digits.calls k _ _ l0 t141 _ ?side1 ?side2 A8.out).mono ?_); (case side1 => repeat (first | exact (Kd.C_below HR0.out HB.out) | (with_reducible refine Kd.C_alloc ?_ _) | (with_reducible refine Kd.C_drewN ?_ _) | (with_reducible refine Kd.C_drew ?_))); (case side2 => exact HC0.out); rintro e w100 ⟨rfl, hb⟩; refine ⟨_, rfl, ?_⟩; have n0_ := Aside0.mk (below_step (by repeat (first | (with_reducible first | exact HB.out | apply below_alloc | apply pw_below_drewN | apply below_drew1) | exact HB.out)) hb); clear HB; have HB := n0_; clear n0_; (try clear hb); (try clear hb2); (try clear hk); (try clear hi)) | ((with_reducible refine gate_callee (f := 14) rfl ?_); refine goesL_ (some 20) rfl rfl Tryd.func14 (by kernel_rfl) rfl #[.string t141, .int .i64 0] rfl (by (try simp only [List.map_toArray, List.map_cons, List.map_nil]); first | done | rfl | (simp only [List.length_drop, List.length_take]; rfl)) ?_; (with_reducible refine (num_Times.calls k t141 0 t142 _ A9.out).mono ?_); rintro e w101 ⟨rfl, hb⟩; refine ⟨_, rfl, ?_⟩; have n0_ := Aside0.mk (below_step (by repeat (first | (with_reducible first | exact HB.out | apply below_alloc | apply pw_below_drewN | apply below_drew1) | exact HB.out)) hb); clear HB; have HB := n0_; clear n0_; (try clear hb); (try clear hb2); (try clear hk); (try clear hi)))
        go_ret
        exact ⟨by first | rfl | (simp [errW_none, errW_some] <;> rfl) | (simp [*, errW_none, errW_some] <;> rfl), by repeat (first | (with_reducible first | exact HB.out | apply below_alloc | apply pw_below_drewN | apply below_drew1) | exact HB.out)⟩
  · replace c5 := Bool.eq_false_iff.mpr c5
    subst c5
    have H1 : (some false) = some r := by rw [if_neg (show ¬ (false = true) by decide)] at H; exact H
    clear H
    have H := H1
    clear H1
    obtain rfl := Option.some.inj H
    go_enter Tryd.func3, Tryd.ntmps3
    go_wp2_with (first | ((with_reducible refine gate_callee (f := 12) rfl ?_); refine goesL_ (some 8) rfl rfl Tryd.func12 (by kernel_rfl) rfl #[] rfl (by (try simp only [List.map_toArray, List.map_cons, List.map_nil]); first | done | rfl | (simp only [List.length_drop, List.length_take]; rfl)) ?_; (with_reducible refine (florinlaw01_head.calls k  false _ A4.out).mono ?_); rintro e w102 ⟨rfl, hb⟩; refine ⟨_, rfl, ?_⟩; have n0_ := Aside0.mk (below_step (by repeat (first | (with_reducible first | exact HB.out | apply below_alloc | apply pw_below_drewN | apply below_drew1) | exact HB.out)) hb); clear HB; have HB := n0_; clear n0_; (try clear hb); (try clear hb2); (try clear hk); (try clear hi)))
    go_ret
    exact ⟨by first | rfl | (simp [errW_none, errW_some] <;> rfl) | (simp [*, errW_none, errW_some] <;> rfl), by repeat (first | (with_reducible first | exact HB.out | apply below_alloc | apply pw_below_drewN | apply below_drew1) | exact HB.out)⟩

/-- THE ONE PURE STATEMENT of florinlaw01_NumTimes: yours. -/
def florinlaw01_NumTimes.Pure : Prop := ∀ (l0 : List Int) (a1 : Int) (a2 : Int), l0.length ≤ maxLen → l0.length * 1 ≤ 140737488351232 → (∀ x ∈ l0, (Lit.int .u8 x).wf = true) → (Lit.int .i64 a1).wf = true → (Lit.int .i64 a2).wf = true → ∃ k, florinlaw01_NumTimes.f k l0 a1 a2 = some true
theorem florinlaw01_NumTimes.walk (P : florinlaw01_NumTimes.Pure) (a0 : Option Addr) (len0 cap0 : Nat) (z0 : List Int) (a1 : Int) (a2 : Int) (w : World) (w0 : (a0 = none ∧ len0 = 0 ∧ cap0 = 0 ∧ z0 = []) ∨ ∃ x, a0 = some x ∧ len0 ≤ cap0 ∧ cap0 ≤ maxLen ∧ z0.length = cap0 ∧ (∀ i, i < z0.length → w.cell? (x.add i) = some (.int .u8 (z0.getD i 0))) ∧ ∀ n ∈ z0, (Lit.int .u8 n).wf = true) (y0 : len0 * 1 ≤ 140737488351232) (w1 : (Lit.int .i64 a1).wf = true) (w2 : (Lit.int .i64 a2).wf = true) :
    Calls Tryd.prog 3 #[.slice a0 len0 cap0, .int .i64 a1, .int .i64 a2] w fun e w' => e = .returned (.bool true) ∧ Below w.heap.size w w' := by
  obtain ⟨l0, rfl, hr0, hm0, hw0, hc0⟩ := ReadsInt.ofRowC w0
  obtain ⟨k, h⟩ := P l0 a1 a2 hm0 y0 hw0 w1 w2
  refine (florinlaw01_NumTimes.calls k _ _ l0 a1 a2 true w (Kd.C_of_reads (d := (0 : Int)) (h1 := fun _ => rfl) hr0) hc0 h).mono ?_
  rintro e w' ⟨rfl, hd⟩
  exact ⟨rfl, hd⟩

/-! ### num_Int: function 17 -/
theorem num_Int.below_bytes (B : Nat) (w W : World) (u : ByteArray) (h : Below B w W) (hB : B ≤ W.heap.size) : Below B w (Lib.bytesWorld W 5 u) :=
  h.trans ⟨rfl, rfl, rfl, by rw [Lib.bytesWorld_size]; omega, fun k hk => Lib.bytesWorld_at_old _ _ _ k (by omega)⟩
theorem num_Int.ret_ {k : IntKind} {a b : Int} (h : a = b) : Value.int k a = .int k b := by rw [h]
def num_Int.step (n : Int) (c : UInt8) : Int := wrap64 (wrap64 (10 * n) + ((c.toNat : Int) - 48) % 256)
def num_Int.go (l : List UInt8) : Int := l.foldl num_Int.step 0
theorem num_Int.go_take (s : ByteArray) (k : Nat) (h : k < s.size) : num_Int.go (s.data.toList.take (k + 1)) = num_Int.step (num_Int.go (s.data.toList.take k)) (s.data.toList.getD k 0) := by
  unfold num_Int.go
  have h' : k < s.data.toList.length := by simpa using h
  rw [List.take_succ_eq_append_getElem h', List.foldl_append]
  simp only [List.foldl_cons, List.foldl_nil, List.getD_eq_getElem?_getD, List.getElem?_eq_getElem h', Option.getD_some]
def num_Int.f (k : Nat) (a0 : ByteArray) : Option (Int × Bool) := (num_Is.f k a0).bind fun t => if t = true then (num_Trim.f k a0).bind fun u => (if 18 < u.size then some (0, false) else some (num_Int.go u.data.toList, true)) else some (0, false)
theorem num_Int.mono : ∀ a0 k, LeO (num_Int.f k a0) (num_Int.f (k + 1) a0) := by
  intro a0 k
  unfold num_Int.f
  repeat' first
  | (with_reducible exact num_Is.mono _ _)
  | (with_reducible exact num_Trim.mono _ _)
  | (with_reducible exact LeO.refl _)
  | (with_reducible exact LeO.none _)
  | (with_reducible refine LeO.ite ?_ ?_)
  | (with_reducible refine LeO.bind ?_ (fun _ => ?_))
set_option maxHeartbeats 1000000 in
theorem num_Int.calls (k : Nat) (a0 : ByteArray) (r1 : Int) (r2 : Bool) (w : World) (h : num_Int.f k a0 = some (r1, r2)) :
    Calls Tryd.prog 17 #[.string a0] w fun e w' => e = .returned (.tuple #[.int .i64 r1, .bool r2]) ∧ Below w.heap.size w w' := by
  unfold num_Int.f at h
  replace h := Option.bind_eq_some_iff.mp h
  obtain ⟨t, h1, h⟩ := h
  have h1' := Aside0.mk h1
  clear h1
  cases t with
  | false =>
    rw [if_neg (by decide)] at h
    simp only [Option.some.injEq, Prod.mk.injEq] at h
    obtain ⟨rfl, rfl⟩ := h
    go_enter Tryd.func17, Tryd.ntmps17
    go_wp2_with (go_at_call 20; refine (num_Is.calls k a0 _ _ h1'.out).mono ?_; rintro e w' ⟨rfl, ⟨m, rfl⟩⟩)
    go_ret2
    exact ⟨rfl, pw_below_drewN (Below.refl _ _) m⟩
  | true =>
    rw [if_pos rfl] at h
    replace h := Option.bind_eq_some_iff.mp h
    obtain ⟨u, h2, h⟩ := h
    have h2' := Aside0.mk h2
    clear h2
    by_cases h18 : 18 < u.size
    · rw [if_pos h18] at h
      simp only [Option.some.injEq, Prod.mk.injEq] at h
      obtain ⟨rfl, rfl⟩ := h
      have d18 : decide ((18 : Int) < (u.size : Int)) = true := decide_eq_true (by omega)
      clear h18
      go_enter Tryd.func17, Tryd.ntmps17
      go_wp2_with (first | (go_at_call 20; refine (num_Is.calls k a0 _ _ h1'.out).mono ?_; rintro e w' ⟨rfl, ⟨m, rfl⟩⟩) | (go_at_call 24; refine (num_Trim.calls k a0 _ _ h2'.out).mono ?_; rintro e w' ⟨rfl, ⟨m, rfl⟩⟩))
      go_ret2
      exact ⟨rfl, by repeat (first | exact Below.refl _ _ | apply pw_below_drewN)⟩
    · rw [if_neg h18] at h
      simp only [Option.some.injEq, Prod.mk.injEq] at h
      obtain ⟨rfl, rfl⟩ := h
      have d18 : decide ((18 : Int) < (u.size : Int)) = false := decide_eq_false (by omega)
      clear h18
      have hcv := fun w : World => Lib.run_convert_string_bytes (P := Tryd.prog) w 9 22 5 u Tryd.underlying9 Tryd.underlying22 Tryd.underlying5
      go_enter Tryd.func17, Tryd.ntmps17
      go_wp2_with (first | (go_at_call 20; refine (num_Is.calls k a0 _ _ h1'.out).mono ?_; rintro e w' ⟨rfl, ⟨m, rfl⟩⟩) | (go_at_call 24; refine (num_Trim.calls k a0 _ _ h2'.out).mono ?_; rintro e w' ⟨rfl, ⟨m', rfl⟩⟩))
      have hu : u.size ≤ 18 := by have := of_decide_eq_false d18; omega
      rename_i q _ _
      obtain ⟨W, hW⟩ : ∃ W, Lib.bytesWorld (w.drewN (m + q + m')) 5 u = W := ⟨_, rfl⟩
      have hcell : ∀ j, j < u.size → W.cell? ⟨w.heap.size, j, none⟩ = some (.int .u8 (u.data.toList.getD j 0).toNat) := by
        intro j hj
        rw [← hW]
        exact Lib.bytesWorld_cell (w.drewN _) 5 u j hj
      have hB : Below w.heap.size w W := by
        rw [← hW]
        exact num_Int.below_bytes _ _ _ _ (pw_below_drewN (Below.refl _ _) _) (Nat.le_refl _)
      rw [hW]
      clear hW hcv d18
      go_loop [4, 20] (fun n i => ∃ j : Nat, j ≤ u.size ∧ i = .int .i64 j ∧ n = .int .i64 (num_Int.go (u.data.toList.take j))) (fun _ i => u.size - (intOf i).toNat)
      case atStart => exact ⟨0, Nat.zero_le _, rfl, rfl⟩
      case round =>
        obtain ⟨j, hj, rfl, rfl⟩ := hrel
        by_cases hlt : j < u.size
        · have hc := hcell j hlt
          have hg := Aside0.mk (num_Int.go_take u j hlt)
          obtain ⟨c, hcc⟩ : ∃ c : UInt8, u.data.toList.getD j 0 = c := ⟨_, rfl⟩
          rw [hcc] at hc hg
          clear hcc
          have hd : decide (j < u.size) = true := decide_eq_true hlt
          have hHB := Aside0.mk hB
          have hlt' := Aside0.mk hlt
          clear hcell hB hd
          go_wp2
          go_round
          case rel => exact ⟨j + 1, by have := hlt'.out; omega, by have := hlt'.out; go_num, by rw [hg.out]; exact num_Int.ret_ (by unfold num_Int.step; try simp only [i64_w])⟩
          case measure => have := hlt'.out; simp [intOf]; omega
        · have hHB := Aside0.mk hB
          clear hcell hB
          go_wp2
          go_ret2
          exact ⟨by rw [List.take_of_length_le (by simp; omega)]; rfl, hHB.out⟩

/-! ### num_Of: function 18 -/
def num_Of.l0 : Nat → Int → List Int → Option (ByteArray)
  | 0, _, _ => none
  | k + 1, x0, x3 => if x0 > 0 then (if x3.length < 140737488355328 then (num_Of.l0 k (wrap64 (Int.tdiv x0 10)) (x3 ++ [(48 + (Int.tmod x0 10)) % 256])) else (none)) else ((num_text.f k x3).bind fun t159 => (some t159))
def num_Of.f (k : Nat) (a0 : Int) : Option (ByteArray) := num_Of.l0 k a0 ([] : List Int)
theorem num_Of.mono_l : ∀ k, (∀ y0 y1, LeO (num_Of.l0 k y0 y1) (num_Of.l0 (k + 1) y0 y1))
  | 0 => fun _ _ r h => by simp [num_Of.l0] at h
  | k + 1 => by
    have ih0 := num_Of.mono_l k
    · intro y0 y1
      unfold num_Of.l0
      repeat' first
      | (with_reducible exact ih0 _ _)
      | (with_reducible exact num_text.mono _ _)
      | (with_reducible exact LeO.refl _)
      | (with_reducible exact LeO.none _)
      | (with_reducible refine LeO.ite ?_ ?_)
      | (with_reducible refine LeO.bind ?_ (fun _ => ?_))
      | exact ih0 _ _
      | exact num_text.mono _ _
      | exact LeO.none _
      | refine LeO.ite ?_ ?_
      | refine LeO.bind ?_ (fun _ => ?_)
theorem num_Of.mono : ∀ a0 k, LeO (num_Of.f k a0) (num_Of.f (k + 1) a0) := by
  intro a0 k
  have ih0 := num_Of.mono_l k
  unfold num_Of.f
  repeat' first
      | (with_reducible exact ih0 _ _)
      | (with_reducible exact num_text.mono _ _)
      | (with_reducible exact LeO.refl _)
      | (with_reducible exact LeO.none _)
      | (with_reducible refine LeO.ite ?_ ?_)
      | (with_reducible refine LeO.bind ?_ (fun _ => ?_))
      | exact ih0 _ _
      | exact num_text.mono _ _
      | exact LeO.none _
      | refine LeO.ite ?_ ?_
      | refine LeO.bind ?_ (fun _ => ?_)
set_option maxHeartbeats 8000000 in
set_option maxRecDepth 100000 in
theorem num_Of.calls (k : Nat) (a0 : Int) (r : ByteArray) (w : World) (h : num_Of.f k a0 = some r) :
    Calls Tryd.prog 18 #[.int .i64 a0] w fun e w' => e = .returned (.string r) ∧ Below w.heap.size w w' := by
  have HB := Aside0.mk (Below.refl w.heap.size w)
  have H : (num_Of.l0 k a0 ([] : List Int)) = some r := h
  clear h
  have H' := Aside0.mk H
  clear H
  go_enter Tryd.func18, Tryd.ntmps18
  go_wp2
  go_loopg [0, 3] k (fun kq v0 v3 w' => ∃ (x0_1 : Int) (x3_1 : List Int), v0 = .int .i64 x0_1 ∧ Aside0 (num_Of.l0 kq x0_1 x3_1 = some r) ∧ Aside0 (kq ≤ k) ∧ Aside0 (Kd.R (Kd.int .u8) 5 w' w.heap.size (fun _ => True) v3 x3_1) ∧ Aside0 (Below w.heap.size w w'))
  case atStart => exact ⟨(a0), (([] : List Int)), (by first | rfl | (simp; done) | (simp [*]; done) | (simp; first | exact given_isEmpty _ | exact (given_isEmpty _).symm)), H', ⟨Nat.le_refl _⟩, ⟨by first | exact Kd.R_nil _ _ _ _ _ | exact Kd.N_nil _ _ _ _ _ | exact Kd.V_nil _ _ _ _ _ | exact Kd.Q_nil _ _ _ _ _ | exact Kd.S_nil _ _ _ _ _⟩, ⟨by repeat (first | (with_reducible first | exact HB.out | apply below_alloc | apply pw_below_drewN | apply below_drew1) | exact HB.out)⟩⟩
  case round =>
    clear H'
    try clear c1
    obtain ⟨x0_1, x3_1, rfl, HA, HK1, HO_3, HB⟩ := hrel
    cases gk with
    | zero => exact absurd HA.out (by simp [num_Of.l0])
    | succ k1 =>
      have H := HA.out
      clear HA
      simp only [num_Of.l0] at H
      by_cases c2 : x0_1 > 0
      · rw [if_pos c2] at H
        have c2b0 : decide (0 < x0_1) = true := decide_eq_true c2
        clear c2
        by_cases c3 : x3_1.length < 140737488355328
        · rw [if_pos c3] at H
          have LMc3 := Aside0.mk c3
          clear c3
          obtain ⟨y156, hy156⟩ : ∃ y_ : List Int, y_ = (x3_1 ++ [(48 + (Int.tmod x0_1 10)) % 256]) := ⟨_, rfl⟩
          replace H : (num_Of.l0 k1 (wrap64 (Int.tdiv x0_1 10)) y156) = some r := by first | (rw [hy156]; with_reducible exact H) | (have H2_ := (Option.bind_some _ _).symm.trans H; rw [hy156]; with_reducible exact H2_) | (have H2_ := (Option.bind_some _ _).symm.trans H; with_reducible exact H2_) | with_reducible exact H | (rw [hy156]; exact H) | exact H
          have Ny156 := Aside0.mk hy156
          clear hy156
          have H' := Aside0.mk H
          clear H
          go_wp2_with (first | ((with_reducible refine gate_builtin (b := .append) (xs := #[.tmp 8, .tmp 13]) rfl ?_); at_builtin; refine Kd.R_append (Kd.int .u8) (w0 := w) w.heap.size rfl (.tmp 8) (.tmp 13) 22 5 (.int .u8 0) 1 rfl Tryd.underlying22 info5 rfl (by decide) (by omega) u3 x3_1 ((48 + (Int.tmod x0_1 10)) % 256) [.int .u8 ((48 + (Int.tmod x0_1 10)) % 256)] (fun _ => True) (fun _ => False) rfl rfl ?aP (fun _ hk => hk.elim) ?aF ?aO ?aB ?aS ?aL ?_; (case aP => exact rfl); (case aB => exact (by repeat (first | (with_reducible first | exact HB.out | apply below_alloc | apply pw_below_drewN | apply below_drew1) | exact HB.out))); (case aF => exact (fun _ _ => trivial)); (case aO => exact (by (with_reducible repeat (first | apply Kd.R_alloc | apply Kd.R_drewN | apply Kd.R_drew)); exact HO_3.out)); (case aS => exact (below_size (by repeat (first | (with_reducible first | exact HB.out | apply below_alloc | apply pw_below_drewN | apply below_drew1) | exact HB.out)))); (case aL => have := LMc3.out; omega); intro v157 w4 ho hb hg hat; rw [← Ny156.out] at ho; have n0_ := Aside0.mk (hb); have n1_ := Aside0.mk (ho); clear HB; clear HO_3; have HB := n0_; have HO158 := n1_; clear n0_ n1_; clear ho hb hg hat))
          go_roundg k1
          case measure => have := HK1.out; omega
          case rel => exact ⟨(wrap64 (Int.tdiv x0_1 10)), (y156), (by first | rfl | (simp; done) | (simp [*]; done) | (simp; first | exact given_isEmpty _ | exact (given_isEmpty _).symm)), H', ⟨by have := HK1.out; omega⟩, ⟨by (with_reducible repeat (first | apply Kd.R_alloc | apply Kd.R_drewN | apply Kd.R_drew)); exact HO158.out⟩, ⟨by repeat (first | (with_reducible first | exact HB.out | apply below_alloc | apply pw_below_drewN | apply below_drew1) | exact HB.out)⟩⟩
        · rw [if_neg c3] at H
          exact absurd H (by simp)
      · rw [if_neg c2] at H
        have c2b0 : decide (0 < x0_1) = false := decide_eq_false c2
        clear c2
        replace H := Option.bind_eq_some_iff.mp H
        obtain ⟨t159, A50, H⟩ := H
        replace H : (some t159) = some r := H
        have A5 := Aside0.mk A50
        clear A50
        obtain rfl := Option.some.inj H
        obtain ⟨Ao6, co6, eo6⟩ := Kd.R_slice HO_3.out
        subst eo6
        go_wp2_with (first | ((with_reducible refine gate_callee (f := 27) rfl ?_); refine goesL_ (some 16) rfl rfl Tryd.func27 (by kernel_rfl) rfl #[.slice Ao6 x3_1.length co6] rfl (by (try simp only [List.map_toArray, List.map_cons, List.map_nil]); first | done | rfl | (simp only [List.length_drop, List.length_take]; rfl)) ?_; (with_reducible refine (num_text.calls k1 _ _ x3_1 t159 _ ?side1 ?side2 A5.out).mono ?_); (case side1 => repeat (first | exact (Kd.R_reads' HO_3.out).2.2 | (with_reducible refine Kd.C_alloc ?_ _) | (with_reducible refine Kd.C_drewN ?_ _) | (with_reducible refine Kd.C_drew ?_))); (case side2 => exact (Kd.R_reads' HO_3.out).2.1); rintro e w7 ⟨rfl, hb⟩; refine ⟨_, rfl, ?_⟩; have n0_ := Aside0.mk (Kd.R_below (by (with_reducible repeat (first | apply Kd.R_alloc | apply Kd.R_drewN | apply Kd.R_drew)); exact HO_3.out) hb); have n1_ := Aside0.mk (below_step (by repeat (first | (with_reducible first | exact HB.out | apply below_alloc | apply pw_below_drewN | apply below_drew1) | exact HB.out)) hb); clear HO_3; clear HB; have HO_3 := n0_; have HB := n1_; clear n0_ n1_; (try clear hb); (try clear hb2); (try clear hk); (try clear hi)))
        go_ret
        exact ⟨by first | rfl | (simp [errW_none, errW_some] <;> rfl) | (simp [*, errW_none, errW_some] <;> rfl), by repeat (first | (with_reducible first | exact HB.out | apply below_alloc | apply pw_below_drewN | apply below_drew1) | exact HB.out)⟩

/-! ### florinlaw01_NumInts: function 4 -/
def florinlaw01_NumInts.l0 : Nat → Int → ByteArray → Int → Bool → ByteArray → Int → Int → Option (Bool)
  | 0, _, _, _, _, _, _, _ => none
  | k + 1, x1, x5, x6, x7, x8, x9, x10 => if x10 < (x8.size : Int) then (if 0 ≤ x10 then (florinlaw01_NumInts.l0 k x1 x5 x6 x7 x8 (wrap64 ((wrap64 (10 * x9)) + (((bt x8 x10) - 48) % 256))) (wrap64 (x10 + 1))) else (none)) else ((florinlaw01_bare.f k x5).bind fun t165 => (if (x7 == (decide ((t165.size : Int) ≤ 18))) = true then (if x7 = true then ((num_Of.f k x6).bind fun t166 => (if t166.toList = t165.toList then (if x9 = x1 then ((florinlaw01_bare.f k x8).bind fun t167 => (some (x8.toList == t167.toList))) else (some false)) else (some false))) else (if x6 = 0 then (if x9 = x1 then ((florinlaw01_bare.f k x8).bind fun t168 => (some (x8.toList == t168.toList))) else (some false)) else (some false))) else (some false)))
def florinlaw01_NumInts.f (k : Nat) (l0 : List Int) (a1 : Int) : Option (Bool) := (florinlaw01_head.f k).bind fun t160 => (if t160 = true then (if (l0.length : Int) > 60 then (some true) else ((florinlaw01_Digits.f k l0).bind fun t161 => ((num_Int.f k t161).bind fun bt162 => ((num_Of.f k (Go.bits .and .i64 a1 9223372036854775807)).bind fun t164 => (florinlaw01_NumInts.l0 k (Go.bits .and .i64 a1 9223372036854775807) t161 bt162.1 bt162.2 t164 0 0))))) else (some false))
theorem florinlaw01_NumInts.mono_l : ∀ k, (∀ y0 y1 y2 y3 y4 y5 y6, LeO (florinlaw01_NumInts.l0 k y0 y1 y2 y3 y4 y5 y6) (florinlaw01_NumInts.l0 (k + 1) y0 y1 y2 y3 y4 y5 y6))
  | 0 => fun _ _ _ _ _ _ _ r h => by simp [florinlaw01_NumInts.l0] at h
  | k + 1 => by
    have ih0 := florinlaw01_NumInts.mono_l k
    · intro y0 y1 y2 y3 y4 y5 y6
      unfold florinlaw01_NumInts.l0
      repeat' first
      | (with_reducible exact ih0 _ _ _ _ _ _ _)
      | (with_reducible exact florinlaw01_Digits.mono _ _)
      | (with_reducible exact florinlaw01_bare.mono _ _)
      | (with_reducible exact florinlaw01_head.mono _)
      | (with_reducible exact num_Int.mono _ _)
      | (with_reducible exact num_Of.mono _ _)
      | (with_reducible exact LeO.refl _)
      | (with_reducible exact LeO.none _)
      | (with_reducible refine LeO.ite ?_ ?_)
      | (with_reducible refine LeO.bind ?_ (fun _ => ?_))
      | exact ih0 _ _ _ _ _ _ _
      | exact florinlaw01_Digits.mono _ _
      | exact florinlaw01_bare.mono _ _
      | exact florinlaw01_head.mono _
      | exact num_Int.mono _ _
      | exact num_Of.mono _ _
      | exact LeO.none _
      | refine LeO.ite ?_ ?_
      | refine LeO.bind ?_ (fun _ => ?_)
theorem florinlaw01_NumInts.mono : ∀ a0 a1 k, LeO (florinlaw01_NumInts.f k a0 a1) (florinlaw01_NumInts.f (k + 1) a0 a1) := by
  intro a0 a1 k
  have ih0 := florinlaw01_NumInts.mono_l k
  unfold florinlaw01_NumInts.f
  repeat' first
      | (with_reducible exact ih0 _ _ _ _ _ _ _)
      | (with_reducible exact florinlaw01_Digits.mono _ _)
      | (with_reducible exact florinlaw01_bare.mono _ _)
      | (with_reducible exact florinlaw01_head.mono _)
      | (with_reducible exact num_Int.mono _ _)
      | (with_reducible exact num_Of.mono _ _)
      | (with_reducible exact LeO.refl _)
      | (with_reducible exact LeO.none _)
      | (with_reducible refine LeO.ite ?_ ?_)
      | (with_reducible refine LeO.bind ?_ (fun _ => ?_))
      | exact ih0 _ _ _ _ _ _ _
      | exact florinlaw01_Digits.mono _ _
      | exact florinlaw01_bare.mono _ _
      | exact florinlaw01_head.mono _
      | exact num_Int.mono _ _
      | exact num_Of.mono _ _
      | exact LeO.none _
      | refine LeO.ite ?_ ?_
      | refine LeO.bind ?_ (fun _ => ?_)
set_option maxHeartbeats 8000000 in
set_option maxRecDepth 100000 in
theorem florinlaw01_NumInts.calls (k : Nat) (A0 : Option Addr) (c0 : Nat) (l0 : List Int) (a1 : Int) (r : Bool) (w : World) (hr0 : Kd.C (Kd.int .u8) w A0 l0.length l0) (hc0 : l0.length ≤ c0) (h : florinlaw01_NumInts.f k l0 a1 = some r) :
    Calls Tryd.prog 4 #[.slice A0 l0.length c0, .int .i64 a1] w fun e w' => e = .returned (.bool r) ∧ Below w.heap.size w w' := by
  have HR0 := Aside0.mk hr0
  have HC0 := Aside0.mk hc0
  clear hr0 hc0
  have HB := Aside0.mk (Below.refl w.heap.size w)
  have H : ((florinlaw01_head.f k).bind fun t160 => (if t160 = true then (if (l0.length : Int) > 60 then (some true) else ((florinlaw01_Digits.f k l0).bind fun t161 => ((num_Int.f k t161).bind fun bt162 => ((num_Of.f k (Go.bits .and .i64 a1 9223372036854775807)).bind fun t164 => (florinlaw01_NumInts.l0 k (Go.bits .and .i64 a1 9223372036854775807) t161 bt162.1 bt162.2 t164 0 0))))) else (some false))) = some r := h
  clear h
  replace H := Option.bind_eq_some_iff.mp H
  obtain ⟨t160, A30, H⟩ := H
  replace H : (if t160 = true then (if (l0.length : Int) > 60 then (some true) else ((florinlaw01_Digits.f k l0).bind fun t161 => ((num_Int.f k t161).bind fun bt162 => ((num_Of.f k (Go.bits .and .i64 a1 9223372036854775807)).bind fun t164 => (florinlaw01_NumInts.l0 k (Go.bits .and .i64 a1 9223372036854775807) t161 bt162.1 bt162.2 t164 0 0))))) else (some false)) = some r := H
  have A3 := Aside0.mk A30
  clear A30
  by_cases c4 : t160 = true
  · subst c4
    have H1 : (if (l0.length : Int) > 60 then (some true) else ((florinlaw01_Digits.f k l0).bind fun t161 => ((num_Int.f k t161).bind fun bt162 => ((num_Of.f k (Go.bits .and .i64 a1 9223372036854775807)).bind fun t164 => (florinlaw01_NumInts.l0 k (Go.bits .and .i64 a1 9223372036854775807) t161 bt162.1 bt162.2 t164 0 0))))) = some r := by rw [if_pos rfl] at H; exact H
    clear H
    have H := H1
    clear H1
    by_cases c5 : (l0.length : Int) > 60
    · rw [if_pos c5] at H
      have c5b0 : decide (60 < (l0.length : Int)) = true := decide_eq_true c5
      have c5b1 : decide (60 < l0.length) = true := decide_eq_true (by omega)
      clear c5
      obtain rfl := Option.some.inj H
      go_enter Tryd.func4, Tryd.ntmps4
      go_wp2_with (first | ((with_reducible refine gate_callee (f := 12) rfl ?_); refine goesL_ (some 11) rfl rfl Tryd.func12 (by kernel_rfl) rfl #[] rfl (by (try simp only [List.map_toArray, List.map_cons, List.map_nil]); first | done | rfl | (simp only [List.length_drop, List.length_take]; rfl)) ?_; (with_reducible refine (florinlaw01_head.calls k  true _ A3.out).mono ?_); rintro e w6 ⟨rfl, hb⟩; refine ⟨_, rfl, ?_⟩; have n0_ := Aside0.mk (below_step (by repeat (first | (with_reducible first | exact HB.out | apply below_alloc | apply pw_below_drewN | apply below_drew1) | exact HB.out)) hb); clear HB; have HB := n0_; clear n0_; (try clear hb); (try clear hb2); (try clear hk); (try clear hi)))
      go_ret
      exact ⟨by first | rfl | (simp [errW_none, errW_some] <;> rfl) | (simp [*, errW_none, errW_some] <;> rfl), by repeat (first | (with_reducible first | exact HB.out | apply below_alloc | apply pw_below_drewN | apply below_drew1) | exact HB.out)⟩
    · rw [if_neg c5] at H
      have c5b0 : decide (60 < (l0.length : Int)) = false := decide_eq_false c5
      have c5b1 : decide (60 < l0.length) = false := decide_eq_false (by omega)
      clear c5
      replace H := Option.bind_eq_some_iff.mp H
      obtain ⟨t161, A70, H⟩ := H
      replace H : ((num_Int.f k t161).bind fun bt162 => ((num_Of.f k (Go.bits .and .i64 a1 9223372036854775807)).bind fun t164 => (florinlaw01_NumInts.l0 k (Go.bits .and .i64 a1 9223372036854775807) t161 bt162.1 bt162.2 t164 0 0))) = some r := H
      have A7 := Aside0.mk A70
      clear A70
      replace H := Option.bind_eq_some_iff.mp H
      obtain ⟨⟨t162, t163⟩, A80, H⟩ := H
      replace H : ((num_Of.f k (Go.bits .and .i64 a1 9223372036854775807)).bind fun t164 => (florinlaw01_NumInts.l0 k (Go.bits .and .i64 a1 9223372036854775807) t161 t162 t163 t164 0 0)) = some r := H
      have A8 := Aside0.mk A80
      clear A80
      replace H := Option.bind_eq_some_iff.mp H
      obtain ⟨t164, A90, H⟩ := H
      replace H : (florinlaw01_NumInts.l0 k (Go.bits .and .i64 a1 9223372036854775807) t161 t162 t163 t164 0 0) = some r := H
      have A9 := Aside0.mk A90
      clear A90
      have H' := Aside0.mk H
      clear H
      go_enter Tryd.func4, Tryd.ntmps4
      go_wp2_with (first | ((with_reducible refine gate_callee (f := 12) rfl ?_); refine goesL_ (some 11) rfl rfl Tryd.func12 (by kernel_rfl) rfl #[] rfl (by (try simp only [List.map_toArray, List.map_cons, List.map_nil]); first | done | rfl | (simp only [List.length_drop, List.length_take]; rfl)) ?_; (with_reducible refine (florinlaw01_head.calls k  true _ A3.out).mono ?_); rintro e w10 ⟨rfl, hb⟩; refine ⟨_, rfl, ?_⟩; have n0_ := Aside0.mk (below_step (by repeat (first | (with_reducible first | exact HB.out | apply below_alloc | apply pw_below_drewN | apply below_drew1) | exact HB.out)) hb); clear HB; have HB := n0_; clear n0_; (try clear hb); (try clear hb2); (try clear hk); (try clear hi)) | ((with_reducible refine gate_callee (f := 13) rfl ?_); refine goesL_ (some 17) rfl rfl Tryd.func13 (by kernel_rfl) rfl #[.slice A0 l0.length c0] rfl (by (try simp only [List.map_toArray, List.map_cons, List.map_nil]); first | done | rfl | (simp only [List.length_drop, List.length_take]; rfl)) ?_; (with_reducible refine (florinlaw01_Digits.calls k _ _ l0 t161 _ ?side1 ?side2 A7.out).mono ?_); (case side1 => repeat (first | exact (Kd.C_below HR0.out HB.out) | (with_reducible refine Kd.C_alloc ?_ _) | (with_reducible refine Kd.C_drewN ?_ _) | (with_reducible refine Kd.C_drew ?_))); (case side2 => exact HC0.out); rintro e w11 ⟨rfl, hb⟩; refine ⟨_, rfl, ?_⟩; have n0_ := Aside0.mk (below_step (by repeat (first | (with_reducible first | exact HB.out | apply below_alloc | apply pw_below_drewN | apply below_drew1) | exact HB.out)) hb); clear HB; have HB := n0_; clear n0_; (try clear hb); (try clear hb2); (try clear hk); (try clear hi)) | ((with_reducible refine gate_callee (f := 17) rfl ?_); refine goesL_ (some 20) rfl rfl Tryd.func17 (by kernel_rfl) rfl #[.string t161] rfl (by (try simp only [List.map_toArray, List.map_cons, List.map_nil]); first | done | rfl | (simp only [List.length_drop, List.length_take]; rfl)) ?_; (with_reducible refine (num_Int.calls k t161 t162 t163 _ A8.out).mono ?_); rintro e w12 ⟨rfl, hb⟩; refine ⟨_, rfl, ?_⟩; have n0_ := Aside0.mk (below_step (by repeat (first | (with_reducible first | exact HB.out | apply below_alloc | apply pw_below_drewN | apply below_drew1) | exact HB.out)) hb); clear HB; have HB := n0_; clear n0_; (try clear hb); (try clear hb2); (try clear hk); (try clear hi)) | ((with_reducible refine gate_callee (f := 18) rfl ?_); refine goesL_ (some 26) rfl rfl Tryd.func18 (by kernel_rfl) rfl #[.int .i64 (Go.bits .and .i64 a1 9223372036854775807)] rfl (by (try simp only [List.map_toArray, List.map_cons, List.map_nil]); first | done | rfl | (simp only [List.length_drop, List.length_take]; rfl)) ?_; (with_reducible refine (num_Of.calls k (Go.bits .and .i64 a1 9223372036854775807) t164 _ A9.out).mono ?_); rintro e w13 ⟨rfl, hb⟩; refine ⟨_, rfl, ?_⟩; have n0_ := Aside0.mk (below_step (by repeat (first | (with_reducible first | exact HB.out | apply below_alloc | apply pw_below_drewN | apply below_drew1) | exact HB.out)) hb); clear HB; have HB := n0_; clear n0_; (try clear hb); (try clear hb2); (try clear hk); (try clear hi)))
      go_loopg [9, 10] k (fun kq v9 v10 w' => ∃ (x9_1 : Int) (x10_1 : Int), v9 = .int .i64 x9_1 ∧ v10 = .int .i64 x10_1 ∧ Aside0 (florinlaw01_NumInts.l0 kq (Go.bits .and .i64 a1 9223372036854775807) t161 t162 t163 t164 x9_1 x10_1 = some r) ∧ Aside0 (kq ≤ k) ∧ Aside0 (Below w.heap.size w w'))
      case atStart => exact ⟨(0), (0), (by first | rfl | (simp; done) | (simp [*]; done) | (simp; first | exact given_isEmpty _ | exact (given_isEmpty _).symm)), (by first | rfl | (simp; done) | (simp [*]; done) | (simp; first | exact given_isEmpty _ | exact (given_isEmpty _).symm)), H', ⟨Nat.le_refl _⟩, ⟨by repeat (first | (with_reducible first | exact HB.out | apply below_alloc | apply pw_below_drewN | apply below_drew1) | exact HB.out)⟩⟩
      case round =>
        clear H'
        try clear c1
        try clear p2
        try clear c4
        try clear c5
        try clear c5b0
        try clear c5b1
        try clear c12
        try clear c13
        obtain ⟨x9_1, x10_1, rfl, rfl, HA, HK1, HB⟩ := hrel
        cases gk with
        | zero => exact absurd HA.out (by simp [florinlaw01_NumInts.l0])
        | succ k1 =>
          have H := HA.out
          clear HA
          simp only [florinlaw01_NumInts.l0] at H
          by_cases c14 : x10_1 < (t164.size : Int)
          · rw [if_pos c14] at H
            have c14b0 : decide (x10_1 < (t164.size : Int)) = true := decide_eq_true c14
            clear c14
            by_cases c15 : 0 ≤ x10_1
            · rw [if_pos c15] at H
              have c15b0 : decide (0 ≤ x10_1) = true := decide_eq_true c15
              clear c15
              have H' := Aside0.mk H
              clear H
              have p16 : 0 ≤ (x10_1 : Int) := of_decide_eq_true (by first | (with_reducible assumption) | assumption)
              have q16 : x10_1 < (t164.size : Int) := of_decide_eq_true (by first | (with_reducible assumption) | assumption)
              have hx16 := bt_at t164 x10_1
              replace p16 := eq_true p16
              replace q16 := eq_true q16
              go_wp2
              go_roundg k1
              case measure => have := HK1.out; omega
              case rel => exact ⟨(wrap64 ((wrap64 (10 * x9_1)) + (((bt t164 x10_1) - 48) % 256))), (wrap64 (x10_1 + 1)), (by first | rfl | (simp; done) | (simp [*]; done) | (simp; first | exact given_isEmpty _ | exact (given_isEmpty _).symm)), (by first | rfl | (simp; done) | (simp [*]; done) | (simp; first | exact given_isEmpty _ | exact (given_isEmpty _).symm)), H', ⟨by have := HK1.out; omega⟩, ⟨by repeat (first | (with_reducible first | exact HB.out | apply below_alloc | apply pw_below_drewN | apply below_drew1) | exact HB.out)⟩⟩
            · rw [if_neg c15] at H
              exact absurd H (by simp)
          · rw [if_neg c14] at H
            have c14b0 : decide (x10_1 < (t164.size : Int)) = false := decide_eq_false c14
            clear c14
            replace H := Option.bind_eq_some_iff.mp H
            obtain ⟨t165, A170, H⟩ := H
            replace H : (if (t163 == (decide ((t165.size : Int) ≤ 18))) = true then (if t163 = true then ((num_Of.f k1 t162).bind fun t166 => (if t166.toList = t165.toList then (if x9_1 = (Go.bits .and .i64 a1 9223372036854775807) then ((florinlaw01_bare.f k1 t164).bind fun t167 => (some (t164.toList == t167.toList))) else (some false)) else (some false))) else (if t162 = 0 then (if x9_1 = (Go.bits .and .i64 a1 9223372036854775807) then ((florinlaw01_bare.f k1 t164).bind fun t168 => (some (t164.toList == t168.toList))) else (some false)) else (some false))) else (some false)) = some r := H
            have A17 := Aside0.mk A170
            clear A170
            by_cases c18 : (t163 == (decide ((t165.size : Int) ≤ 18))) = true
            · rw [if_pos c18] at H
              have c18b0 : (t163 == (decide ((t165.size : Int) ≤ 18))) = true := c18
              (try (have c18b1 : decide (t163 = (decide ((t165.size : Int) ≤ 18))) = true := by simpa using c18))
              (try (have c18b2 : (t163 == (decide ((t165.size : Int) ≤ 18))) = true := by simpa using c18))
              clear c18
              by_cases c19 : t163 = true
              · subst c19
                have H1 : ((num_Of.f k1 t162).bind fun t166 => (if t166.toList = t165.toList then (if x9_1 = (Go.bits .and .i64 a1 9223372036854775807) then ((florinlaw01_bare.f k1 t164).bind fun t167 => (some (t164.toList == t167.toList))) else (some false)) else (some false))) = some r := by rw [if_pos rfl] at H; exact H
                clear H
                have H := H1
                clear H1
                replace H := Option.bind_eq_some_iff.mp H
                obtain ⟨t166, A200, H⟩ := H
                replace H : (if t166.toList = t165.toList then (if x9_1 = (Go.bits .and .i64 a1 9223372036854775807) then ((florinlaw01_bare.f k1 t164).bind fun t167 => (some (t164.toList == t167.toList))) else (some false)) else (some false)) = some r := H
                have A20 := Aside0.mk A200
                clear A200
                by_cases c21 : t166.toList = t165.toList
                · rw [if_pos c21] at H
                  have c21b0 : (t166.toList == t165.toList) = true := beq_iff_eq.mpr c21
                  have c21b1 : (t166.toList != t165.toList) = false := bne_eq_false_iff_eq.mpr c21
                  clear c21
                  by_cases c22 : x9_1 = (Go.bits .and .i64 a1 9223372036854775807)
                  · rw [if_pos c22] at H
                    have c22b0 : (x9_1 == (Go.bits .and .i64 a1 9223372036854775807)) = true := beq_iff_eq.mpr c22
                    have c22b1 : (x9_1 != (Go.bits .and .i64 a1 9223372036854775807)) = false := bne_eq_false_iff_eq.mpr c22
                    clear c22
                    replace H := Option.bind_eq_some_iff.mp H
                    obtain ⟨t167, A230, H⟩ := H
                    replace H : (some (t164.toList == t167.toList)) = some r := H
                    have A23 := Aside0.mk A230
                    clear A230
                    obtain rfl := Option.some.inj H
                    go_wp2_with (first | (go_at_call 15; (with_reducible refine (florinlaw01_bare.calls k1 t161 t165 _ A17.out).mono ?_); rintro e w' ⟨rfl, ⟨nd, rfl⟩⟩) | (go_at_call 18; (with_reducible refine (num_Of.calls k1 t162 t166 _ A20.out).mono ?_); rintro e w24 ⟨rfl, hb⟩; have n0_ := Aside0.mk (below_step (by repeat (first | (with_reducible first | exact HB.out | apply below_alloc | apply pw_below_drewN | apply below_drew1) | exact HB.out)) hb); clear HB; have HB := n0_; clear n0_; (try clear hb); (try clear hb2); (try clear hk); (try clear hi)) | (go_at_call 15; (with_reducible refine (florinlaw01_bare.calls k1 t164 t167 _ A23.out).mono ?_); rintro e w' ⟨rfl, ⟨nd, rfl⟩⟩))
                    go_ret
                    exact ⟨by first | rfl | (simp [errW_none, errW_some] <;> rfl) | (simp [*, errW_none, errW_some] <;> rfl), by repeat (first | (with_reducible first | exact HB.out | apply below_alloc | apply pw_below_drewN | apply below_drew1) | exact HB.out)⟩
                  · rw [if_neg c22] at H
                    have c22b0 : (x9_1 == (Go.bits .and .i64 a1 9223372036854775807)) = false := beq_eq_false_iff_ne.mpr c22
                    have c22b1 : (x9_1 != (Go.bits .and .i64 a1 9223372036854775807)) = true := bne_iff_ne.mpr c22
                    obtain rfl := Option.some.inj H
                    go_wp2_with (first | (go_at_call 15; (with_reducible refine (florinlaw01_bare.calls k1 t161 t165 _ A17.out).mono ?_); rintro e w' ⟨rfl, ⟨nd, rfl⟩⟩) | (go_at_call 18; (with_reducible refine (num_Of.calls k1 t162 t166 _ A20.out).mono ?_); rintro e w25 ⟨rfl, hb⟩; have n0_ := Aside0.mk (below_step (by repeat (first | (with_reducible first | exact HB.out | apply below_alloc | apply pw_below_drewN | apply below_drew1) | exact HB.out)) hb); clear HB; have HB := n0_; clear n0_; (try clear hb); (try clear hb2); (try clear hk); (try clear hi)))
                    go_ret
                    exact ⟨by first | rfl | (simp [errW_none, errW_some] <;> rfl) | (simp [*, errW_none, errW_some] <;> rfl), by repeat (first | (with_reducible first | exact HB.out | apply below_alloc | apply pw_below_drewN | apply below_drew1) | exact HB.out)⟩
                · rw [if_neg c21] at H
                  have c21b0 : (t166.toList == t165.toList) = false := beq_eq_false_iff_ne.mpr c21
                  have c21b1 : (t166.toList != t165.toList) = true := bne_iff_ne.mpr c21
                  obtain rfl := Option.some.inj H
                  go_wp2_with (first | (go_at_call 15; (with_reducible refine (florinlaw01_bare.calls k1 t161 t165 _ A17.out).mono ?_); rintro e w' ⟨rfl, ⟨nd, rfl⟩⟩) | (go_at_call 18; (with_reducible refine (num_Of.calls k1 t162 t166 _ A20.out).mono ?_); rintro e w26 ⟨rfl, hb⟩; have n0_ := Aside0.mk (below_step (by repeat (first | (with_reducible first | exact HB.out | apply below_alloc | apply pw_below_drewN | apply below_drew1) | exact HB.out)) hb); clear HB; have HB := n0_; clear n0_; (try clear hb); (try clear hb2); (try clear hk); (try clear hi)))
                  go_ret
                  exact ⟨by first | rfl | (simp [errW_none, errW_some] <;> rfl) | (simp [*, errW_none, errW_some] <;> rfl), by repeat (first | (with_reducible first | exact HB.out | apply below_alloc | apply pw_below_drewN | apply below_drew1) | exact HB.out)⟩
              · replace c19 := Bool.eq_false_iff.mpr c19
                subst c19
                have H1 : (if t162 = 0 then (if x9_1 = (Go.bits .and .i64 a1 9223372036854775807) then ((florinlaw01_bare.f k1 t164).bind fun t168 => (some (t164.toList == t168.toList))) else (some false)) else (some false)) = some r := by rw [if_neg (show ¬ (false = true) by decide)] at H; exact H
                clear H
                have H := H1
                clear H1
                by_cases c27 : t162 = 0
                · rw [if_pos c27] at H
                  have c27b0 : (t162 == 0) = true := beq_iff_eq.mpr c27
                  have c27b1 : (t162 != 0) = false := bne_eq_false_iff_eq.mpr c27
                  clear c27
                  by_cases c28 : x9_1 = (Go.bits .and .i64 a1 9223372036854775807)
                  · rw [if_pos c28] at H
                    have c28b0 : (x9_1 == (Go.bits .and .i64 a1 9223372036854775807)) = true := beq_iff_eq.mpr c28
                    have c28b1 : (x9_1 != (Go.bits .and .i64 a1 9223372036854775807)) = false := bne_eq_false_iff_eq.mpr c28
                    clear c28
                    replace H := Option.bind_eq_some_iff.mp H
                    obtain ⟨t168, A290, H⟩ := H
                    replace H : (some (t164.toList == t168.toList)) = some r := H
                    have A29 := Aside0.mk A290
                    clear A290
                    obtain rfl := Option.some.inj H
                    go_wp2_with (first | (go_at_call 15; (with_reducible refine (florinlaw01_bare.calls k1 t161 t165 _ A17.out).mono ?_); rintro e w' ⟨rfl, ⟨nd, rfl⟩⟩) | (go_at_call 15; (with_reducible refine (florinlaw01_bare.calls k1 t164 t168 _ A29.out).mono ?_); rintro e w' ⟨rfl, ⟨nd, rfl⟩⟩))
                    go_ret
                    exact ⟨by first | rfl | (simp [errW_none, errW_some] <;> rfl) | (simp [*, errW_none, errW_some] <;> rfl), by repeat (first | (with_reducible first | exact HB.out | apply below_alloc | apply pw_below_drewN | apply below_drew1) | exact HB.out)⟩
                  · rw [if_neg c28] at H
                    have c28b0 : (x9_1 == (Go.bits .and .i64 a1 9223372036854775807)) = false := beq_eq_false_iff_ne.mpr c28
                    have c28b1 : (x9_1 != (Go.bits .and .i64 a1 9223372036854775807)) = true := bne_iff_ne.mpr c28
                    obtain rfl := Option.some.inj H
                    go_wp2_with (first | (go_at_call 15; (with_reducible refine (florinlaw01_bare.calls k1 t161 t165 _ A17.out).mono ?_); rintro e w' ⟨rfl, ⟨nd, rfl⟩⟩))
                    go_ret
                    exact ⟨by first | rfl | (simp [errW_none, errW_some] <;> rfl) | (simp [*, errW_none, errW_some] <;> rfl), by repeat (first | (with_reducible first | exact HB.out | apply below_alloc | apply pw_below_drewN | apply below_drew1) | exact HB.out)⟩
                · rw [if_neg c27] at H
                  have c27b0 : (t162 == 0) = false := beq_eq_false_iff_ne.mpr c27
                  have c27b1 : (t162 != 0) = true := bne_iff_ne.mpr c27
                  obtain rfl := Option.some.inj H
                  go_wp2_with (first | (go_at_call 15; (with_reducible refine (florinlaw01_bare.calls k1 t161 t165 _ A17.out).mono ?_); rintro e w' ⟨rfl, ⟨nd, rfl⟩⟩))
                  go_ret
                  exact ⟨by first | rfl | (simp [errW_none, errW_some] <;> rfl) | (simp [*, errW_none, errW_some] <;> rfl), by repeat (first | (with_reducible first | exact HB.out | apply below_alloc | apply pw_below_drewN | apply below_drew1) | exact HB.out)⟩
            · rw [if_neg c18] at H
              have c18b0 : (t163 == (decide ((t165.size : Int) ≤ 18))) = false := by simpa using c18
              (try (have c18b1 : decide (t163 = (decide ((t165.size : Int) ≤ 18))) = false := by simpa using c18))
              (try (have c18b2 : (t163 == (decide ((t165.size : Int) ≤ 18))) = false := by simpa using c18))
              (try (have c18b3 : ¬ (t163 = (decide ((t165.size : Int) ≤ 18))) := by simpa using c18))
              clear c18
              obtain rfl := Option.some.inj H
              go_wp2_with (first | (go_at_call 15; (with_reducible refine (florinlaw01_bare.calls k1 t161 t165 _ A17.out).mono ?_); rintro e w' ⟨rfl, ⟨nd, rfl⟩⟩))
              go_ret
              exact ⟨by first | rfl | (simp [errW_none, errW_some] <;> rfl) | (simp [*, errW_none, errW_some] <;> rfl), by repeat (first | (with_reducible first | exact HB.out | apply below_alloc | apply pw_below_drewN | apply below_drew1) | exact HB.out)⟩
  · replace c4 := Bool.eq_false_iff.mpr c4
    subst c4
    have H1 : (some false) = some r := by rw [if_neg (show ¬ (false = true) by decide)] at H; exact H
    clear H
    have H := H1
    clear H1
    obtain rfl := Option.some.inj H
    go_enter Tryd.func4, Tryd.ntmps4
    go_wp2_with (first | ((with_reducible refine gate_callee (f := 12) rfl ?_); refine goesL_ (some 11) rfl rfl Tryd.func12 (by kernel_rfl) rfl #[] rfl (by (try simp only [List.map_toArray, List.map_cons, List.map_nil]); first | done | rfl | (simp only [List.length_drop, List.length_take]; rfl)) ?_; (with_reducible refine (florinlaw01_head.calls k  false _ A3.out).mono ?_); rintro e w30 ⟨rfl, hb⟩; refine ⟨_, rfl, ?_⟩; have n0_ := Aside0.mk (below_step (by repeat (first | (with_reducible first | exact HB.out | apply below_alloc | apply pw_below_drewN | apply below_drew1) | exact HB.out)) hb); clear HB; have HB := n0_; clear n0_; (try clear hb); (try clear hb2); (try clear hk); (try clear hi)))
    go_ret
    exact ⟨by first | rfl | (simp [errW_none, errW_some] <;> rfl) | (simp [*, errW_none, errW_some] <;> rfl), by repeat (first | (with_reducible first | exact HB.out | apply below_alloc | apply pw_below_drewN | apply below_drew1) | exact HB.out)⟩

/-- THE ONE PURE STATEMENT of florinlaw01_NumInts: yours. -/
def florinlaw01_NumInts.Pure : Prop := ∀ (l0 : List Int) (a1 : Int), l0.length ≤ maxLen → l0.length * 1 ≤ 140737488351232 → (∀ x ∈ l0, (Lit.int .u8 x).wf = true) → (Lit.int .i64 a1).wf = true → ∃ k, florinlaw01_NumInts.f k l0 a1 = some true
theorem florinlaw01_NumInts.walk (P : florinlaw01_NumInts.Pure) (a0 : Option Addr) (len0 cap0 : Nat) (z0 : List Int) (a1 : Int) (w : World) (w0 : (a0 = none ∧ len0 = 0 ∧ cap0 = 0 ∧ z0 = []) ∨ ∃ x, a0 = some x ∧ len0 ≤ cap0 ∧ cap0 ≤ maxLen ∧ z0.length = cap0 ∧ (∀ i, i < z0.length → w.cell? (x.add i) = some (.int .u8 (z0.getD i 0))) ∧ ∀ n ∈ z0, (Lit.int .u8 n).wf = true) (y0 : len0 * 1 ≤ 140737488351232) (w1 : (Lit.int .i64 a1).wf = true) :
    Calls Tryd.prog 4 #[.slice a0 len0 cap0, .int .i64 a1] w fun e w' => e = .returned (.bool true) ∧ Below w.heap.size w w' := by
  obtain ⟨l0, rfl, hr0, hm0, hw0, hc0⟩ := ReadsInt.ofRowC w0
  obtain ⟨k, h⟩ := P l0 a1 hm0 y0 hw0 w1
  refine (florinlaw01_NumInts.calls k _ _ l0 a1 true w (Kd.C_of_reads (d := (0 : Int)) (h1 := fun _ => rfl) hr0) hc0 h).mono ?_
  rintro e w' ⟨rfl, hd⟩
  exact ⟨rfl, hd⟩

end Go.Proofs.YtefacokhmmpiaaaDoor.P
