-- written by a program of this session (wip/p2)
import Derived.Test.YtefacokhmmpiaaaDoorPx0
import Derived.Test.YtefacokhmmpiaaaDoorPx1
import Derived.Test.YtefacokhmmpiaaaDoorPx2
import Derived.Test.YtefacokhmmpiaaaDoorPx3
import Derived.Test.YtefacokhmmpiaaaDoorPx4
namespace Go.Proofs.YtefacokhmmpiaaaDoor.P
open Go.RowKit Go.Proofs.YtefacokhmmpiaaaDoorW.PrintWords Go.Proofs.YtefacokhmmpiaaaDoorW.PrintLast Go.Proofs.YtefacokhmmpiaaaDoorW.PrintMore
attribute [local go_sem] max2_int min2_int max_two min_two max_three min_three max_four min_four   -- for this text's walks alone
set_option linter.unusedVariables false
set_option linter.unusedSimpArgs false

/-! ### florinlaw01_NumSmall: function 9 -/
mutual
def florinlaw01_NumSmall.j0 : Nat → Int → Int → Int → ByteArray → ByteArray → Bool → Option (Bool)
  | 0, _, _, _, _, _, _ => none
  | k + 1, x0, x1, x2, x7, x8, x54 => if x54 = true then (some false) else ((num_Sub.f k x7 x8).bind fun bt264 => ((num_Div.f k x7 (wrap64 (x2 + 1))).bind fun bt266 => (if x0 < x1 then (florinlaw01_NumSmall.j1 k x0 x1 x2 x7 x8 bt264.1 bt264.2 bt266.1 bt266.2 (-1)) else (florinlaw01_NumSmall.j1 k x0 x1 x2 x7 x8 bt264.1 bt264.2 bt266.1 bt266.2 0))))
def florinlaw01_NumSmall.j1 : Nat → Int → Int → Int → ByteArray → ByteArray → ByteArray → Bool → ByteArray → Int → Int → Option (Bool)
  | 0, _, _, _, _, _, _, _, _, _, _ => none
  | k + 1, x0, x1, x2, x7, x8, x11, x12, x13, x14, x15 => if x0 > x1 then (florinlaw01_NumSmall.j2 k x0 x1 x2 x7 x8 x11 x12 x13 x14 1) else (florinlaw01_NumSmall.j2 k x0 x1 x2 x7 x8 x11 x12 x13 x14 x15)
def florinlaw01_NumSmall.j2 : Nat → Int → Int → Int → ByteArray → ByteArray → ByteArray → Bool → ByteArray → Int → Int → Option (Bool)
  | 0, _, _, _, _, _, _, _, _, _, _ => none
  | k + 1, x0, x1, x2, x7, x8, x11, x12, x13, x14, x15 => (num_Add.f k x7 x8).bind fun t268 => ((num_Of.f k (wrap64 (x0 + x1))).bind fun t269 => (if t268.toList = t269.toList then ((num_Cmp.f k x7 x8).bind fun t270 => (if t270 = x15 then (if (x12 == (decide (x0 ≥ x1))) = true then ((num_Of.f k (mx (wrap64 (x0 - x1)) 0)).bind fun t271 => (if x11.toList = t271.toList then ((num_Times.f k x7 x2).bind fun t272 => ((num_Of.f k (wrap64 (x0 * x2))).bind fun t273 => (if t272.toList = t273.toList then (if (wrap64 (x2 + 1)) = 0 then (none) else ((num_Of.f k (wrap64 (Int.tdiv x0 (wrap64 (x2 + 1))))).bind fun t274 => (if x13.toList = t274.toList then (some (x14 == (Int.tmod x0 (wrap64 (x2 + 1))))) else (some false)))) else (some false)))) else (some false))) else (some false)) else (some false))) else (some false)))
end
def florinlaw01_NumSmall.f (k : Nat) (a0 : Int) (a1 : Int) (a2 : Int) : Option (Bool) := (florinlaw01_head.f k).bind fun t256 => (if t256 = true then ((num_Of.f k (Go.bits .and .i64 a0 1099511627775)).bind fun t257 => ((num_Of.f k (Go.bits .and .i64 a1 1099511627775)).bind fun t258 => (if 2 + t257.size ≤ 9223372036854775807 then ((num_Int.f k ((⟨#[48, 48]⟩ : ByteArray) ++ t257)).bind fun bt259 => (if bt259.2 = true then (if bt259.1 = (Go.bits .and .i64 a0 1099511627775) then ((florinlaw01_bare.f k t257).bind fun t261 => (if t257.toList = t261.toList then ((num_Of.f k (-1)).bind fun t262 => (if t262.toList = ([] : List UInt8) then ((num_Of.f k 0).bind fun t263 => (florinlaw01_NumSmall.j0 k (Go.bits .and .i64 a0 1099511627775) (Go.bits .and .i64 a1 1099511627775) (Go.bits .and .i64 a2 65535) t257 t258 (t263.toList != ([] : List UInt8)))) else (florinlaw01_NumSmall.j0 k (Go.bits .and .i64 a0 1099511627775) (Go.bits .and .i64 a1 1099511627775) (Go.bits .and .i64 a2 65535) t257 t258 true))) else (florinlaw01_NumSmall.j0 k (Go.bits .and .i64 a0 1099511627775) (Go.bits .and .i64 a1 1099511627775) (Go.bits .and .i64 a2 65535) t257 t258 true))) else (florinlaw01_NumSmall.j0 k (Go.bits .and .i64 a0 1099511627775) (Go.bits .and .i64 a1 1099511627775) (Go.bits .and .i64 a2 65535) t257 t258 true)) else (florinlaw01_NumSmall.j0 k (Go.bits .and .i64 a0 1099511627775) (Go.bits .and .i64 a1 1099511627775) (Go.bits .and .i64 a2 65535) t257 t258 true))) else (none)))) else (some false))
theorem florinlaw01_NumSmall.mono_l : ∀ k, (∀ y0 y1 y2 y3 y4 y5, LeO (florinlaw01_NumSmall.j0 k y0 y1 y2 y3 y4 y5) (florinlaw01_NumSmall.j0 (k + 1) y0 y1 y2 y3 y4 y5)) ∧ (∀ y0 y1 y2 y3 y4 y5 y6 y7 y8 y9, LeO (florinlaw01_NumSmall.j1 k y0 y1 y2 y3 y4 y5 y6 y7 y8 y9) (florinlaw01_NumSmall.j1 (k + 1) y0 y1 y2 y3 y4 y5 y6 y7 y8 y9)) ∧ (∀ y0 y1 y2 y3 y4 y5 y6 y7 y8 y9, LeO (florinlaw01_NumSmall.j2 k y0 y1 y2 y3 y4 y5 y6 y7 y8 y9) (florinlaw01_NumSmall.j2 (k + 1) y0 y1 y2 y3 y4 y5 y6 y7 y8 y9))
  | 0 => ⟨fun _ _ _ _ _ _ r h => by simp [florinlaw01_NumSmall.j0] at h, fun _ _ _ _ _ _ _ _ _ _ r h => by simp [florinlaw01_NumSmall.j1] at h, fun _ _ _ _ _ _ _ _ _ _ r h => by simp [florinlaw01_NumSmall.j2] at h⟩
  | k + 1 => by
    obtain ⟨ih0, ih1, ih2⟩ := florinlaw01_NumSmall.mono_l k
    refine ⟨?_, ?_, ?_⟩
    · intro y0 y1 y2 y3 y4 y5
      unfold florinlaw01_NumSmall.j0
      repeat' first
      | (with_reducible exact ih0 _ _ _ _ _ _)
      | (with_reducible exact ih1 _ _ _ _ _ _ _ _ _ _)
      | (with_reducible exact ih2 _ _ _ _ _ _ _ _ _ _)
      | (with_reducible exact florinlaw01_bare.mono _ _)
      | (with_reducible exact florinlaw01_head.mono _)
      | (with_reducible exact num_Add.mono _ _ _)
      | (with_reducible exact num_Cmp.mono _ _ _)
      | (with_reducible exact num_Div.mono _ _ _)
      | (with_reducible exact num_Int.mono _ _)
      | (with_reducible exact num_Of.mono _ _)
      | (with_reducible exact num_Sub.mono _ _ _)
      | (with_reducible exact num_Times.mono _ _ _)
      | (with_reducible exact LeO.refl _)
      | (with_reducible exact LeO.none _)
      | (with_reducible refine LeO.ite ?_ ?_)
      | (with_reducible refine LeO.bind ?_ (fun _ => ?_))
      | exact ih0 _ _ _ _ _ _
      | exact ih1 _ _ _ _ _ _ _ _ _ _
      | exact ih2 _ _ _ _ _ _ _ _ _ _
      | exact florinlaw01_bare.mono _ _
      | exact florinlaw01_head.mono _
      | exact num_Add.mono _ _ _
      | exact num_Cmp.mono _ _ _
      | exact num_Div.mono _ _ _
      | exact num_Int.mono _ _
      | exact num_Of.mono _ _
      | exact num_Sub.mono _ _ _
      | exact num_Times.mono _ _ _
      | exact LeO.none _
      | refine LeO.ite ?_ ?_
      | refine LeO.bind ?_ (fun _ => ?_)
    · intro y0 y1 y2 y3 y4 y5 y6 y7 y8 y9
      unfold florinlaw01_NumSmall.j1
      repeat' first
      | (with_reducible exact ih0 _ _ _ _ _ _)
      | (with_reducible exact ih1 _ _ _ _ _ _ _ _ _ _)
      | (with_reducible exact ih2 _ _ _ _ _ _ _ _ _ _)
      | (with_reducible exact florinlaw01_bare.mono _ _)
      | (with_reducible exact florinlaw01_head.mono _)
      | (with_reducible exact num_Add.mono _ _ _)
      | (with_reducible exact num_Cmp.mono _ _ _)
      | (with_reducible exact num_Div.mono _ _ _)
      | (with_reducible exact num_Int.mono _ _)
      | (with_reducible exact num_Of.mono _ _)
      | (with_reducible exact num_Sub.mono _ _ _)
      | (with_reducible exact num_Times.mono _ _ _)
      | (with_reducible exact LeO.refl _)
      | (with_reducible exact LeO.none _)
      | (with_reducible refine LeO.ite ?_ ?_)
      | (with_reducible refine LeO.bind ?_ (fun _ => ?_))
      | exact ih0 _ _ _ _ _ _
      | exact ih1 _ _ _ _ _ _ _ _ _ _
      | exact ih2 _ _ _ _ _ _ _ _ _ _
      | exact florinlaw01_bare.mono _ _
      | exact florinlaw01_head.mono _
      | exact num_Add.mono _ _ _
      | exact num_Cmp.mono _ _ _
      | exact num_Div.mono _ _ _
      | exact num_Int.mono _ _
      | exact num_Of.mono _ _
      | exact num_Sub.mono _ _ _
      | exact num_Times.mono _ _ _
      | exact LeO.none _
      | refine LeO.ite ?_ ?_
      | refine LeO.bind ?_ (fun _ => ?_)
    · intro y0 y1 y2 y3 y4 y5 y6 y7 y8 y9
      unfold florinlaw01_NumSmall.j2
      repeat' first
      | (with_reducible exact ih0 _ _ _ _ _ _)
      | (with_reducible exact ih1 _ _ _ _ _ _ _ _ _ _)
      | (with_reducible exact ih2 _ _ _ _ _ _ _ _ _ _)
      | (with_reducible exact florinlaw01_bare.mono _ _)
      | (with_reducible exact florinlaw01_head.mono _)
      | (with_reducible exact num_Add.mono _ _ _)
      | (with_reducible exact num_Cmp.mono _ _ _)
      | (with_reducible exact num_Div.mono _ _ _)
      | (with_reducible exact num_Int.mono _ _)
      | (with_reducible exact num_Of.mono _ _)
      | (with_reducible exact num_Sub.mono _ _ _)
      | (with_reducible exact num_Times.mono _ _ _)
      | (with_reducible exact LeO.refl _)
      | (with_reducible exact LeO.none _)
      | (with_reducible refine LeO.ite ?_ ?_)
      | (with_reducible refine LeO.bind ?_ (fun _ => ?_))
      | exact ih0 _ _ _ _ _ _
      | exact ih1 _ _ _ _ _ _ _ _ _ _
      | exact ih2 _ _ _ _ _ _ _ _ _ _
      | exact florinlaw01_bare.mono _ _
      | exact florinlaw01_head.mono _
      | exact num_Add.mono _ _ _
      | exact num_Cmp.mono _ _ _
      | exact num_Div.mono _ _ _
      | exact num_Int.mono _ _
      | exact num_Of.mono _ _
      | exact num_Sub.mono _ _ _
      | exact num_Times.mono _ _ _
      | exact LeO.none _
      | refine LeO.ite ?_ ?_
      | refine LeO.bind ?_ (fun _ => ?_)
theorem florinlaw01_NumSmall.mono : ∀ a0 a1 a2 k, LeO (florinlaw01_NumSmall.f k a0 a1 a2) (florinlaw01_NumSmall.f (k + 1) a0 a1 a2) := by
  intro a0 a1 a2 k
  obtain ⟨ih0, ih1, ih2⟩ := florinlaw01_NumSmall.mono_l k
  unfold florinlaw01_NumSmall.f
  repeat' first
      | (with_reducible exact ih0 _ _ _ _ _ _)
      | (with_reducible exact ih1 _ _ _ _ _ _ _ _ _ _)
      | (with_reducible exact ih2 _ _ _ _ _ _ _ _ _ _)
      | (with_reducible exact florinlaw01_bare.mono _ _)
      | (with_reducible exact florinlaw01_head.mono _)
      | (with_reducible exact num_Add.mono _ _ _)
      | (with_reducible exact num_Cmp.mono _ _ _)
      | (with_reducible exact num_Div.mono _ _ _)
      | (with_reducible exact num_Int.mono _ _)
      | (with_reducible exact num_Of.mono _ _)
      | (with_reducible exact num_Sub.mono _ _ _)
      | (with_reducible exact num_Times.mono _ _ _)
      | (with_reducible exact LeO.refl _)
      | (with_reducible exact LeO.none _)
      | (with_reducible refine LeO.ite ?_ ?_)
      | (with_reducible refine LeO.bind ?_ (fun _ => ?_))
      | exact ih0 _ _ _ _ _ _
      | exact ih1 _ _ _ _ _ _ _ _ _ _
      | exact ih2 _ _ _ _ _ _ _ _ _ _
      | exact florinlaw01_bare.mono _ _
      | exact florinlaw01_head.mono _
      | exact num_Add.mono _ _ _
      | exact num_Cmp.mono _ _ _
      | exact num_Div.mono _ _ _
      | exact num_Int.mono _ _
      | exact num_Of.mono _ _
      | exact num_Sub.mono _ _ _
      | exact num_Times.mono _ _ _
      | exact LeO.none _
      | refine LeO.ite ?_ ?_
      | refine LeO.bind ?_ (fun _ => ?_)
set_option maxHeartbeats 8000000 in
set_option maxRecDepth 100000 in
theorem florinlaw01_NumSmall.calls (k : Nat) (a0 : Int) (a1 : Int) (a2 : Int) (r : Bool) (w : World) (h : florinlaw01_NumSmall.f k a0 a1 a2 = some r) :
    Calls Tryd.prog 9 #[.int .i64 a0, .int .i64 a1, .int .i64 a2] w fun e w' => e = .returned (.bool r) ∧ Below w.heap.size w w' := by
  have HB := Aside0.mk (Below.refl w.heap.size w)
  have H : ((florinlaw01_head.f k).bind fun t256 => (if t256 = true then ((num_Of.f k (Go.bits .and .i64 a0 1099511627775)).bind fun t257 => ((num_Of.f k (Go.bits .and .i64 a1 1099511627775)).bind fun t258 => (if 2 + t257.size ≤ 9223372036854775807 then ((num_Int.f k ((⟨#[48, 48]⟩ : ByteArray) ++ t257)).bind fun bt259 => (if bt259.2 = true then (if bt259.1 = (Go.bits .and .i64 a0 1099511627775) then ((florinlaw01_bare.f k t257).bind fun t261 => (if t257.toList = t261.toList then ((num_Of.f k (-1)).bind fun t262 => (if t262.toList = ([] : List UInt8) then ((num_Of.f k 0).bind fun t263 => (florinlaw01_NumSmall.j0 k (Go.bits .and .i64 a0 1099511627775) (Go.bits .and .i64 a1 1099511627775) (Go.bits .and .i64 a2 65535) t257 t258 (t263.toList != ([] : List UInt8)))) else (florinlaw01_NumSmall.j0 k (Go.bits .and .i64 a0 1099511627775) (Go.bits .and .i64 a1 1099511627775) (Go.bits .and .i64 a2 65535) t257 t258 true))) else (florinlaw01_NumSmall.j0 k (Go.bits .and .i64 a0 1099511627775) (Go.bits .and .i64 a1 1099511627775) (Go.bits .and .i64 a2 65535) t257 t258 true))) else (florinlaw01_NumSmall.j0 k (Go.bits .and .i64 a0 1099511627775) (Go.bits .and .i64 a1 1099511627775) (Go.bits .and .i64 a2 65535) t257 t258 true)) else (florinlaw01_NumSmall.j0 k (Go.bits .and .i64 a0 1099511627775) (Go.bits .and .i64 a1 1099511627775) (Go.bits .and .i64 a2 65535) t257 t258 true))) else (none)))) else (some false))) = some r := h
  clear h
  replace H := Option.bind_eq_some_iff.mp H
  obtain ⟨t256, A40, H⟩ := H
  replace H : (if t256 = true then ((num_Of.f k (Go.bits .and .i64 a0 1099511627775)).bind fun t257 => ((num_Of.f k (Go.bits .and .i64 a1 1099511627775)).bind fun t258 => (if 2 + t257.size ≤ 9223372036854775807 then ((num_Int.f k ((⟨#[48, 48]⟩ : ByteArray) ++ t257)).bind fun bt259 => (if bt259.2 = true then (if bt259.1 = (Go.bits .and .i64 a0 1099511627775) then ((florinlaw01_bare.f k t257).bind fun t261 => (if t257.toList = t261.toList then ((num_Of.f k (-1)).bind fun t262 => (if t262.toList = ([] : List UInt8) then ((num_Of.f k 0).bind fun t263 => (florinlaw01_NumSmall.j0 k (Go.bits .and .i64 a0 1099511627775) (Go.bits .and .i64 a1 1099511627775) (Go.bits .and .i64 a2 65535) t257 t258 (t263.toList != ([] : List UInt8)))) else (florinlaw01_NumSmall.j0 k (Go.bits .and .i64 a0 1099511627775) (Go.bits .and .i64 a1 1099511627775) (Go.bits .and .i64 a2 65535) t257 t258 true))) else (florinlaw01_NumSmall.j0 k (Go.bits .and .i64 a0 1099511627775) (Go.bits .and .i64 a1 1099511627775) (Go.bits .and .i64 a2 65535) t257 t258 true))) else (florinlaw01_NumSmall.j0 k (Go.bits .and .i64 a0 1099511627775) (Go.bits .and .i64 a1 1099511627775) (Go.bits .and .i64 a2 65535) t257 t258 true)) else (florinlaw01_NumSmall.j0 k (Go.bits .and .i64 a0 1099511627775) (Go.bits .and .i64 a1 1099511627775) (Go.bits .and .i64 a2 65535) t257 t258 true))) else (none)))) else (some false)) = some r := H
  have A4 := Aside0.mk A40
  clear A40
  by_cases c5 : t256 = true
  · subst c5
    have H1 : ((num_Of.f k (Go.bits .and .i64 a0 1099511627775)).bind fun t257 => ((num_Of.f k (Go.bits .and .i64 a1 1099511627775)).bind fun t258 => (if 2 + t257.size ≤ 9223372036854775807 then ((num_Int.f k ((⟨#[48, 48]⟩ : ByteArray) ++ t257)).bind fun bt259 => (if bt259.2 = true then (if bt259.1 = (Go.bits .and .i64 a0 1099511627775) then ((florinlaw01_bare.f k t257).bind fun t261 => (if t257.toList = t261.toList then ((num_Of.f k (-1)).bind fun t262 => (if t262.toList = ([] : List UInt8) then ((num_Of.f k 0).bind fun t263 => (florinlaw01_NumSmall.j0 k (Go.bits .and .i64 a0 1099511627775) (Go.bits .and .i64 a1 1099511627775) (Go.bits .and .i64 a2 65535) t257 t258 (t263.toList != ([] : List UInt8)))) else (florinlaw01_NumSmall.j0 k (Go.bits .and .i64 a0 1099511627775) (Go.bits .and .i64 a1 1099511627775) (Go.bits .and .i64 a2 65535) t257 t258 true))) else (florinlaw01_NumSmall.j0 k (Go.bits .and .i64 a0 1099511627775) (Go.bits .and .i64 a1 1099511627775) (Go.bits .and .i64 a2 65535) t257 t258 true))) else (florinlaw01_NumSmall.j0 k (Go.bits .and .i64 a0 1099511627775) (Go.bits .and .i64 a1 1099511627775) (Go.bits .and .i64 a2 65535) t257 t258 true)) else (florinlaw01_NumSmall.j0 k (Go.bits .and .i64 a0 1099511627775) (Go.bits .and .i64 a1 1099511627775) (Go.bits .and .i64 a2 65535) t257 t258 true))) else (none)))) = some r := by rw [if_pos rfl] at H; exact H
    clear H
    have H := H1
    clear H1
    replace H := Option.bind_eq_some_iff.mp H
    obtain ⟨t257, A60, H⟩ := H
    replace H : ((num_Of.f k (Go.bits .and .i64 a1 1099511627775)).bind fun t258 => (if 2 + t257.size ≤ 9223372036854775807 then ((num_Int.f k ((⟨#[48, 48]⟩ : ByteArray) ++ t257)).bind fun bt259 => (if bt259.2 = true then (if bt259.1 = (Go.bits .and .i64 a0 1099511627775) then ((florinlaw01_bare.f k t257).bind fun t261 => (if t257.toList = t261.toList then ((num_Of.f k (-1)).bind fun t262 => (if t262.toList = ([] : List UInt8) then ((num_Of.f k 0).bind fun t263 => (florinlaw01_NumSmall.j0 k (Go.bits .and .i64 a0 1099511627775) (Go.bits .and .i64 a1 1099511627775) (Go.bits .and .i64 a2 65535) t257 t258 (t263.toList != ([] : List UInt8)))) else (florinlaw01_NumSmall.j0 k (Go.bits .and .i64 a0 1099511627775) (Go.bits .and .i64 a1 1099511627775) (Go.bits .and .i64 a2 65535) t257 t258 true))) else (florinlaw01_NumSmall.j0 k (Go.bits .and .i64 a0 1099511627775) (Go.bits .and .i64 a1 1099511627775) (Go.bits .and .i64 a2 65535) t257 t258 true))) else (florinlaw01_NumSmall.j0 k (Go.bits .and .i64 a0 1099511627775) (Go.bits .and .i64 a1 1099511627775) (Go.bits .and .i64 a2 65535) t257 t258 true)) else (florinlaw01_NumSmall.j0 k (Go.bits .and .i64 a0 1099511627775) (Go.bits .and .i64 a1 1099511627775) (Go.bits .and .i64 a2 65535) t257 t258 true))) else (none))) = some r := H
    have A6 := Aside0.mk A60
    clear A60
    replace H := Option.bind_eq_some_iff.mp H
    obtain ⟨t258, A70, H⟩ := H
    replace H : (if 2 + t257.size ≤ 9223372036854775807 then ((num_Int.f k ((⟨#[48, 48]⟩ : ByteArray) ++ t257)).bind fun bt259 => (if bt259.2 = true then (if bt259.1 = (Go.bits .and .i64 a0 1099511627775) then ((florinlaw01_bare.f k t257).bind fun t261 => (if t257.toList = t261.toList then ((num_Of.f k (-1)).bind fun t262 => (if t262.toList = ([] : List UInt8) then ((num_Of.f k 0).bind fun t263 => (florinlaw01_NumSmall.j0 k (Go.bits .and .i64 a0 1099511627775) (Go.bits .and .i64 a1 1099511627775) (Go.bits .and .i64 a2 65535) t257 t258 (t263.toList != ([] : List UInt8)))) else (florinlaw01_NumSmall.j0 k (Go.bits .and .i64 a0 1099511627775) (Go.bits .and .i64 a1 1099511627775) (Go.bits .and .i64 a2 65535) t257 t258 true))) else (florinlaw01_NumSmall.j0 k (Go.bits .and .i64 a0 1099511627775) (Go.bits .and .i64 a1 1099511627775) (Go.bits .and .i64 a2 65535) t257 t258 true))) else (florinlaw01_NumSmall.j0 k (Go.bits .and .i64 a0 1099511627775) (Go.bits .and .i64 a1 1099511627775) (Go.bits .and .i64 a2 65535) t257 t258 true)) else (florinlaw01_NumSmall.j0 k (Go.bits .and .i64 a0 1099511627775) (Go.bits .and .i64 a1 1099511627775) (Go.bits .and .i64 a2 65535) t257 t258 true))) else (none)) = some r := H
    have A7 := Aside0.mk A70
    clear A70
    by_cases c8 : 2 + t257.size ≤ 9223372036854775807
    · rw [if_pos c8] at H
      have c8b0 := eq_true c8
      have c8b1 : decide (2 + t257.size ≤ 9223372036854775807) = true := decide_eq_true c8
      try have c8b2 : (9223372036854775807 < 2 + t257.size) = False := eq_false (Nat.not_lt.2 c8)
      replace H := Option.bind_eq_some_iff.mp H
      obtain ⟨⟨t259, t260⟩, A90, H⟩ := H
      replace H : (if t260 = true then (if t259 = (Go.bits .and .i64 a0 1099511627775) then ((florinlaw01_bare.f k t257).bind fun t261 => (if t257.toList = t261.toList then ((num_Of.f k (-1)).bind fun t262 => (if t262.toList = ([] : List UInt8) then ((num_Of.f k 0).bind fun t263 => (florinlaw01_NumSmall.j0 k (Go.bits .and .i64 a0 1099511627775) (Go.bits .and .i64 a1 1099511627775) (Go.bits .and .i64 a2 65535) t257 t258 (t263.toList != ([] : List UInt8)))) else (florinlaw01_NumSmall.j0 k (Go.bits .and .i64 a0 1099511627775) (Go.bits .and .i64 a1 1099511627775) (Go.bits .and .i64 a2 65535) t257 t258 true))) else (florinlaw01_NumSmall.j0 k (Go.bits .and .i64 a0 1099511627775) (Go.bits .and .i64 a1 1099511627775) (Go.bits .and .i64 a2 65535) t257 t258 true))) else (florinlaw01_NumSmall.j0 k (Go.bits .and .i64 a0 1099511627775) (Go.bits .and .i64 a1 1099511627775) (Go.bits .and .i64 a2 65535) t257 t258 true)) else (florinlaw01_NumSmall.j0 k (Go.bits .and .i64 a0 1099511627775) (Go.bits .and .i64 a1 1099511627775) (Go.bits .and .i64 a2 65535) t257 t258 true)) = some r := H
      have A9 := Aside0.mk A90
      clear A90
      have HC10 := Aside0.mk H
      clear H
      go_enter Tryd.func9, Tryd.ntmps9
      go_upto_region 9 with (first | ((with_reducible refine gate_callee (f := 12) rfl ?_); refine goesL_ (some 16) rfl rfl Tryd.func12 (by kernel_rfl) rfl #[] rfl (by (try simp only [List.map_toArray, List.map_cons, List.map_nil]); first | done | rfl | (simp only [List.length_drop, List.length_take]; rfl)) ?_; (with_reducible refine (florinlaw01_head.calls k  true _ A4.out).mono ?_); rintro e w11 ⟨rfl, hb⟩; refine ⟨_, rfl, ?_⟩; have n0_ := Aside0.mk (below_step (by repeat (first | (with_reducible first | exact HB.out | apply below_alloc | apply pw_below_drewN | apply below_drew1) | exact HB.out)) hb); clear HB; have HB := n0_; clear n0_; (try clear hb); (try clear hb2); (try clear hk); (try clear hi)) | ((with_reducible refine gate_callee (f := 18) rfl ?_); refine goesL_ (some 25) rfl rfl Tryd.func18 (by kernel_rfl) rfl #[.int .i64 (Go.bits .and .i64 a0 1099511627775)] rfl (by (try simp only [List.map_toArray, List.map_cons, List.map_nil]); first | done | rfl | (simp only [List.length_drop, List.length_take]; rfl)) ?_; (with_reducible refine (num_Of.calls k (Go.bits .and .i64 a0 1099511627775) t257 _ A6.out).mono ?_); rintro e w12 ⟨rfl, hb⟩; refine ⟨_, rfl, ?_⟩; have n0_ := Aside0.mk (below_step (by repeat (first | (with_reducible first | exact HB.out | apply below_alloc | apply pw_below_drewN | apply below_drew1) | exact HB.out)) hb); clear HB; have HB := n0_; clear n0_; (try clear hb); (try clear hb2); (try clear hk); (try clear hi)) | ((with_reducible refine gate_callee (f := 18) rfl ?_); refine goesL_ (some 27) rfl rfl Tryd.func18 (by kernel_rfl) rfl #[.int .i64 (Go.bits .and .i64 a1 1099511627775)] rfl (by (try simp only [List.map_toArray, List.map_cons, List.map_nil]); first | done | rfl | (simp only [List.length_drop, List.length_take]; rfl)) ?_; (with_reducible refine (num_Of.calls k (Go.bits .and .i64 a1 1099511627775) t258 _ A7.out).mono ?_); rintro e w13 ⟨rfl, hb⟩; refine ⟨_, rfl, ?_⟩; have n0_ := Aside0.mk (below_step (by repeat (first | (with_reducible first | exact HB.out | apply below_alloc | apply pw_below_drewN | apply below_drew1) | exact HB.out)) hb); clear HB; have HB := n0_; clear n0_; (try clear hb); (try clear hb2); (try clear hk); (try clear hi)) | ((with_reducible refine gate_callee (f := 17) rfl ?_); refine goesL_ (some 31) rfl rfl Tryd.func17 (by kernel_rfl) rfl #[.string ((⟨#[48, 48]⟩ : ByteArray) ++ t257)] rfl (by (try simp only [List.map_toArray, List.map_cons, List.map_nil]); first | done | rfl | (simp only [List.length_drop, List.length_take]; rfl)) ?_; (with_reducible refine (num_Int.calls k ((⟨#[48, 48]⟩ : ByteArray) ++ t257) t259 t260 _ A9.out).mono ?_); rintro e w14 ⟨rfl, hb⟩; refine ⟨_, rfl, ?_⟩; have n0_ := Aside0.mk (below_step (by repeat (first | (with_reducible first | exact HB.out | apply below_alloc | apply pw_below_drewN | apply below_drew1) | exact HB.out)) hb); clear HB; have HB := n0_; clear n0_; (try clear hb); (try clear hb2); (try clear hk); (try clear hi)))
      (try simp only [Act.put, List.setIfInBounds_toArray, List.set_cons_zero, List.set_cons_succ])
      go_cut [54] (fun v54 wc => ∃ (kq : Nat) (x54_9 : Bool), v54 = .bool x54_9 ∧ Aside0 (florinlaw01_NumSmall.j0 kq (Go.bits .and .i64 a0 1099511627775) (Go.bits .and .i64 a1 1099511627775) (Go.bits .and .i64 a2 65535) t257 t258 x54_9 = some r) ∧ Aside0 (kq ≤ k) ∧ Aside0 (Below w.heap.size w wc))
      case first =>
        have H := HC10.out
        clear HC10
        by_cases c15 : t260 = true
        · subst c15
          have H1 : (if t259 = (Go.bits .and .i64 a0 1099511627775) then ((florinlaw01_bare.f k t257).bind fun t261 => (if t257.toList = t261.toList then ((num_Of.f k (-1)).bind fun t262 => (if t262.toList = ([] : List UInt8) then ((num_Of.f k 0).bind fun t263 => (florinlaw01_NumSmall.j0 k (Go.bits .and .i64 a0 1099511627775) (Go.bits .and .i64 a1 1099511627775) (Go.bits .and .i64 a2 65535) t257 t258 (t263.toList != ([] : List UInt8)))) else (florinlaw01_NumSmall.j0 k (Go.bits .and .i64 a0 1099511627775) (Go.bits .and .i64 a1 1099511627775) (Go.bits .and .i64 a2 65535) t257 t258 true))) else (florinlaw01_NumSmall.j0 k (Go.bits .and .i64 a0 1099511627775) (Go.bits .and .i64 a1 1099511627775) (Go.bits .and .i64 a2 65535) t257 t258 true))) else (florinlaw01_NumSmall.j0 k (Go.bits .and .i64 a0 1099511627775) (Go.bits .and .i64 a1 1099511627775) (Go.bits .and .i64 a2 65535) t257 t258 true)) = some r := by rw [if_pos rfl] at H; exact H
          clear H
          have H := H1
          clear H1
          by_cases c16 : t259 = (Go.bits .and .i64 a0 1099511627775)
          · rw [if_pos c16] at H
            have c16b0 : (t259 == (Go.bits .and .i64 a0 1099511627775)) = true := beq_iff_eq.mpr c16
            have c16b1 : (t259 != (Go.bits .and .i64 a0 1099511627775)) = false := bne_eq_false_iff_eq.mpr c16
            clear c16
            (first | rw [c16b0] | (simp only [i64_w, i32_w]; rw [c16b0]) | skip)
            replace H := Option.bind_eq_some_iff.mp H
            obtain ⟨t261, A170, H⟩ := H
            replace H : (if t257.toList = t261.toList then ((num_Of.f k (-1)).bind fun t262 => (if t262.toList = ([] : List UInt8) then ((num_Of.f k 0).bind fun t263 => (florinlaw01_NumSmall.j0 k (Go.bits .and .i64 a0 1099511627775) (Go.bits .and .i64 a1 1099511627775) (Go.bits .and .i64 a2 65535) t257 t258 (t263.toList != ([] : List UInt8)))) else (florinlaw01_NumSmall.j0 k (Go.bits .and .i64 a0 1099511627775) (Go.bits .and .i64 a1 1099511627775) (Go.bits .and .i64 a2 65535) t257 t258 true))) else (florinlaw01_NumSmall.j0 k (Go.bits .and .i64 a0 1099511627775) (Go.bits .and .i64 a1 1099511627775) (Go.bits .and .i64 a2 65535) t257 t258 true)) = some r := H
            have A17 := Aside0.mk A170
            clear A170
            by_cases c18 : t257.toList = t261.toList
            · rw [if_pos c18] at H
              have c18b0 : (t257.toList == t261.toList) = true := beq_iff_eq.mpr c18
              have c18b1 : (t257.toList != t261.toList) = false := bne_eq_false_iff_eq.mpr c18
              clear c18
              replace H := Option.bind_eq_some_iff.mp H
              obtain ⟨t262, A190, H⟩ := H
              replace H : (if t262.toList = ([] : List UInt8) then ((num_Of.f k 0).bind fun t263 => (florinlaw01_NumSmall.j0 k (Go.bits .and .i64 a0 1099511627775) (Go.bits .and .i64 a1 1099511627775) (Go.bits .and .i64 a2 65535) t257 t258 (t263.toList != ([] : List UInt8)))) else (florinlaw01_NumSmall.j0 k (Go.bits .and .i64 a0 1099511627775) (Go.bits .and .i64 a1 1099511627775) (Go.bits .and .i64 a2 65535) t257 t258 true)) = some r := H
              have A19 := Aside0.mk A190
              clear A190
              by_cases c20 : t262.toList = ([] : List UInt8)
              · rw [if_pos c20] at H
                have c20b0 : (t262.toList == ([] : List UInt8)) = true := beq_iff_eq.mpr c20
                have c20b1 : (t262.toList != ([] : List UInt8)) = false := bne_eq_false_iff_eq.mpr c20
                clear c20
                replace H := Option.bind_eq_some_iff.mp H
                obtain ⟨t263, A210, H⟩ := H
                replace H : (florinlaw01_NumSmall.j0 k (Go.bits .and .i64 a0 1099511627775) (Go.bits .and .i64 a1 1099511627775) (Go.bits .and .i64 a2 65535) t257 t258 (t263.toList != ([] : List UInt8))) = some r := H
                have A21 := Aside0.mk A210
                clear A210
                have H' := Aside0.mk H
                clear H
                go_wp2_with (first | (go_at_call 15; (with_reducible refine (florinlaw01_bare.calls k t257 t261 _ A17.out).mono ?_); rintro e w' ⟨rfl, ⟨nd, rfl⟩⟩) | (go_at_call 18; (with_reducible refine (num_Of.calls k (-1) t262 _ A19.out).mono ?_); rintro e w22 ⟨rfl, hb⟩; have n0_ := Aside0.mk (below_step (by repeat (first | (with_reducible first | exact HB.out | apply below_alloc | apply pw_below_drewN | apply below_drew1) | exact HB.out)) hb); clear HB; have HB := n0_; clear n0_; (try clear hb); (try clear hb2); (try clear hk); (try clear hi)) | (go_at_call 18; (with_reducible refine (num_Of.calls k 0 t263 _ A21.out).mono ?_); rintro e w23 ⟨rfl, hb⟩; have n0_ := Aside0.mk (below_step (by repeat (first | (with_reducible first | exact HB.out | apply below_alloc | apply pw_below_drewN | apply below_drew1) | exact HB.out)) hb); clear HB; have HB := n0_; clear n0_; (try clear hb); (try clear hb2); (try clear hk); (try clear hi)))
                go_meet
                case rel => exact ⟨_, ((t263.toList != ([] : List UInt8))), (by first | rfl | (simp; done) | (simp [*]; done) | (simp; first | exact given_isEmpty _ | exact (given_isEmpty _).symm)), H', ⟨by first | omega | exact Nat.le_refl _⟩, ⟨by repeat (first | (with_reducible first | exact HB.out | apply below_alloc | apply pw_below_drewN | apply below_drew1) | exact HB.out)⟩⟩
              · rw [if_neg c20] at H
                have c20b0 : (t262.toList == ([] : List UInt8)) = false := beq_eq_false_iff_ne.mpr c20
                have c20b1 : (t262.toList != ([] : List UInt8)) = true := bne_iff_ne.mpr c20
                have H' := Aside0.mk H
                clear H
                go_wp2_with (first | (go_at_call 15; (with_reducible refine (florinlaw01_bare.calls k t257 t261 _ A17.out).mono ?_); rintro e w' ⟨rfl, ⟨nd, rfl⟩⟩) | (go_at_call 18; (with_reducible refine (num_Of.calls k (-1) t262 _ A19.out).mono ?_); rintro e w24 ⟨rfl, hb⟩; have n0_ := Aside0.mk (below_step (by repeat (first | (with_reducible first | exact HB.out | apply below_alloc | apply pw_below_drewN | apply below_drew1) | exact HB.out)) hb); clear HB; have HB := n0_; clear n0_; (try clear hb); (try clear hb2); (try clear hk); (try clear hi)))
                go_meet
                case rel => exact ⟨_, (true), (by first | rfl | (simp; done) | (simp [*]; done) | (simp; first | exact given_isEmpty _ | exact (given_isEmpty _).symm)), H', ⟨by first | omega | exact Nat.le_refl _⟩, ⟨by repeat (first | (with_reducible first | exact HB.out | apply below_alloc | apply pw_below_drewN | apply below_drew1) | exact HB.out)⟩⟩
            · rw [if_neg c18] at H
              have c18b0 : (t257.toList == t261.toList) = false := beq_eq_false_iff_ne.mpr c18
              have c18b1 : (t257.toList != t261.toList) = true := bne_iff_ne.mpr c18
              have H' := Aside0.mk H
              clear H
              go_wp2_with (first | (go_at_call 15; (with_reducible refine (florinlaw01_bare.calls k t257 t261 _ A17.out).mono ?_); rintro e w' ⟨rfl, ⟨nd, rfl⟩⟩))
              go_meet
              case rel => exact ⟨_, (true), (by first | rfl | (simp; done) | (simp [*]; done) | (simp; first | exact given_isEmpty _ | exact (given_isEmpty _).symm)), H', ⟨by first | omega | exact Nat.le_refl _⟩, ⟨by repeat (first | (with_reducible first | exact HB.out | apply below_alloc | apply pw_below_drewN | apply below_drew1) | exact HB.out)⟩⟩
          · rw [if_neg c16] at H
            have c16b0 : (t259 == (Go.bits .and .i64 a0 1099511627775)) = false := beq_eq_false_iff_ne.mpr c16
            have c16b1 : (t259 != (Go.bits .and .i64 a0 1099511627775)) = true := bne_iff_ne.mpr c16
            (first | rw [c16b0] | (simp only [i64_w, i32_w]; rw [c16b0]) | skip)
            have H' := Aside0.mk H
            clear H
            go_wp2
            go_meet
            case rel => exact ⟨_, (true), (by first | rfl | (simp; done) | (simp [*]; done) | (simp; first | exact given_isEmpty _ | exact (given_isEmpty _).symm)), H', ⟨by first | omega | exact Nat.le_refl _⟩, ⟨by repeat (first | (with_reducible first | exact HB.out | apply below_alloc | apply pw_below_drewN | apply below_drew1) | exact HB.out)⟩⟩
        · replace c15 := Bool.eq_false_iff.mpr c15
          subst c15
          have H1 : (florinlaw01_NumSmall.j0 k (Go.bits .and .i64 a0 1099511627775) (Go.bits .and .i64 a1 1099511627775) (Go.bits .and .i64 a2 65535) t257 t258 true) = some r := by rw [if_neg (show ¬ (false = true) by decide)] at H; exact H
          clear H
          have H := H1
          clear H1
          have H' := Aside0.mk H
          clear H
          go_wp2
          go_meet
          case rel => exact ⟨_, (true), (by first | rfl | (simp; done) | (simp [*]; done) | (simp; first | exact given_isEmpty _ | exact (given_isEmpty _).symm)), H', ⟨by first | omega | exact Nat.le_refl _⟩, ⟨by repeat (first | (with_reducible first | exact HB.out | apply below_alloc | apply pw_below_drewN | apply below_drew1) | exact HB.out)⟩⟩
      case rest =>
        clear HC10
        try clear c1
        try clear c2
        try clear p2
        try clear c5
        try clear c8
        try clear c8b0
        try clear c8b1
        try clear c8b2
        try clear c9
        try clear c12
        try clear c15
        try clear c16
        try clear c16b0
        try clear c16b1
        try clear c17
        try clear c18
        try clear c18b0
        try clear c18b1
        try clear c20
        try clear c20b0
        try clear c20b1
        obtain ⟨kq, x54_9, rfl, HA, HJ9, HB⟩ := hcut
        cases kq with
        | zero => exact absurd HA.out (by simp [florinlaw01_NumSmall.j0])
        | succ kj9 =>
          have H := HA.out
          clear HA
          simp only [florinlaw01_NumSmall.j0] at H
          by_cases c25 : x54_9 = true
          · subst c25
            have H1 : (some false) = some r := by rw [if_pos rfl] at H; exact H
            clear H
            have H := H1
            clear H1
            obtain rfl := Option.some.inj H
            go_wp2
            go_ret
            exact ⟨by first | rfl | (simp [errW_none, errW_some] <;> rfl) | (simp [*, errW_none, errW_some] <;> rfl), by repeat (first | (with_reducible first | exact HB.out | apply below_alloc | apply pw_below_drewN | apply below_drew1) | exact HB.out)⟩
          · replace c25 := Bool.eq_false_iff.mpr c25
            subst c25
            have H1 : ((num_Sub.f kj9 t257 t258).bind fun bt264 => ((num_Div.f kj9 t257 (wrap64 ((Go.bits .and .i64 a2 65535) + 1))).bind fun bt266 => (if (Go.bits .and .i64 a0 1099511627775) < (Go.bits .and .i64 a1 1099511627775) then (florinlaw01_NumSmall.j1 kj9 (Go.bits .and .i64 a0 1099511627775) (Go.bits .and .i64 a1 1099511627775) (Go.bits .and .i64 a2 65535) t257 t258 bt264.1 bt264.2 bt266.1 bt266.2 (-1)) else (florinlaw01_NumSmall.j1 kj9 (Go.bits .and .i64 a0 1099511627775) (Go.bits .and .i64 a1 1099511627775) (Go.bits .and .i64 a2 65535) t257 t258 bt264.1 bt264.2 bt266.1 bt266.2 0)))) = some r := by rw [if_neg (show ¬ (false = true) by decide)] at H; exact H
            clear H
            have H := H1
            clear H1
            replace H := Option.bind_eq_some_iff.mp H
            obtain ⟨⟨t264, t265⟩, A260, H⟩ := H
            replace H : ((num_Div.f kj9 t257 (wrap64 ((Go.bits .and .i64 a2 65535) + 1))).bind fun bt266 => (if (Go.bits .and .i64 a0 1099511627775) < (Go.bits .and .i64 a1 1099511627775) then (florinlaw01_NumSmall.j1 kj9 (Go.bits .and .i64 a0 1099511627775) (Go.bits .and .i64 a1 1099511627775) (Go.bits .and .i64 a2 65535) t257 t258 t264 t265 bt266.1 bt266.2 (-1)) else (florinlaw01_NumSmall.j1 kj9 (Go.bits .and .i64 a0 1099511627775) (Go.bits .and .i64 a1 1099511627775) (Go.bits .and .i64 a2 65535) t257 t258 t264 t265 bt266.1 bt266.2 0))) = some r := H
            have A26 := Aside0.mk A260
            clear A260
            replace H := Option.bind_eq_some_iff.mp H
            obtain ⟨⟨t266, t267⟩, A270, H⟩ := H
            replace H : (if (Go.bits .and .i64 a0 1099511627775) < (Go.bits .and .i64 a1 1099511627775) then (florinlaw01_NumSmall.j1 kj9 (Go.bits .and .i64 a0 1099511627775) (Go.bits .and .i64 a1 1099511627775) (Go.bits .and .i64 a2 65535) t257 t258 t264 t265 t266 t267 (-1)) else (florinlaw01_NumSmall.j1 kj9 (Go.bits .and .i64 a0 1099511627775) (Go.bits .and .i64 a1 1099511627775) (Go.bits .and .i64 a2 65535) t257 t258 t264 t265 t266 t267 0)) = some r := H
            have A27 := Aside0.mk A270
            clear A270
            have HC28 := Aside0.mk H
            clear H
            go_upto_if 70 with (first | ((with_reducible refine gate_callee (f := 22) rfl ?_); refine goesL_ (some 58) rfl rfl Tryd.func22 (by kernel_rfl) rfl #[.string t257, .string t258] rfl (by (try simp only [List.map_toArray, List.map_cons, List.map_nil]); first | done | rfl | (simp only [List.length_drop, List.length_take]; rfl)) ?_; (with_reducible refine (num_Sub.calls kj9 t257 t258 t264 t265 _ A26.out).mono ?_); rintro e w29 ⟨rfl, hb⟩; refine ⟨_, rfl, ?_⟩; have n0_ := Aside0.mk (below_step (by repeat (first | (with_reducible first | exact HB.out | apply below_alloc | apply pw_below_drewN | apply below_drew1) | exact HB.out)) hb); clear HB; have HB := n0_; clear n0_; (try clear hb); (try clear hb2); (try clear hk); (try clear hi)) | ((with_reducible refine gate_callee (f := 19) rfl ?_); refine goesL_ (some 65) rfl rfl Tryd.func19 (by kernel_rfl) rfl #[.string t257, .int .i64 (wrap64 ((Go.bits .and .i64 a2 65535) + 1))] rfl (by (try simp only [List.map_toArray, List.map_cons, List.map_nil]); first | done | rfl | (simp only [List.length_drop, List.length_take]; rfl)) ?_; (with_reducible refine (num_Div.calls kj9 t257 (wrap64 ((Go.bits .and .i64 a2 65535) + 1)) t266 t267 _ A27.out).mono ?_); rintro e w30 ⟨rfl, hb⟩; refine ⟨_, rfl, ?_⟩; have n0_ := Aside0.mk (below_step (by repeat (first | (with_reducible first | exact HB.out | apply below_alloc | apply pw_below_drewN | apply below_drew1) | exact HB.out)) hb); clear HB; have HB := n0_; clear n0_; (try clear hb); (try clear hb2); (try clear hk); (try clear hi)))
            (try simp only [Act.put, List.setIfInBounds_toArray, List.set_cons_zero, List.set_cons_succ])
            go_cut [15] (fun v15 wc => ∃ (kq : Nat) (x15_27 : Int), v15 = .int .i64 x15_27 ∧ Aside0 (florinlaw01_NumSmall.j1 kq (Go.bits .and .i64 a0 1099511627775) (Go.bits .and .i64 a1 1099511627775) (Go.bits .and .i64 a2 65535) t257 t258 t264 t265 t266 t267 x15_27 = some r) ∧ Aside0 (kq ≤ kj9) ∧ Aside0 (Below w.heap.size w wc))
            case first =>
              have H := HC28.out
              clear HC28
              by_cases c31 : (Go.bits .and .i64 a0 1099511627775) < (Go.bits .and .i64 a1 1099511627775)
              · rw [if_pos c31] at H
                have c31b0 : decide ((Go.bits .and .i64 a0 1099511627775) < (Go.bits .and .i64 a1 1099511627775)) = true := decide_eq_true c31
                clear c31
                (first | rw [c31b0] | (simp only [i64_w, i32_w]; rw [c31b0]) | skip)
                have H' := Aside0.mk H
                clear H
                go_wp2
                go_meet
                case rel => exact ⟨_, ((-1)), (by first | rfl | (simp; done) | (simp [*]; done) | (simp; first | exact given_isEmpty _ | exact (given_isEmpty _).symm)), H', ⟨by have := HJ9.out; first | omega | exact Nat.le_refl _⟩, ⟨by repeat (first | (with_reducible first | exact HB.out | apply below_alloc | apply pw_below_drewN | apply below_drew1) | exact HB.out)⟩⟩
              · rw [if_neg c31] at H
                have c31b0 : decide ((Go.bits .and .i64 a0 1099511627775) < (Go.bits .and .i64 a1 1099511627775)) = false := decide_eq_false c31
                clear c31
                (first | rw [c31b0] | (simp only [i64_w, i32_w]; rw [c31b0]) | skip)
                have H' := Aside0.mk H
                clear H
                go_wp2
                go_meet
                case rel => exact ⟨_, (0), (by first | rfl | (simp; done) | (simp [*]; done) | (simp; first | exact given_isEmpty _ | exact (given_isEmpty _).symm)), H', ⟨by have := HJ9.out; first | omega | exact Nat.le_refl _⟩, ⟨by repeat (first | (with_reducible first | exact HB.out | apply below_alloc | apply pw_below_drewN | apply below_drew1) | exact HB.out)⟩⟩
            case rest =>
              clear HC28
              try clear c1
              try clear c2
              try clear p2
              try clear c3
              try clear c5
              try clear p6
              try clear c8
              try clear c8b0
              try clear c8b1
              try clear c8b2
              try clear c9
              try clear c12
              try clear c15
              try clear c16
              try clear c16b0
              try clear c16b1
              try clear c17
              try clear c18
              try clear c18b0
              try clear c18b1
              try clear c19
              try clear c20
              try clear c20b0
              try clear c20b1
              try clear c22
              try clear c25
              try clear c31
              try clear c31b0
              try clear p2
              obtain ⟨kq, x15_27, rfl, HA, HJ27, HB⟩ := hcut
              cases kq with
              | zero => exact absurd HA.out (by simp [florinlaw01_NumSmall.j1])
              | succ kj27 =>
                have H := HA.out
                clear HA
                simp only [florinlaw01_NumSmall.j1] at H
                have HC32 := Aside0.mk H
                clear H
                go_upto_if 73 with (fail)
                go_cut [15] (fun v15 wc => ∃ (kq : Nat) (x15_31 : Int), v15 = .int .i64 x15_31 ∧ Aside0 (florinlaw01_NumSmall.j2 kq (Go.bits .and .i64 a0 1099511627775) (Go.bits .and .i64 a1 1099511627775) (Go.bits .and .i64 a2 65535) t257 t258 t264 t265 t266 t267 x15_31 = some r) ∧ Aside0 (kq ≤ kj27) ∧ Aside0 (Below w.heap.size w wc))
                case first =>
                  have H := HC32.out
                  clear HC32
                  by_cases c33 : (Go.bits .and .i64 a0 1099511627775) > (Go.bits .and .i64 a1 1099511627775)
                  · rw [if_pos c33] at H
                    have c33b0 : decide ((Go.bits .and .i64 a1 1099511627775) < (Go.bits .and .i64 a0 1099511627775)) = true := decide_eq_true c33
                    clear c33
                    (first | rw [c33b0] | (simp only [i64_w, i32_w]; rw [c33b0]) | skip)
                    have H' := Aside0.mk H
                    clear H
                    go_wp2
                    go_meet
                    case rel => exact ⟨_, (1), (by first | rfl | (simp; done) | (simp [*]; done) | (simp; first | exact given_isEmpty _ | exact (given_isEmpty _).symm)), H', ⟨by have := HJ9.out; have := HJ27.out; first | omega | exact Nat.le_refl _⟩, ⟨by repeat (first | (with_reducible first | exact HB.out | apply below_alloc | apply pw_below_drewN | apply below_drew1) | exact HB.out)⟩⟩
                  · rw [if_neg c33] at H
                    have c33b0 : decide ((Go.bits .and .i64 a1 1099511627775) < (Go.bits .and .i64 a0 1099511627775)) = false := decide_eq_false c33
                    clear c33
                    (first | rw [c33b0] | (simp only [i64_w, i32_w]; rw [c33b0]) | skip)
                    have H' := Aside0.mk H
                    clear H
                    go_wp2
                    go_meet
                    case rel => exact ⟨_, (x15_27), (by first | rfl | (simp; done) | (simp [*]; done) | (simp; first | exact given_isEmpty _ | exact (given_isEmpty _).symm)), H', ⟨by have := HJ9.out; have := HJ27.out; first | omega | exact Nat.le_refl _⟩, ⟨by repeat (first | (with_reducible first | exact HB.out | apply below_alloc | apply pw_below_drewN | apply below_drew1) | exact HB.out)⟩⟩
                case rest =>
                  clear HC32
                  try clear c1
                  try clear c2
                  try clear p2
                  try clear c3
                  try clear c5
                  try clear p6
                  try clear c8
                  try clear c8b0
                  try clear c8b1
                  try clear c8b2
                  try clear c9
                  try clear c12
                  try clear c15
                  try clear c16
                  try clear c16b0
                  try clear c16b1
                  try clear c17
                  try clear c18
                  try clear c18b0
                  try clear c18b1
                  try clear c19
                  try clear c20
                  try clear c20b0
                  try clear c20b1
                  try clear c22
                  try clear c25
                  try clear c31
                  try clear c31b0
                  try clear c33
                  try clear c33b0
                  try clear p2
                  try clear p6
                  obtain ⟨kq, x15_31, rfl, HA, HJ31, HB⟩ := hcut
                  cases kq with
                  | zero => exact absurd HA.out (by simp [florinlaw01_NumSmall.j2])
                  | succ kj31 =>
                    have H := HA.out
                    clear HA
                    simp only [florinlaw01_NumSmall.j2] at H
                    replace H := Option.bind_eq_some_iff.mp H
                    obtain ⟨t268, A340, H⟩ := H
                    replace H : ((num_Of.f kj31 (wrap64 ((Go.bits .and .i64 a0 1099511627775) + (Go.bits .and .i64 a1 1099511627775)))).bind fun t269 => (if t268.toList = t269.toList then ((num_Cmp.f kj31 t257 t258).bind fun t270 => (if t270 = x15_31 then (if (t265 == (decide ((Go.bits .and .i64 a0 1099511627775) ≥ (Go.bits .and .i64 a1 1099511627775)))) = true then ((num_Of.f kj31 (mx (wrap64 ((Go.bits .and .i64 a0 1099511627775) - (Go.bits .and .i64 a1 1099511627775))) 0)).bind fun t271 => (if t264.toList = t271.toList then ((num_Times.f kj31 t257 (Go.bits .and .i64 a2 65535)).bind fun t272 => ((num_Of.f kj31 (wrap64 ((Go.bits .and .i64 a0 1099511627775) * (Go.bits .and .i64 a2 65535)))).bind fun t273 => (if t272.toList = t273.toList then (if (wrap64 ((Go.bits .and .i64 a2 65535) + 1)) = 0 then (none) else ((num_Of.f kj31 (wrap64 (Int.tdiv (Go.bits .and .i64 a0 1099511627775) (wrap64 ((Go.bits .and .i64 a2 65535) + 1))))).bind fun t274 => (if t266.toList = t274.toList then (some (t267 == (Int.tmod (Go.bits .and .i64 a0 1099511627775) (wrap64 ((Go.bits .and .i64 a2 65535) + 1))))) else (some false)))) else (some false)))) else (some false))) else (some false)) else (some false))) else (some false))) = some r := H
                    have A34 := Aside0.mk A340
                    clear A340
                    replace H := Option.bind_eq_some_iff.mp H
                    obtain ⟨t269, A350, H⟩ := H
                    replace H : (if t268.toList = t269.toList then ((num_Cmp.f kj31 t257 t258).bind fun t270 => (if t270 = x15_31 then (if (t265 == (decide ((Go.bits .and .i64 a0 1099511627775) ≥ (Go.bits .and .i64 a1 1099511627775)))) = true then ((num_Of.f kj31 (mx (wrap64 ((Go.bits .and .i64 a0 1099511627775) - (Go.bits .and .i64 a1 1099511627775))) 0)).bind fun t271 => (if t264.toList = t271.toList then ((num_Times.f kj31 t257 (Go.bits .and .i64 a2 65535)).bind fun t272 => ((num_Of.f kj31 (wrap64 ((Go.bits .and .i64 a0 1099511627775) * (Go.bits .and .i64 a2 65535)))).bind fun t273 => (if t272.toList = t273.toList then (if (wrap64 ((Go.bits .and .i64 a2 65535) + 1)) = 0 then (none) else ((num_Of.f kj31 (wrap64 (Int.tdiv (Go.bits .and .i64 a0 1099511627775) (wrap64 ((Go.bits .and .i64 a2 65535) + 1))))).bind fun t274 => (if t266.toList = t274.toList then (some (t267 == (Int.tmod (Go.bits .and .i64 a0 1099511627775) (wrap64 ((Go.bits .and .i64 a2 65535) + 1))))) else (some false)))) else (some false)))) else (some false))) else (some false)) else (some false))) else (some false)) = some r := H
                    have A35 := Aside0.mk A350
                    clear A350
                    by_cases c36 : t268.toList = t269.toList
                    · rw [if_pos c36] at H
                      have c36b0 : (t268.toList == t269.toList) = true := beq_iff_eq.mpr c36
                      have c36b1 : (t268.toList != t269.toList) = false := bne_eq_false_iff_eq.mpr c36
                      clear c36
                      replace H := Option.bind_eq_some_iff.mp H
                      obtain ⟨t270, A370, H⟩ := H
                      replace H : (if t270 = x15_31 then (if (t265 == (decide ((Go.bits .and .i64 a0 1099511627775) ≥ (Go.bits .and .i64 a1 1099511627775)))) = true then ((num_Of.f kj31 (mx (wrap64 ((Go.bits .and .i64 a0 1099511627775) - (Go.bits .and .i64 a1 1099511627775))) 0)).bind fun t271 => (if t264.toList = t271.toList then ((num_Times.f kj31 t257 (Go.bits .and .i64 a2 65535)).bind fun t272 => ((num_Of.f kj31 (wrap64 ((Go.bits .and .i64 a0 1099511627775) * (Go.bits .and .i64 a2 65535)))).bind fun t273 => (if t272.toList = t273.toList then (if (wrap64 ((Go.bits .and .i64 a2 65535) + 1)) = 0 then (none) else ((num_Of.f kj31 (wrap64 (Int.tdiv (Go.bits .and .i64 a0 1099511627775) (wrap64 ((Go.bits .and .i64 a2 65535) + 1))))).bind fun t274 => (if t266.toList = t274.toList then (some (t267 == (Int.tmod (Go.bits .and .i64 a0 1099511627775) (wrap64 ((Go.bits .and .i64 a2 65535) + 1))))) else (some false)))) else (some false)))) else (some false))) else (some false)) else (some false)) = some r := H
                      have A37 := Aside0.mk A370
                      clear A370
                      by_cases c38 : t270 = x15_31
                      · rw [if_pos c38] at H
                        have c38b0 : (t270 == x15_31) = true := beq_iff_eq.mpr c38
                        have c38b1 : (t270 != x15_31) = false := bne_eq_false_iff_eq.mpr c38
                        clear c38
                        by_cases c39 : (t265 == (decide ((Go.bits .and .i64 a0 1099511627775) ≥ (Go.bits .and .i64 a1 1099511627775)))) = true
                        · rw [if_pos c39] at H
                          have c39b0 : (t265 == (decide ((Go.bits .and .i64 a0 1099511627775) ≥ (Go.bits .and .i64 a1 1099511627775)))) = true := c39
                          (try (have c39b1 : decide (t265 = (decide ((Go.bits .and .i64 a0 1099511627775) ≥ (Go.bits .and .i64 a1 1099511627775)))) = true := by simpa using c39))
                          (try (have c39b2 : (t265 == (decide ((Go.bits .and .i64 a0 1099511627775) ≥ (Go.bits .and .i64 a1 1099511627775)))) = true := by simpa using c39))
                          clear c39
                          obtain ⟨ji40, hji40⟩ : ∃ j_ : Int, (mx (wrap64 ((Go.bits .and .i64 a0 1099511627775) - (Go.bits .and .i64 a1 1099511627775))) 0) = j_ := ⟨_, rfl⟩
                          replace H : ((num_Of.f kj31 (ji40)).bind fun t271 => (if t264.toList = t271.toList then ((num_Times.f kj31 t257 (Go.bits .and .i64 a2 65535)).bind fun t272 => ((num_Of.f kj31 (wrap64 ((Go.bits .and .i64 a0 1099511627775) * (Go.bits .and .i64 a2 65535)))).bind fun t273 => (if t272.toList = t273.toList then (if (wrap64 ((Go.bits .and .i64 a2 65535) + 1)) = 0 then (none) else ((num_Of.f kj31 (wrap64 (Int.tdiv (Go.bits .and .i64 a0 1099511627775) (wrap64 ((Go.bits .and .i64 a2 65535) + 1))))).bind fun t274 => (if t266.toList = t274.toList then (some (t267 == (Int.tmod (Go.bits .and .i64 a0 1099511627775) (wrap64 ((Go.bits .and .i64 a2 65535) + 1))))) else (some false)))) else (some false)))) else (some false))) = some r := by first | (rw [hji40] at H; exact H) | (simp only [hji40] at H ⊢; exact H)
                          (try rw [hji40] at A34)
                          (try rw [hji40] at A35)
                          (try rw [hji40] at A37)
                          have hji40_ : (if (wrap64 ((Go.bits .and .i64 a0 1099511627775) - (Go.bits .and .i64 a1 1099511627775))) < 0 then 0 else (wrap64 ((Go.bits .and .i64 a0 1099511627775) - (Go.bits .and .i64 a1 1099511627775)))) = ji40 := hji40
                          replace H := Option.bind_eq_some_iff.mp H
                          obtain ⟨t271, A410, H⟩ := H
                          replace H : (if t264.toList = t271.toList then ((num_Times.f kj31 t257 (Go.bits .and .i64 a2 65535)).bind fun t272 => ((num_Of.f kj31 (wrap64 ((Go.bits .and .i64 a0 1099511627775) * (Go.bits .and .i64 a2 65535)))).bind fun t273 => (if t272.toList = t273.toList then (if (wrap64 ((Go.bits .and .i64 a2 65535) + 1)) = 0 then (none) else ((num_Of.f kj31 (wrap64 (Int.tdiv (Go.bits .and .i64 a0 1099511627775) (wrap64 ((Go.bits .and .i64 a2 65535) + 1))))).bind fun t274 => (if t266.toList = t274.toList then (some (t267 == (Int.tmod (Go.bits .and .i64 a0 1099511627775) (wrap64 ((Go.bits .and .i64 a2 65535) + 1))))) else (some false)))) else (some false)))) else (some false)) = some r := H
                          have A41 := Aside0.mk A410
                          clear A410
                          by_cases c42 : t264.toList = t271.toList
                          · rw [if_pos c42] at H
                            have c42b0 : (t264.toList == t271.toList) = true := beq_iff_eq.mpr c42
                            have c42b1 : (t264.toList != t271.toList) = false := bne_eq_false_iff_eq.mpr c42
                            clear c42
                            replace H := Option.bind_eq_some_iff.mp H
                            obtain ⟨t272, A430, H⟩ := H
                            replace H : ((num_Of.f kj31 (wrap64 ((Go.bits .and .i64 a0 1099511627775) * (Go.bits .and .i64 a2 65535)))).bind fun t273 => (if t272.toList = t273.toList then (if (wrap64 ((Go.bits .and .i64 a2 65535) + 1)) = 0 then (none) else ((num_Of.f kj31 (wrap64 (Int.tdiv (Go.bits .and .i64 a0 1099511627775) (wrap64 ((Go.bits .and .i64 a2 65535) + 1))))).bind fun t274 => (if t266.toList = t274.toList then (some (t267 == (Int.tmod (Go.bits .and .i64 a0 1099511627775) (wrap64 ((Go.bits .and .i64 a2 65535) + 1))))) else (some false)))) else (some false))) = some r := H
                            have A43 := Aside0.mk A430
                            clear A430
                            replace H := Option.bind_eq_some_iff.mp H
                            obtain ⟨t273, A440, H⟩ := H
                            replace H : (if t272.toList = t273.toList then (if (wrap64 ((Go.bits .and .i64 a2 65535) + 1)) = 0 then (none) else ((num_Of.f kj31 (wrap64 (Int.tdiv (Go.bits .and .i64 a0 1099511627775) (wrap64 ((Go.bits .and .i64 a2 65535) + 1))))).bind fun t274 => (if t266.toList = t274.toList then (some (t267 == (Int.tmod (Go.bits .and .i64 a0 1099511627775) (wrap64 ((Go.bits .and .i64 a2 65535) + 1))))) else (some false)))) else (some false)) = some r := H
                            have A44 := Aside0.mk A440
                            clear A440
                            by_cases c45 : t272.toList = t273.toList
                            · rw [if_pos c45] at H
                              have c45b0 : (t272.toList == t273.toList) = true := beq_iff_eq.mpr c45
                              have c45b1 : (t272.toList != t273.toList) = false := bne_eq_false_iff_eq.mpr c45
                              clear c45
                              by_cases c46 : (wrap64 ((Go.bits .and .i64 a2 65535) + 1)) = 0
                              · rw [if_pos c46] at H
                                exact absurd H (by simp)
                              · rw [if_neg c46] at H
                                have c46b0 : ((wrap64 ((Go.bits .and .i64 a2 65535) + 1)) == 0) = false := beq_eq_false_iff_ne.mpr c46
                                have c46b1 : ((wrap64 ((Go.bits .and .i64 a2 65535) + 1)) != 0) = true := bne_iff_ne.mpr c46
                                replace H := Option.bind_eq_some_iff.mp H
                                obtain ⟨t274, A470, H⟩ := H
                                replace H : (if t266.toList = t274.toList then (some (t267 == (Int.tmod (Go.bits .and .i64 a0 1099511627775) (wrap64 ((Go.bits .and .i64 a2 65535) + 1))))) else (some false)) = some r := H
                                have A47 := Aside0.mk A470
                                clear A470
                                by_cases c48 : t266.toList = t274.toList
                                · rw [if_pos c48] at H
                                  have c48b0 : (t266.toList == t274.toList) = true := beq_iff_eq.mpr c48
                                  have c48b1 : (t266.toList != t274.toList) = false := bne_eq_false_iff_eq.mpr c48
                                  clear c48
                                  obtain rfl := Option.some.inj H
                                  go_wp2_with (first | ((with_reducible refine gate_callee (f := 16) rfl ?_); refine goesL_ (some 76) rfl rfl Tryd.func16 (by kernel_rfl) rfl #[.string t257, .string t258] rfl (by (try simp only [List.map_toArray, List.map_cons, List.map_nil]); first | done | rfl | (simp only [List.length_drop, List.length_take]; rfl)) ?_; (with_reducible refine (num_Add.calls kj31 t257 t258 t268 _ A34.out).mono ?_); rintro e w49 ⟨rfl, hb⟩; refine ⟨_, rfl, ?_⟩; have n0_ := Aside0.mk (below_step (by repeat (first | (with_reducible first | exact HB.out | apply below_alloc | apply pw_below_drewN | apply below_drew1) | exact HB.out)) hb); clear HB; have HB := n0_; clear n0_; (try clear hb); (try clear hb2); (try clear hk); (try clear hi)) | ((with_reducible refine gate_callee (f := 18) rfl ?_); refine goesL_ (some 80) rfl rfl Tryd.func18 (by kernel_rfl) rfl #[.int .i64 (wrap64 ((Go.bits .and .i64 a0 1099511627775) + (Go.bits .and .i64 a1 1099511627775)))] rfl (by (try simp only [List.map_toArray, List.map_cons, List.map_nil]); first | done | rfl | (simp only [List.length_drop, List.length_take]; rfl)) ?_; (with_reducible refine (num_Of.calls kj31 (wrap64 ((Go.bits .and .i64 a0 1099511627775) + (Go.bits .and .i64 a1 1099511627775))) t269 _ A35.out).mono ?_); rintro e w50 ⟨rfl, hb⟩; refine ⟨_, rfl, ?_⟩; have n0_ := Aside0.mk (below_step (by repeat (first | (with_reducible first | exact HB.out | apply below_alloc | apply pw_below_drewN | apply below_drew1) | exact HB.out)) hb); clear HB; have HB := n0_; clear n0_; (try clear hb); (try clear hb2); (try clear hk); (try clear hi)) | (go_at_call 23; (with_reducible refine (num_Cmp.calls kj31 t257 t258 t270 _ A37.out).mono ?_); rintro e w51 ⟨rfl, hb⟩; have n0_ := Aside0.mk (below_step (by repeat (first | (with_reducible first | exact HB.out | apply below_alloc | apply pw_below_drewN | apply below_drew1) | exact HB.out)) hb); clear HB; have HB := n0_; clear n0_; (try clear hb); (try clear hb2); (try clear hk); (try clear hi)) | (go_at_call 18; (with_reducible refine (num_Of.calls kj31 ji40 t271 _ A41.out).mono ?_); rintro e w52 ⟨rfl, hb⟩; have n0_ := Aside0.mk (below_step (by repeat (first | (with_reducible first | exact HB.out | apply below_alloc | apply pw_below_drewN | apply below_drew1) | exact HB.out)) hb); clear HB; have HB := n0_; clear n0_; (try clear hb); (try clear hb2); (try clear hk); (try clear hi)) | (go_at_call 14; (with_reducible refine (num_Times.calls kj31 t257 (Go.bits .and .i64 a2 65535) t272 _ A43.out).mono ?_); rintro e w53 ⟨rfl, hb⟩; have n0_ := Aside0.mk (below_step (by repeat (first | (with_reducible first | exact HB.out | apply below_alloc | apply pw_below_drewN | apply below_drew1) | exact HB.out)) hb); clear HB; have HB := n0_; clear n0_; (try clear hb); (try clear hb2); (try clear hk); (try clear hi)) | (go_at_call 18; (with_reducible refine (num_Of.calls kj31 (wrap64 ((Go.bits .and .i64 a0 1099511627775) * (Go.bits .and .i64 a2 65535))) t273 _ A44.out).mono ?_); rintro e w54 ⟨rfl, hb⟩; have n0_ := Aside0.mk (below_step (by repeat (first | (with_reducible first | exact HB.out | apply below_alloc | apply pw_below_drewN | apply below_drew1) | exact HB.out)) hb); clear HB; have HB := n0_; clear n0_; (try clear hb); (try clear hb2); (try clear hk); (try clear hi)) | (go_at_call 18; (with_reducible refine (num_Of.calls kj31 (wrap64 (Int.tdiv (Go.bits .and .i64 a0 1099511627775) (wrap64 ((Go.bits .and .i64 a2 65535) + 1)))) t274 _ A47.out).mono ?_); rintro e w55 ⟨rfl, hb⟩; have n0_ := Aside0.mk (below_step (by repeat (first | (with_reducible first | exact HB.out | apply below_alloc | apply pw_below_drewN | apply below_drew1) | exact HB.out)) hb); clear HB; have HB := n0_; clear n0_; (try clear hb); (try clear hb2); (try clear hk); (try clear hi)))
                                  go_ret
                                  exact ⟨by first | rfl | (simp [errW_none, errW_some] <;> rfl) | (simp only [← hji40]; first | rfl | (simp [errW_none, errW_some] <;> rfl)) | (simp [*, errW_none, errW_some] <;> rfl), by repeat (first | (with_reducible first | exact HB.out | apply below_alloc | apply pw_below_drewN | apply below_drew1) | exact HB.out)⟩
                                · rw [if_neg c48] at H
                                  have c48b0 : (t266.toList == t274.toList) = false := beq_eq_false_iff_ne.mpr c48
                                  have c48b1 : (t266.toList != t274.toList) = true := bne_iff_ne.mpr c48
                                  obtain rfl := Option.some.inj H
                                  go_wp2_with (first | ((with_reducible refine gate_callee (f := 16) rfl ?_); refine goesL_ (some 76) rfl rfl Tryd.func16 (by kernel_rfl) rfl #[.string t257, .string t258] rfl (by (try simp only [List.map_toArray, List.map_cons, List.map_nil]); first | done | rfl | (simp only [List.length_drop, List.length_take]; rfl)) ?_; (with_reducible refine (num_Add.calls kj31 t257 t258 t268 _ A34.out).mono ?_); rintro e w56 ⟨rfl, hb⟩; refine ⟨_, rfl, ?_⟩; have n0_ := Aside0.mk (below_step (by repeat (first | (with_reducible first | exact HB.out | apply below_alloc | apply pw_below_drewN | apply below_drew1) | exact HB.out)) hb); clear HB; have HB := n0_; clear n0_; (try clear hb); (try clear hb2); (try clear hk); (try clear hi)) | ((with_reducible refine gate_callee (f := 18) rfl ?_); refine goesL_ (some 80) rfl rfl Tryd.func18 (by kernel_rfl) rfl #[.int .i64 (wrap64 ((Go.bits .and .i64 a0 1099511627775) + (Go.bits .and .i64 a1 1099511627775)))] rfl (by (try simp only [List.map_toArray, List.map_cons, List.map_nil]); first | done | rfl | (simp only [List.length_drop, List.length_take]; rfl)) ?_; (with_reducible refine (num_Of.calls kj31 (wrap64 ((Go.bits .and .i64 a0 1099511627775) + (Go.bits .and .i64 a1 1099511627775))) t269 _ A35.out).mono ?_); rintro e w57 ⟨rfl, hb⟩; refine ⟨_, rfl, ?_⟩; have n0_ := Aside0.mk (below_step (by repeat (first | (with_reducible first | exact HB.out | apply below_alloc | apply pw_below_drewN | apply below_drew1) | exact HB.out)) hb); clear HB; have HB := n0_; clear n0_; (try clear hb); (try clear hb2); (try clear hk); (try clear hi)) | (go_at_call 23; (with_reducible refine (num_Cmp.calls kj31 t257 t258 t270 _ A37.out).mono ?_); rintro e w58 ⟨rfl, hb⟩; have n0_ := Aside0.mk (below_step (by repeat (first | (with_reducible first | exact HB.out | apply below_alloc | apply pw_below_drewN | apply below_drew1) | exact HB.out)) hb); clear HB; have HB := n0_; clear n0_; (try clear hb); (try clear hb2); (try clear hk); (try clear hi)) | (go_at_call 18; (with_reducible refine (num_Of.calls kj31 ji40 t271 _ A41.out).mono ?_); rintro e w59 ⟨rfl, hb⟩; have n0_ := Aside0.mk (below_step (by repeat (first | (with_reducible first | exact HB.out | apply below_alloc | apply pw_below_drewN | apply below_drew1) | exact HB.out)) hb); clear HB; have HB := n0_; clear n0_; (try clear hb); (try clear hb2); (try clear hk); (try clear hi)) | (go_at_call 14; (with_reducible refine (num_Times.calls kj31 t257 (Go.bits .and .i64 a2 65535) t272 _ A43.out).mono ?_); rintro e w60 ⟨rfl, hb⟩; have n0_ := Aside0.mk (below_step (by repeat (first | (with_reducible first | exact HB.out | apply below_alloc | apply pw_below_drewN | apply below_drew1) | exact HB.out)) hb); clear HB; have HB := n0_; clear n0_; (try clear hb); (try clear hb2); (try clear hk); (try clear hi)) | (go_at_call 18; (with_reducible refine (num_Of.calls kj31 (wrap64 ((Go.bits .and .i64 a0 1099511627775) * (Go.bits .and .i64 a2 65535))) t273 _ A44.out).mono ?_); rintro e w61 ⟨rfl, hb⟩; have n0_ := Aside0.mk (below_step (by repeat (first | (with_reducible first | exact HB.out | apply below_alloc | apply pw_below_drewN | apply below_drew1) | exact HB.out)) hb); clear HB; have HB := n0_; clear n0_; (try clear hb); (try clear hb2); (try clear hk); (try clear hi)) | (go_at_call 18; (with_reducible refine (num_Of.calls kj31 (wrap64 (Int.tdiv (Go.bits .and .i64 a0 1099511627775) (wrap64 ((Go.bits .and .i64 a2 65535) + 1)))) t274 _ A47.out).mono ?_); rintro e w62 ⟨rfl, hb⟩; have n0_ := Aside0.mk (below_step (by repeat (first | (with_reducible first | exact HB.out | apply below_alloc | apply pw_below_drewN | apply below_drew1) | exact HB.out)) hb); clear HB; have HB := n0_; clear n0_; (try clear hb); (try clear hb2); (try clear hk); (try clear hi)))
                                  go_ret
                                  exact ⟨by first | rfl | (simp [errW_none, errW_some] <;> rfl) | (simp only [← hji40]; first | rfl | (simp [errW_none, errW_some] <;> rfl)) | (simp [*, errW_none, errW_some] <;> rfl), by repeat (first | (with_reducible first | exact HB.out | apply below_alloc | apply pw_below_drewN | apply below_drew1) | exact HB.out)⟩
                            · rw [if_neg c45] at H
                              have c45b0 : (t272.toList == t273.toList) = false := beq_eq_false_iff_ne.mpr c45
                              have c45b1 : (t272.toList != t273.toList) = true := bne_iff_ne.mpr c45
                              obtain rfl := Option.some.inj H
                              go_wp2_with (first | ((with_reducible refine gate_callee (f := 16) rfl ?_); refine goesL_ (some 76) rfl rfl Tryd.func16 (by kernel_rfl) rfl #[.string t257, .string t258] rfl (by (try simp only [List.map_toArray, List.map_cons, List.map_nil]); first | done | rfl | (simp only [List.length_drop, List.length_take]; rfl)) ?_; (with_reducible refine (num_Add.calls kj31 t257 t258 t268 _ A34.out).mono ?_); rintro e w63 ⟨rfl, hb⟩; refine ⟨_, rfl, ?_⟩; have n0_ := Aside0.mk (below_step (by repeat (first | (with_reducible first | exact HB.out | apply below_alloc | apply pw_below_drewN | apply below_drew1) | exact HB.out)) hb); clear HB; have HB := n0_; clear n0_; (try clear hb); (try clear hb2); (try clear hk); (try clear hi)) | ((with_reducible refine gate_callee (f := 18) rfl ?_); refine goesL_ (some 80) rfl rfl Tryd.func18 (by kernel_rfl) rfl #[.int .i64 (wrap64 ((Go.bits .and .i64 a0 1099511627775) + (Go.bits .and .i64 a1 1099511627775)))] rfl (by (try simp only [List.map_toArray, List.map_cons, List.map_nil]); first | done | rfl | (simp only [List.length_drop, List.length_take]; rfl)) ?_; (with_reducible refine (num_Of.calls kj31 (wrap64 ((Go.bits .and .i64 a0 1099511627775) + (Go.bits .and .i64 a1 1099511627775))) t269 _ A35.out).mono ?_); rintro e w64 ⟨rfl, hb⟩; refine ⟨_, rfl, ?_⟩; have n0_ := Aside0.mk (below_step (by repeat (first | (with_reducible first | exact HB.out | apply below_alloc | apply pw_below_drewN | apply below_drew1) | exact HB.out)) hb); clear HB; have HB := n0_; clear n0_; (try clear hb); (try clear hb2); (try clear hk); (try clear hi)) | (go_at_call 23; (with_reducible refine (num_Cmp.calls kj31 t257 t258 t270 _ A37.out).mono ?_); rintro e w65 ⟨rfl, hb⟩; have n0_ := Aside0.mk (below_step (by repeat (first | (with_reducible first | exact HB.out | apply below_alloc | apply pw_below_drewN | apply below_drew1) | exact HB.out)) hb); clear HB; have HB := n0_; clear n0_; (try clear hb); (try clear hb2); (try clear hk); (try clear hi)) | (go_at_call 18; (with_reducible refine (num_Of.calls kj31 ji40 t271 _ A41.out).mono ?_); rintro e w66 ⟨rfl, hb⟩; have n0_ := Aside0.mk (below_step (by repeat (first | (with_reducible first | exact HB.out | apply below_alloc | apply pw_below_drewN | apply below_drew1) | exact HB.out)) hb); clear HB; have HB := n0_; clear n0_; (try clear hb); (try clear hb2); (try clear hk); (try clear hi)) | (go_at_call 14; (with_reducible refine (num_Times.calls kj31 t257 (Go.bits .and .i64 a2 65535) t272 _ A43.out).mono ?_); rintro e w67 ⟨rfl, hb⟩; have n0_ := Aside0.mk (below_step (by repeat (first | (with_reducible first | exact HB.out | apply below_alloc | apply pw_below_drewN | apply below_drew1) | exact HB.out)) hb); clear HB; have HB := n0_; clear n0_; (try clear hb); (try clear hb2); (try clear hk); (try clear hi)) | (go_at_call 18; (with_reducible refine (num_Of.calls kj31 (wrap64 ((Go.bits .and .i64 a0 1099511627775) * (Go.bits .and .i64 a2 65535))) t273 _ A44.out).mono ?_); rintro e w68 ⟨rfl, hb⟩; have n0_ := Aside0.mk (below_step (by repeat (first | (with_reducible first | exact HB.out | apply below_alloc | apply pw_below_drewN | apply below_drew1) | exact HB.out)) hb); clear HB; have HB := n0_; clear n0_; (try clear hb); (try clear hb2); (try clear hk); (try clear hi)))
                              go_ret
                              exact ⟨by first | rfl | (simp [errW_none, errW_some] <;> rfl) | (simp only [← hji40]; first | rfl | (simp [errW_none, errW_some] <;> rfl)) | (simp [*, errW_none, errW_some] <;> rfl), by repeat (first | (with_reducible first | exact HB.out | apply below_alloc | apply pw_below_drewN | apply below_drew1) | exact HB.out)⟩
                          · rw [if_neg c42] at H
                            have c42b0 : (t264.toList == t271.toList) = false := beq_eq_false_iff_ne.mpr c42
                            have c42b1 : (t264.toList != t271.toList) = true := bne_iff_ne.mpr c42
                            obtain rfl := Option.some.inj H
                            go_wp2_with (first | ((with_reducible refine gate_callee (f := 16) rfl ?_); refine goesL_ (some 76) rfl rfl Tryd.func16 (by kernel_rfl) rfl #[.string t257, .string t258] rfl (by (try simp only [List.map_toArray, List.map_cons, List.map_nil]); first | done | rfl | (simp only [List.length_drop, List.length_take]; rfl)) ?_; (with_reducible refine (num_Add.calls kj31 t257 t258 t268 _ A34.out).mono ?_); rintro e w69 ⟨rfl, hb⟩; refine ⟨_, rfl, ?_⟩; have n0_ := Aside0.mk (below_step (by repeat (first | (with_reducible first | exact HB.out | apply below_alloc | apply pw_below_drewN | apply below_drew1) | exact HB.out)) hb); clear HB; have HB := n0_; clear n0_; (try clear hb); (try clear hb2); (try clear hk); (try clear hi)) | ((with_reducible refine gate_callee (f := 18) rfl ?_); refine goesL_ (some 80) rfl rfl Tryd.func18 (by kernel_rfl) rfl #[.int .i64 (wrap64 ((Go.bits .and .i64 a0 1099511627775) + (Go.bits .and .i64 a1 1099511627775)))] rfl (by (try simp only [List.map_toArray, List.map_cons, List.map_nil]); first | done | rfl | (simp only [List.length_drop, List.length_take]; rfl)) ?_; (with_reducible refine (num_Of.calls kj31 (wrap64 ((Go.bits .and .i64 a0 1099511627775) + (Go.bits .and .i64 a1 1099511627775))) t269 _ A35.out).mono ?_); rintro e w70 ⟨rfl, hb⟩; refine ⟨_, rfl, ?_⟩; have n0_ := Aside0.mk (below_step (by repeat (first | (with_reducible first | exact HB.out | apply below_alloc | apply pw_below_drewN | apply below_drew1) | exact HB.out)) hb); clear HB; have HB := n0_; clear n0_; (try clear hb); (try clear hb2); (try clear hk); (try clear hi)) | (go_at_call 23; (with_reducible refine (num_Cmp.calls kj31 t257 t258 t270 _ A37.out).mono ?_); rintro e w71 ⟨rfl, hb⟩; have n0_ := Aside0.mk (below_step (by repeat (first | (with_reducible first | exact HB.out | apply below_alloc | apply pw_below_drewN | apply below_drew1) | exact HB.out)) hb); clear HB; have HB := n0_; clear n0_; (try clear hb); (try clear hb2); (try clear hk); (try clear hi)) | (go_at_call 18; (with_reducible refine (num_Of.calls kj31 ji40 t271 _ A41.out).mono ?_); rintro e w72 ⟨rfl, hb⟩; have n0_ := Aside0.mk (below_step (by repeat (first | (with_reducible first | exact HB.out | apply below_alloc | apply pw_below_drewN | apply below_drew1) | exact HB.out)) hb); clear HB; have HB := n0_; clear n0_; (try clear hb); (try clear hb2); (try clear hk); (try clear hi)))
                            go_ret
                            exact ⟨by first | rfl | (simp [errW_none, errW_some] <;> rfl) | (simp only [← hji40]; first | rfl | (simp [errW_none, errW_some] <;> rfl)) | (simp [*, errW_none, errW_some] <;> rfl), by repeat (first | (with_reducible first | exact HB.out | apply below_alloc | apply pw_below_drewN | apply below_drew1) | exact HB.out)⟩
                        · rw [if_neg c39] at H
                          have c39b0 : (t265 == (decide ((Go.bits .and .i64 a0 1099511627775) ≥ (Go.bits .and .i64 a1 1099511627775)))) = false := by simpa using c39
                          (try (have c39b1 : decide (t265 = (decide ((Go.bits .and .i64 a0 1099511627775) ≥ (Go.bits .and .i64 a1 1099511627775)))) = false := by simpa using c39))
                          (try (have c39b2 : (t265 == (decide ((Go.bits .and .i64 a0 1099511627775) ≥ (Go.bits .and .i64 a1 1099511627775)))) = false := by simpa using c39))
                          (try (have c39b3 : ¬ (t265 = (decide ((Go.bits .and .i64 a0 1099511627775) ≥ (Go.bits .and .i64 a1 1099511627775)))) := by simpa using c39))
                          clear c39
                          obtain rfl := Option.some.inj H
                          go_wp2_with (first | ((with_reducible refine gate_callee (f := 16) rfl ?_); refine goesL_ (some 76) rfl rfl Tryd.func16 (by kernel_rfl) rfl #[.string t257, .string t258] rfl (by (try simp only [List.map_toArray, List.map_cons, List.map_nil]); first | done | rfl | (simp only [List.length_drop, List.length_take]; rfl)) ?_; (with_reducible refine (num_Add.calls kj31 t257 t258 t268 _ A34.out).mono ?_); rintro e w73 ⟨rfl, hb⟩; refine ⟨_, rfl, ?_⟩; have n0_ := Aside0.mk (below_step (by repeat (first | (with_reducible first | exact HB.out | apply below_alloc | apply pw_below_drewN | apply below_drew1) | exact HB.out)) hb); clear HB; have HB := n0_; clear n0_; (try clear hb); (try clear hb2); (try clear hk); (try clear hi)) | ((with_reducible refine gate_callee (f := 18) rfl ?_); refine goesL_ (some 80) rfl rfl Tryd.func18 (by kernel_rfl) rfl #[.int .i64 (wrap64 ((Go.bits .and .i64 a0 1099511627775) + (Go.bits .and .i64 a1 1099511627775)))] rfl (by (try simp only [List.map_toArray, List.map_cons, List.map_nil]); first | done | rfl | (simp only [List.length_drop, List.length_take]; rfl)) ?_; (with_reducible refine (num_Of.calls kj31 (wrap64 ((Go.bits .and .i64 a0 1099511627775) + (Go.bits .and .i64 a1 1099511627775))) t269 _ A35.out).mono ?_); rintro e w74 ⟨rfl, hb⟩; refine ⟨_, rfl, ?_⟩; have n0_ := Aside0.mk (below_step (by repeat (first | (with_reducible first | exact HB.out | apply below_alloc | apply pw_below_drewN | apply below_drew1) | exact HB.out)) hb); clear HB; have HB := n0_; clear n0_; (try clear hb); (try clear hb2); (try clear hk); (try clear hi)) | (go_at_call 23; (with_reducible refine (num_Cmp.calls kj31 t257 t258 t270 _ A37.out).mono ?_); rintro e w75 ⟨rfl, hb⟩; have n0_ := Aside0.mk (below_step (by repeat (first | (with_reducible first | exact HB.out | apply below_alloc | apply pw_below_drewN | apply below_drew1) | exact HB.out)) hb); clear HB; have HB := n0_; clear n0_; (try clear hb); (try clear hb2); (try clear hk); (try clear hi)))
                          go_ret
                          exact ⟨by first | rfl | (simp [errW_none, errW_some] <;> rfl) | (simp [*, errW_none, errW_some] <;> rfl), by repeat (first | (with_reducible first | exact HB.out | apply below_alloc | apply pw_below_drewN | apply below_drew1) | exact HB.out)⟩
                      · rw [if_neg c38] at H
                        have c38b0 : (t270 == x15_31) = false := beq_eq_false_iff_ne.mpr c38
                        have c38b1 : (t270 != x15_31) = true := bne_iff_ne.mpr c38
                        obtain rfl := Option.some.inj H
                        go_wp2_with (first | ((with_reducible refine gate_callee (f := 16) rfl ?_); refine goesL_ (some 76) rfl rfl Tryd.func16 (by kernel_rfl) rfl #[.string t257, .string t258] rfl (by (try simp only [List.map_toArray, List.map_cons, List.map_nil]); first | done | rfl | (simp only [List.length_drop, List.length_take]; rfl)) ?_; (with_reducible refine (num_Add.calls kj31 t257 t258 t268 _ A34.out).mono ?_); rintro e w76 ⟨rfl, hb⟩; refine ⟨_, rfl, ?_⟩; have n0_ := Aside0.mk (below_step (by repeat (first | (with_reducible first | exact HB.out | apply below_alloc | apply pw_below_drewN | apply below_drew1) | exact HB.out)) hb); clear HB; have HB := n0_; clear n0_; (try clear hb); (try clear hb2); (try clear hk); (try clear hi)) | ((with_reducible refine gate_callee (f := 18) rfl ?_); refine goesL_ (some 80) rfl rfl Tryd.func18 (by kernel_rfl) rfl #[.int .i64 (wrap64 ((Go.bits .and .i64 a0 1099511627775) + (Go.bits .and .i64 a1 1099511627775)))] rfl (by (try simp only [List.map_toArray, List.map_cons, List.map_nil]); first | done | rfl | (simp only [List.length_drop, List.length_take]; rfl)) ?_; (with_reducible refine (num_Of.calls kj31 (wrap64 ((Go.bits .and .i64 a0 1099511627775) + (Go.bits .and .i64 a1 1099511627775))) t269 _ A35.out).mono ?_); rintro e w77 ⟨rfl, hb⟩; refine ⟨_, rfl, ?_⟩; have n0_ := Aside0.mk (below_step (by repeat (first | (with_reducible first | exact HB.out | apply below_alloc | apply pw_below_drewN | apply below_drew1) | exact HB.out)) hb); clear HB; have HB := n0_; clear n0_; (try clear hb); (try clear hb2); (try clear hk); (try clear hi)) | (go_at_call 23; (with_reducible refine (num_Cmp.calls kj31 t257 t258 t270 _ A37.out).mono ?_); rintro e w78 ⟨rfl, hb⟩; have n0_ := Aside0.mk (below_step (by repeat (first | (with_reducible first | exact HB.out | apply below_alloc | apply pw_below_drewN | apply below_drew1) | exact HB.out)) hb); clear HB; have HB := n0_; clear n0_; (try clear hb); (try clear hb2); (try clear hk); (try clear hi)))
                        go_ret
                        exact ⟨by first | rfl | (simp [errW_none, errW_some] <;> rfl) | (simp [*, errW_none, errW_some] <;> rfl), by repeat (first | (with_reducible first | exact HB.out | apply below_alloc | apply pw_below_drewN | apply below_drew1) | exact HB.out)⟩
                    · rw [if_neg c36] at H
                      have c36b0 : (t268.toList == t269.toList) = false := beq_eq_false_iff_ne.mpr c36
                      have c36b1 : (t268.toList != t269.toList) = true := bne_iff_ne.mpr c36
                      obtain rfl := Option.some.inj H
                      go_wp2_with (first | ((with_reducible refine gate_callee (f := 16) rfl ?_); refine goesL_ (some 76) rfl rfl Tryd.func16 (by kernel_rfl) rfl #[.string t257, .string t258] rfl (by (try simp only [List.map_toArray, List.map_cons, List.map_nil]); first | done | rfl | (simp only [List.length_drop, List.length_take]; rfl)) ?_; (with_reducible refine (num_Add.calls kj31 t257 t258 t268 _ A34.out).mono ?_); rintro e w79 ⟨rfl, hb⟩; refine ⟨_, rfl, ?_⟩; have n0_ := Aside0.mk (below_step (by repeat (first | (with_reducible first | exact HB.out | apply below_alloc | apply pw_below_drewN | apply below_drew1) | exact HB.out)) hb); clear HB; have HB := n0_; clear n0_; (try clear hb); (try clear hb2); (try clear hk); (try clear hi)) | ((with_reducible refine gate_callee (f := 18) rfl ?_); refine goesL_ (some 80) rfl rfl Tryd.func18 (by kernel_rfl) rfl #[.int .i64 (wrap64 ((Go.bits .and .i64 a0 1099511627775) + (Go.bits .and .i64 a1 1099511627775)))] rfl (by (try simp only [List.map_toArray, List.map_cons, List.map_nil]); first | done | rfl | (simp only [List.length_drop, List.length_take]; rfl)) ?_; (with_reducible refine (num_Of.calls kj31 (wrap64 ((Go.bits .and .i64 a0 1099511627775) + (Go.bits .and .i64 a1 1099511627775))) t269 _ A35.out).mono ?_); rintro e w80 ⟨rfl, hb⟩; refine ⟨_, rfl, ?_⟩; have n0_ := Aside0.mk (below_step (by repeat (first | (with_reducible first | exact HB.out | apply below_alloc | apply pw_below_drewN | apply below_drew1) | exact HB.out)) hb); clear HB; have HB := n0_; clear n0_; (try clear hb); (try clear hb2); (try clear hk); (try clear hi)))
                      go_ret
                      exact ⟨by first | rfl | (simp [errW_none, errW_some] <;> rfl) | (simp [*, errW_none, errW_some] <;> rfl), by repeat (first | (with_reducible first | exact HB.out | apply below_alloc | apply pw_below_drewN | apply below_drew1) | exact HB.out)⟩
    · rw [if_neg c8] at H
      exact absurd H (by simp)
  · replace c5 := Bool.eq_false_iff.mpr c5
    subst c5
    have H1 : (some false) = some r := by rw [if_neg (show ¬ (false = true) by decide)] at H; exact H
    clear H
    have H := H1
    clear H1
    obtain rfl := Option.some.inj H
    go_enter Tryd.func9, Tryd.ntmps9
    go_wp2_with (first | ((with_reducible refine gate_callee (f := 12) rfl ?_); refine goesL_ (some 16) rfl rfl Tryd.func12 (by kernel_rfl) rfl #[] rfl (by (try simp only [List.map_toArray, List.map_cons, List.map_nil]); first | done | rfl | (simp only [List.length_drop, List.length_take]; rfl)) ?_; (with_reducible refine (florinlaw01_head.calls k  false _ A4.out).mono ?_); rintro e w81 ⟨rfl, hb⟩; refine ⟨_, rfl, ?_⟩; have n0_ := Aside0.mk (below_step (by repeat (first | (with_reducible first | exact HB.out | apply below_alloc | apply pw_below_drewN | apply below_drew1) | exact HB.out)) hb); clear HB; have HB := n0_; clear n0_; (try clear hb); (try clear hb2); (try clear hk); (try clear hi)))
    go_ret
    exact ⟨by first | rfl | (simp [errW_none, errW_some] <;> rfl) | (simp [*, errW_none, errW_some] <;> rfl), by repeat (first | (with_reducible first | exact HB.out | apply below_alloc | apply pw_below_drewN | apply below_drew1) | exact HB.out)⟩

/-- THE ONE PURE STATEMENT of florinlaw01_NumSmall: yours. -/
def florinlaw01_NumSmall.Pure : Prop := ∀ (a0 : Int) (a1 : Int) (a2 : Int), (Lit.int .i64 a0).wf = true → (Lit.int .i64 a1).wf = true → (Lit.int .i64 a2).wf = true → ∃ k, florinlaw01_NumSmall.f k a0 a1 a2 = some true
theorem florinlaw01_NumSmall.walk (P : florinlaw01_NumSmall.Pure) (a0 : Int) (a1 : Int) (a2 : Int) (w : World) (w0 : (Lit.int .i64 a0).wf = true) (w1 : (Lit.int .i64 a1).wf = true) (w2 : (Lit.int .i64 a2).wf = true) :
    Calls Tryd.prog 9 #[.int .i64 a0, .int .i64 a1, .int .i64 a2] w fun e w' => e = .returned (.bool true) ∧ Below w.heap.size w w' := by
  obtain ⟨k, h⟩ := P a0 a1 a2 w0 w1 w2
  refine (florinlaw01_NumSmall.calls k a0 a1 a2 true w h).mono ?_
  rintro e w' ⟨rfl, hd⟩
  exact ⟨rfl, hd⟩

/-! ### strings_Repeat: function 34 -/
def strings_Repeat.f (a : ByteArray) (n : Int) : Option ByteArray := if 0 ≤ n ∧ n ≤ 9223372036854775807 ∧ a.size * n.toNat ≤ 140737488355328 then some ⟨(Lib.repeatL a.data.toList n.toNat).toArray⟩ else none
theorem strings_Repeat.calls (a0 : ByteArray) (a1 : Int) (r : ByteArray) (w : World) (h : strings_Repeat.f a0 a1 = some r) :
    Calls Tryd.prog 34 #[.string a0, .int .i64 a1] w fun e w' => e = .returned (.string r) ∧ Below w.heap.size w w' := by
  unfold strings_Repeat.f at h
  split at h
  · rename_i hc
    obtain rfl := Option.some.inj h
    obtain ⟨n, rfl⟩ : ∃ n : Nat, a1 = n := ⟨a1.toNat, by omega⟩
    exact Tryd.strings_Repeat a0 n w (by omega) (by simpa using hc.2.2)
  · cases h

/-! ### num_Zeros: function 25 -/
def num_Zeros.f (a0 : Int) : Option (ByteArray) := (strings_Repeat.f (⟨#[48]⟩ : ByteArray) (mn (mx a0 0) 60000)).bind fun t275 => (some t275)
set_option maxHeartbeats 8000000 in
set_option maxRecDepth 100000 in
theorem num_Zeros.calls (a0 : Int) (r : ByteArray) (w : World) (h : num_Zeros.f a0 = some r) :
    Calls Tryd.prog 25 #[.int .i64 a0] w fun e w' => e = .returned (.string r) ∧ Below w.heap.size w w' := by
  have HB := Aside0.mk (Below.refl w.heap.size w)
  have H : ((strings_Repeat.f (⟨#[48]⟩ : ByteArray) (mn (mx a0 0) 60000)).bind fun t275 => (some t275)) = some r := h
  clear h
  obtain ⟨ji2, hji2⟩ : ∃ j_ : Int, (mx a0 0) = j_ := ⟨_, rfl⟩
  replace H : ((strings_Repeat.f (⟨#[48]⟩ : ByteArray) (mn (ji2) 60000)).bind fun t275 => (some t275)) = some r := by first | (rw [hji2] at H; exact H) | (simp only [hji2] at H ⊢; exact H)
  (try (have hji2l : 0 ≤ ji2 := by (rw [← hji2]; unfold mx; (repeat' split) <;> omega)))
  (try (have hji2m : 0 ≤ ji2 := by omega))
  have hji2_ : (if a0 < 0 then 0 else a0) = ji2 := hji2
  obtain ⟨ji3, hji3⟩ : ∃ j_ : Int, (mn (ji2) 60000) = j_ := ⟨_, rfl⟩
  replace H : ((strings_Repeat.f (⟨#[48]⟩ : ByteArray) (ji3)).bind fun t275 => (some t275)) = some r := by first | (rw [hji3] at H; exact H) | (simp only [hji3] at H ⊢; exact H)
  have hji3_ : (if 60000 < (ji2) then 60000 else (ji2)) = ji3 := hji3
  replace H := Option.bind_eq_some_iff.mp H
  obtain ⟨t275, A40, H⟩ := H
  replace H : (some t275) = some r := H
  have A4 := Aside0.mk A40
  clear A40
  obtain rfl := Option.some.inj H
  go_enter Tryd.func25, Tryd.ntmps25
  go_wp2_with (first | ((with_reducible refine gate_callee (f := 34) rfl ?_); refine goesL_ (some 6) rfl rfl Tryd.func34 (by kernel_rfl) rfl #[.string (⟨#[48]⟩ : ByteArray), .int .i64 ji3] rfl (by (try simp only [List.map_toArray, List.map_cons, List.map_nil]); first | done | (simp only [hji3]; rfl) | rfl | (simp only [List.length_drop, List.length_take]; rfl)) ?_; (with_reducible refine (strings_Repeat.calls (⟨#[48]⟩ : ByteArray) ji3 t275 _ A4.out).mono ?_); rintro e w5 ⟨rfl, hb⟩; refine ⟨_, rfl, ?_⟩; have n0_ := Aside0.mk (below_step (by repeat (first | (with_reducible first | exact HB.out | apply below_alloc | apply pw_below_drewN | apply below_drew1) | exact HB.out)) hb); clear HB; have HB := n0_; clear n0_; (try clear hb); (try clear hb2); (try clear hk); (try clear hi)))
  go_ret
  exact ⟨by first | rfl | (simp [errW_none, errW_some] <;> rfl) | (simp only [← hji2, ← hji3]; first | rfl | (simp [errW_none, errW_some] <;> rfl)) | (simp [*, errW_none, errW_some] <;> rfl), by repeat (first | (with_reducible first | exact HB.out | apply below_alloc | apply pw_below_drewN | apply below_drew1) | exact HB.out)⟩

end Go.Proofs.YtefacokhmmpiaaaDoor.P
