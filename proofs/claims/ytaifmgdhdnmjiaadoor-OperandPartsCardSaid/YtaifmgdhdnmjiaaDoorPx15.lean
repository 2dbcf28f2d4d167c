-- written by a program of this session (wip/p2)
import Derived.Test.YtaifmgdhdnmjiaaDoorPx0
import Derived.Test.YtaifmgdhdnmjiaaDoorPx3
import Derived.Test.YtaifmgdhdnmjiaaDoorPx4
import Derived.Test.YtaifmgdhdnmjiaaDoorPx8
import Derived.Test.YtaifmgdhdnmjiaaDoorPx14
namespace Go.Proofs.YtaifmgdhdnmjiaaDoor.P
open Go.RowKit Go.Proofs.YtaifmgdhdnmjiaaDoorW.PrintWords Go.Proofs.YtaifmgdhdnmjiaaDoorW.PrintLast Go.Proofs.YtaifmgdhdnmjiaaDoorW.PrintMore
attribute [local go_sem] max2_int min2_int max_two min_two max_three min_three max_four min_four   -- for this text's walks alone
set_option linter.unusedVariables false
set_option linter.unusedSimpArgs false

/-! ### florinlaw05_OperandParts: function 7 -/
mutual
def florinlaw05_OperandParts.j0 : Nat → List Int → List Int → Int → Bool → Option (Bool)
 | 0, _, _, _, _ => none
 | k + 1, x0, x1, x2, x25 => if x25 = true then (some true) else ((florinlaw05_Shown.f k x0 x1).bind fun bt279 => (florinlaw05_OperandParts.l0 k x1 (Go.bits .and .i64 x2 7) 0 bt279.1 bt279.2.1 bt279.2.2))
def florinlaw05_OperandParts.l0 : Nat → List Int → Int → Int → Bool → ByteArray → ByteArray → Option (Bool)
 | 0, _, _, _, _, _, _ => none
 | k + 1, x1, x8, x9, x283000, x283001, x283002 => if x9 < x8 then (if x283002.size + 1 ≤ 9223372036854775807 then (florinlaw05_OperandParts.l0 k x1 x8 (wrap64 (x9 + 1)) x283000 x283001 (x283002 ++ (⟨#[48]⟩ : ByteArray))) else (none)) else ((operand_Of.f k x283000 x283001 x283002 0).bind fun bt283 => (florinlaw05_OperandParts.l1 k x1 x8 (x283002.size : Int) x283000 x283001 x283002 bt283.1 bt283.2.1 bt283.2.2))
def florinlaw05_OperandParts.j3 : Nat → List Int → Int → Int → Bool → ByteArray → ByteArray → ByteArray → ByteArray → Int → Option (Bool)
 | 0, _, _, _, _, _, _, _, _, _ => none
 | k + 1, x1, x8, x11, x283000, x283001, x283002, x287000, x287001, x287002 => florinlaw05_OperandParts.l2 k x1 x8 x11 true 0 x283000 x283001 x283002 x287000 x287001 x287002
def florinlaw05_OperandParts.l2 : Nat → List Int → Int → Int → Bool → Int → Bool → ByteArray → ByteArray → ByteArray → ByteArray → Int → Option (Bool)
 | 0, _, _, _, _, _, _, _, _, _, _, _ => none
 | k + 1, x1, x8, x11, x12, x13, x283000, x283001, x283002, x287000, x287001, x287002 => if x13 < (x283002.size : Int) then (if x12 = true then (if 0 ≤ x13 then (florinlaw05_OperandParts.l2 k x1 x8 x11 ((bt x283002 x13) == 48) (wrap64 (x13 + 1)) x283000 x283001 x283002 x287000 x287001 x287002) else (none)) else (florinlaw05_OperandParts.l2 k x1 x8 x11 false (wrap64 (x13 + 1)) x283000 x283001 x283002 x287000 x287001 x287002)) else ((operand_Ops_V.f x287000 x287001 x287002).bind fun t287 => (if t287 = (wrap64 ((x1.length : Int) + x8)) then ((operand_Ops_W.f x287000 x287001 x287002).bind fun t288 => (if t288 = x11 then ((operand_Ops_F.f k x287000 x287001 x287002).bind fun t289 => ((num_Trim.f k x283002).bind fun t290 => (if t289.toList = t290.toList then ((operand_Ops_T.f k x287000 x287001 x287002).bind fun t291 => (if 0 ≤ x11 then (if x11 ≤ (x283002.size : Int) then ((num_Trim.f k (x283002.extract 0 (x11 : Int).toNat)).bind fun t292 => (if t291.toList = t292.toList then ((operand_Ops_Whole.f k x287000 x287001 x287002).bind fun t293 => (if (t293 != x12) = true then (florinlaw05_OperandParts.j5 k true x287000 x287001 x287002) else ((operand_Ops_I.f k x287000 x287001 x287002).bind fun t294 => ((num_Trim.f k x283001).bind fun t295 => (florinlaw05_OperandParts.j5 k (t294.toList != t295.toList) x287000 x287001 x287002))))) else (florinlaw05_OperandParts.j5 k true x287000 x287001 x287002))) else (none)) else (none))) else (florinlaw05_OperandParts.j5 k true x287000 x287001 x287002)))) else (florinlaw05_OperandParts.j5 k true x287000 x287001 x287002))) else (florinlaw05_OperandParts.j5 k true x287000 x287001 x287002)))
def florinlaw05_OperandParts.j5 : Nat → Bool → ByteArray → ByteArray → Int → Option (Bool)
 | 0, _, _, _, _ => none
 | k + 1, x116, x287000, x287001, x287002 => if x116 = true then (some false) else ((operand_Ops_T.f k x287000 x287001 x287002).bind fun t296 => ((operand_Ops_W.f x287000 x287001 x287002).bind fun t297 => (florinlaw05_OperandParts.l3 k t296 t297 x287000 x287001 x287002)))
def florinlaw05_OperandParts.l3 : Nat → ByteArray → Int → ByteArray → ByteArray → Int → Option (Bool)
 | 0, _, _, _, _, _ => none
 | k + 1, x14, x15, x287000, x287001, x287002 => (operand_Ops_V.f x287000 x287001 x287002).bind fun t298 => (if x15 < t298 then ((num_Times.f k x14 10).bind fun t299 => (florinlaw05_OperandParts.l3 k t299 (wrap64 (x15 + 1)) x287000 x287001 x287002)) else ((operand_Ops_F.f k x287000 x287001 x287002).bind fun t300 => (some (x14.toList == t300.toList))))
def florinlaw05_OperandParts.l1 : Nat → List Int → Int → Int → Bool → ByteArray → ByteArray → ByteArray → ByteArray → Int → Option (Bool)
 | 0, _, _, _, _, _, _, _, _, _ => none
 | k + 1, x1, x8, x11, x283000, x283001, x283002, x287000, x287001, x287002 => if x11 > 0 then (if 0 ≤ (wrap64 (x11 - 1)) then (if (wrap64 (x11 - 1)) < (x283002.size : Int) then (if (bt x283002 (wrap64 (x11 - 1))) = 48 then (florinlaw05_OperandParts.l1 k x1 x8 (wrap64 (x11 - 1)) x283000 x283001 x283002 x287000 x287001 x287002) else (florinlaw05_OperandParts.j3 k x1 x8 x11 x283000 x283001 x283002 x287000 x287001 x287002)) else (none)) else (none)) else (florinlaw05_OperandParts.j3 k x1 x8 x11 x283000 x283001 x283002 x287000 x287001 x287002)
end
def florinlaw05_OperandParts.f (k : Nat) (l0 : List Int) (l1 : List Int) (a2 : Int) : Option (Bool) := (florinlaw05_head.f k).bind fun t278 => (if t278 = true then (if (l0.length : Int) > 60 then (florinlaw05_OperandParts.j0 k l0 l1 a2 true) else (florinlaw05_OperandParts.j0 k l0 l1 a2 (decide ((l1.length : Int) > 60)))) else (some false))
theorem florinlaw05_OperandParts.mono_l : ∀ k, (∀ y0 y1 y2 y3, LeO (florinlaw05_OperandParts.j0 k y0 y1 y2 y3) (florinlaw05_OperandParts.j0 (k + 1) y0 y1 y2 y3)) ∧ (∀ y0 y1 y2 y3 y4 y5, LeO (florinlaw05_OperandParts.l0 k y0 y1 y2 y3 y4 y5) (florinlaw05_OperandParts.l0 (k + 1) y0 y1 y2 y3 y4 y5)) ∧ (∀ y0 y1 y2 y3 y4 y5 y6 y7 y8, LeO (florinlaw05_OperandParts.j3 k y0 y1 y2 y3 y4 y5 y6 y7 y8) (florinlaw05_OperandParts.j3 (k + 1) y0 y1 y2 y3 y4 y5 y6 y7 y8)) ∧ (∀ y0 y1 y2 y3 y4 y5 y6 y7 y8 y9 y10, LeO (florinlaw05_OperandParts.l2 k y0 y1 y2 y3 y4 y5 y6 y7 y8 y9 y10) (florinlaw05_OperandParts.l2 (k + 1) y0 y1 y2 y3 y4 y5 y6 y7 y8 y9 y10)) ∧ (∀ y0 y1 y2 y3, LeO (florinlaw05_OperandParts.j5 k y0 y1 y2 y3) (florinlaw05_OperandParts.j5 (k + 1) y0 y1 y2 y3)) ∧ (∀ y0 y1 y2 y3 y4, LeO (florinlaw05_OperandParts.l3 k y0 y1 y2 y3 y4) (florinlaw05_OperandParts.l3 (k + 1) y0 y1 y2 y3 y4)) ∧ (∀ y0 y1 y2 y3 y4 y5 y6 y7 y8, LeO (florinlaw05_OperandParts.l1 k y0 y1 y2 y3 y4 y5 y6 y7 y8) (florinlaw05_OperandParts.l1 (k + 1) y0 y1 y2 y3 y4 y5 y6 y7 y8))
 | 0 => ⟨fun _ _ _ _ r h => by simp [florinlaw05_OperandParts.j0] at h, fun _ _ _ _ _ _ r h => by simp [florinlaw05_OperandParts.l0] at h, fun _ _ _ _ _ _ _ _ _ r h => by simp [florinlaw05_OperandParts.j3] at h, fun _ _ _ _ _ _ _ _ _ _ _ r h => by simp [florinlaw05_OperandParts.l2] at h, fun _ _ _ _ r h => by simp [florinlaw05_OperandParts.j5] at h, fun _ _ _ _ _ r h => by simp [florinlaw05_OperandParts.l3] at h, fun _ _ _ _ _ _ _ _ _ r h => by simp [florinlaw05_OperandParts.l1] at h⟩
 | k + 1 => by
  obtain ⟨ih0, ih1, ih2, ih3, ih4, ih5, ih6⟩ := florinlaw05_OperandParts.mono_l k
  refine ⟨?_, ?_, ?_, ?_, ?_, ?_, ?_⟩
  ·intro y0 y1 y2 y3
   unfold florinlaw05_OperandParts.j0
   repeat' first
   | (with_reducible exact ih0 _ _ _ _)
   | (with_reducible exact ih1 _ _ _ _ _ _)
   | (with_reducible exact ih2 _ _ _ _ _ _ _ _ _)
   | (with_reducible exact ih3 _ _ _ _ _ _ _ _ _ _ _)
   | (with_reducible exact ih4 _ _ _ _)
   | (with_reducible exact ih5 _ _ _ _ _)
   | (with_reducible exact ih6 _ _ _ _ _ _ _ _ _)
   | (with_reducible exact florinlaw05_Shown.mono _ _ _)
   | (with_reducible exact florinlaw05_head.mono _)
   | (with_reducible exact num_Times.mono _ _ _)
   | (with_reducible exact num_Trim.mono _ _)
   | (with_reducible exact operand_Of.mono _ _ _ _ _)
   | (with_reducible exact operand_Ops_F.mono _ _ _ _)
   | (with_reducible exact operand_Ops_I.mono _ _ _ _)
   | (with_reducible exact operand_Ops_T.mono _ _ _ _)
   | (with_reducible exact operand_Ops_Whole.mono _ _ _ _)
   | (with_reducible exact LeO.refl _)
   | (with_reducible exact LeO.none _)
   | (with_reducible refine LeO.ite ?_ ?_)
   | (with_reducible refine LeO.bind ?_ (fun _ => ?_))
   | exact ih0 _ _ _ _
   | exact ih1 _ _ _ _ _ _
   | exact ih2 _ _ _ _ _ _ _ _ _
   | exact ih3 _ _ _ _ _ _ _ _ _ _ _
   | exact ih4 _ _ _ _
   | exact ih5 _ _ _ _ _
   | exact ih6 _ _ _ _ _ _ _ _ _
   | exact florinlaw05_Shown.mono _ _ _
   | exact florinlaw05_head.mono _
   | exact num_Times.mono _ _ _
   | exact num_Trim.mono _ _
   | exact operand_Of.mono _ _ _ _ _
   | exact operand_Ops_F.mono _ _ _ _
   | exact operand_Ops_I.mono _ _ _ _
   | exact operand_Ops_T.mono _ _ _ _
   | exact operand_Ops_Whole.mono _ _ _ _
   | exact LeO.none _
   | refine LeO.ite ?_ ?_
   | refine LeO.bind ?_ (fun _ => ?_)
  ·intro y0 y1 y2 y3 y4 y5
   unfold florinlaw05_OperandParts.l0
   repeat' first
   | (with_reducible exact ih0 _ _ _ _)
   | (with_reducible exact ih1 _ _ _ _ _ _)
   | (with_reducible exact ih2 _ _ _ _ _ _ _ _ _)
   | (with_reducible exact ih3 _ _ _ _ _ _ _ _ _ _ _)
   | (with_reducible exact ih4 _ _ _ _)
   | (with_reducible exact ih5 _ _ _ _ _)
   | (with_reducible exact ih6 _ _ _ _ _ _ _ _ _)
   | (with_reducible exact florinlaw05_Shown.mono _ _ _)
   | (with_reducible exact florinlaw05_head.mono _)
   | (with_reducible exact num_Times.mono _ _ _)
   | (with_reducible exact num_Trim.mono _ _)
   | (with_reducible exact operand_Of.mono _ _ _ _ _)
   | (with_reducible exact operand_Ops_F.mono _ _ _ _)
   | (with_reducible exact operand_Ops_I.mono _ _ _ _)
   | (with_reducible exact operand_Ops_T.mono _ _ _ _)
   | (with_reducible exact operand_Ops_Whole.mono _ _ _ _)
   | (with_reducible exact LeO.refl _)
   | (with_reducible exact LeO.none _)
   | (with_reducible refine LeO.ite ?_ ?_)
   | (with_reducible refine LeO.bind ?_ (fun _ => ?_))
   | exact ih0 _ _ _ _
   | exact ih1 _ _ _ _ _ _
   | exact ih2 _ _ _ _ _ _ _ _ _
   | exact ih3 _ _ _ _ _ _ _ _ _ _ _
   | exact ih4 _ _ _ _
   | exact ih5 _ _ _ _ _
   | exact ih6 _ _ _ _ _ _ _ _ _
   | exact florinlaw05_Shown.mono _ _ _
   | exact florinlaw05_head.mono _
   | exact num_Times.mono _ _ _
   | exact num_Trim.mono _ _
   | exact operand_Of.mono _ _ _ _ _
   | exact operand_Ops_F.mono _ _ _ _
   | exact operand_Ops_I.mono _ _ _ _
   | exact operand_Ops_T.mono _ _ _ _
   | exact operand_Ops_Whole.mono _ _ _ _
   | exact LeO.none _
   | refine LeO.ite ?_ ?_
   | refine LeO.bind ?_ (fun _ => ?_)
  ·intro y0 y1 y2 y3 y4 y5 y6 y7 y8
   unfold florinlaw05_OperandParts.j3
   repeat' first
   | (with_reducible exact ih0 _ _ _ _)
   | (with_reducible exact ih1 _ _ _ _ _ _)
   | (with_reducible exact ih2 _ _ _ _ _ _ _ _ _)
   | (with_reducible exact ih3 _ _ _ _ _ _ _ _ _ _ _)
   | (with_reducible exact ih4 _ _ _ _)
   | (with_reducible exact ih5 _ _ _ _ _)
   | (with_reducible exact ih6 _ _ _ _ _ _ _ _ _)
   | (with_reducible exact florinlaw05_Shown.mono _ _ _)
   | (with_reducible exact florinlaw05_head.mono _)
   | (with_reducible exact num_Times.mono _ _ _)
   | (with_reducible exact num_Trim.mono _ _)
   | (with_reducible exact operand_Of.mono _ _ _ _ _)
   | (with_reducible exact operand_Ops_F.mono _ _ _ _)
   | (with_reducible exact operand_Ops_I.mono _ _ _ _)
   | (with_reducible exact operand_Ops_T.mono _ _ _ _)
   | (with_reducible exact operand_Ops_Whole.mono _ _ _ _)
   | (with_reducible exact LeO.refl _)
   | (with_reducible exact LeO.none _)
   | (with_reducible refine LeO.ite ?_ ?_)
   | (with_reducible refine LeO.bind ?_ (fun _ => ?_))
   | exact ih0 _ _ _ _
   | exact ih1 _ _ _ _ _ _
   | exact ih2 _ _ _ _ _ _ _ _ _
   | exact ih3 _ _ _ _ _ _ _ _ _ _ _
   | exact ih4 _ _ _ _
   | exact ih5 _ _ _ _ _
   | exact ih6 _ _ _ _ _ _ _ _ _
   | exact florinlaw05_Shown.mono _ _ _
   | exact florinlaw05_head.mono _
   | exact num_Times.mono _ _ _
   | exact num_Trim.mono _ _
   | exact operand_Of.mono _ _ _ _ _
   | exact operand_Ops_F.mono _ _ _ _
   | exact operand_Ops_I.mono _ _ _ _
   | exact operand_Ops_T.mono _ _ _ _
   | exact operand_Ops_Whole.mono _ _ _ _
   | exact LeO.none _
   | refine LeO.ite ?_ ?_
   | refine LeO.bind ?_ (fun _ => ?_)
  ·intro y0 y1 y2 y3 y4 y5 y6 y7 y8 y9 y10
   unfold florinlaw05_OperandParts.l2
   repeat' first
   | (with_reducible exact ih0 _ _ _ _)
   | (with_reducible exact ih1 _ _ _ _ _ _)
   | (with_reducible exact ih2 _ _ _ _ _ _ _ _ _)
   | (with_reducible exact ih3 _ _ _ _ _ _ _ _ _ _ _)
   | (with_reducible exact ih4 _ _ _ _)
   | (with_reducible exact ih5 _ _ _ _ _)
   | (with_reducible exact ih6 _ _ _ _ _ _ _ _ _)
   | (with_reducible exact florinlaw05_Shown.mono _ _ _)
   | (with_reducible exact florinlaw05_head.mono _)
   | (with_reducible exact num_Times.mono _ _ _)
   | (with_reducible exact num_Trim.mono _ _)
   | (with_reducible exact operand_Of.mono _ _ _ _ _)
   | (with_reducible exact operand_Ops_F.mono _ _ _ _)
   | (with_reducible exact operand_Ops_I.mono _ _ _ _)
   | (with_reducible exact operand_Ops_T.mono _ _ _ _)
   | (with_reducible exact operand_Ops_Whole.mono _ _ _ _)
   | (with_reducible exact LeO.refl _)
   | (with_reducible exact LeO.none _)
   | (with_reducible refine LeO.ite ?_ ?_)
   | (with_reducible refine LeO.bind ?_ (fun _ => ?_))
   | exact ih0 _ _ _ _
   | exact ih1 _ _ _ _ _ _
   | exact ih2 _ _ _ _ _ _ _ _ _
   | exact ih3 _ _ _ _ _ _ _ _ _ _ _
   | exact ih4 _ _ _ _
   | exact ih5 _ _ _ _ _
   | exact ih6 _ _ _ _ _ _ _ _ _
   | exact florinlaw05_Shown.mono _ _ _
   | exact florinlaw05_head.mono _
   | exact num_Times.mono _ _ _
   | exact num_Trim.mono _ _
   | exact operand_Of.mono _ _ _ _ _
   | exact operand_Ops_F.mono _ _ _ _
   | exact operand_Ops_I.mono _ _ _ _
   | exact operand_Ops_T.mono _ _ _ _
   | exact operand_Ops_Whole.mono _ _ _ _
   | exact LeO.none _
   | refine LeO.ite ?_ ?_
   | refine LeO.bind ?_ (fun _ => ?_)
  ·intro y0 y1 y2 y3
   unfold florinlaw05_OperandParts.j5
   repeat' first
   | (with_reducible exact ih0 _ _ _ _)
   | (with_reducible exact ih1 _ _ _ _ _ _)
   | (with_reducible exact ih2 _ _ _ _ _ _ _ _ _)
   | (with_reducible exact ih3 _ _ _ _ _ _ _ _ _ _ _)
   | (with_reducible exact ih4 _ _ _ _)
   | (with_reducible exact ih5 _ _ _ _ _)
   | (with_reducible exact ih6 _ _ _ _ _ _ _ _ _)
   | (with_reducible exact florinlaw05_Shown.mono _ _ _)
   | (with_reducible exact florinlaw05_head.mono _)
   | (with_reducible exact num_Times.mono _ _ _)
   | (with_reducible exact num_Trim.mono _ _)
   | (with_reducible exact operand_Of.mono _ _ _ _ _)
   | (with_reducible exact operand_Ops_F.mono _ _ _ _)
   | (with_reducible exact operand_Ops_I.mono _ _ _ _)
   | (with_reducible exact operand_Ops_T.mono _ _ _ _)
   | (with_reducible exact operand_Ops_Whole.mono _ _ _ _)
   | (with_reducible exact LeO.refl _)
   | (with_reducible exact LeO.none _)
   | (with_reducible refine LeO.ite ?_ ?_)
   | (with_reducible refine LeO.bind ?_ (fun _ => ?_))
   | exact ih0 _ _ _ _
   | exact ih1 _ _ _ _ _ _
   | exact ih2 _ _ _ _ _ _ _ _ _
   | exact ih3 _ _ _ _ _ _ _ _ _ _ _
   | exact ih4 _ _ _ _
   | exact ih5 _ _ _ _ _
   | exact ih6 _ _ _ _ _ _ _ _ _
   | exact florinlaw05_Shown.mono _ _ _
   | exact florinlaw05_head.mono _
   | exact num_Times.mono _ _ _
   | exact num_Trim.mono _ _
   | exact operand_Of.mono _ _ _ _ _
   | exact operand_Ops_F.mono _ _ _ _
   | exact operand_Ops_I.mono _ _ _ _
   | exact operand_Ops_T.mono _ _ _ _
   | exact operand_Ops_Whole.mono _ _ _ _
   | exact LeO.none _
   | refine LeO.ite ?_ ?_
   | refine LeO.bind ?_ (fun _ => ?_)
  ·intro y0 y1 y2 y3 y4
   unfold florinlaw05_OperandParts.l3
   repeat' first
   | (with_reducible exact ih0 _ _ _ _)
   | (with_reducible exact ih1 _ _ _ _ _ _)
   | (with_reducible exact ih2 _ _ _ _ _ _ _ _ _)
   | (with_reducible exact ih3 _ _ _ _ _ _ _ _ _ _ _)
   | (with_reducible exact ih4 _ _ _ _)
   | (with_reducible exact ih5 _ _ _ _ _)
   | (with_reducible exact ih6 _ _ _ _ _ _ _ _ _)
   | (with_reducible exact florinlaw05_Shown.mono _ _ _)
   | (with_reducible exact florinlaw05_head.mono _)
   | (with_reducible exact num_Times.mono _ _ _)
   | (with_reducible exact num_Trim.mono _ _)
   | (with_reducible exact operand_Of.mono _ _ _ _ _)
   | (with_reducible exact operand_Ops_F.mono _ _ _ _)
   | (with_reducible exact operand_Ops_I.mono _ _ _ _)
   | (with_reducible exact operand_Ops_T.mono _ _ _ _)
   | (with_reducible exact operand_Ops_Whole.mono _ _ _ _)
   | (with_reducible exact LeO.refl _)
   | (with_reducible exact LeO.none _)
   | (with_reducible refine LeO.ite ?_ ?_)
   | (with_reducible refine LeO.bind ?_ (fun _ => ?_))
   | exact ih0 _ _ _ _
   | exact ih1 _ _ _ _ _ _
   | exact ih2 _ _ _ _ _ _ _ _ _
   | exact ih3 _ _ _ _ _ _ _ _ _ _ _
   | exact ih4 _ _ _ _
   | exact ih5 _ _ _ _ _
   | exact ih6 _ _ _ _ _ _ _ _ _
   | exact florinlaw05_Shown.mono _ _ _
   | exact florinlaw05_head.mono _
   | exact num_Times.mono _ _ _
   | exact num_Trim.mono _ _
   | exact operand_Of.mono _ _ _ _ _
   | exact operand_Ops_F.mono _ _ _ _
   | exact operand_Ops_I.mono _ _ _ _
   | exact operand_Ops_T.mono _ _ _ _
   | exact operand_Ops_Whole.mono _ _ _ _
   | exact LeO.none _
   | refine LeO.ite ?_ ?_
   | refine LeO.bind ?_ (fun _ => ?_)
  ·intro y0 y1 y2 y3 y4 y5 y6 y7 y8
   unfold florinlaw05_OperandParts.l1
   repeat' first
   | (with_reducible exact ih0 _ _ _ _)
   | (with_reducible exact ih1 _ _ _ _ _ _)
   | (with_reducible exact ih2 _ _ _ _ _ _ _ _ _)
   | (with_reducible exact ih3 _ _ _ _ _ _ _ _ _ _ _)
   | (with_reducible exact ih4 _ _ _ _)
   | (with_reducible exact ih5 _ _ _ _ _)
   | (with_reducible exact ih6 _ _ _ _ _ _ _ _ _)
   | (with_reducible exact florinlaw05_Shown.mono _ _ _)
   | (with_reducible exact florinlaw05_head.mono _)
   | (with_reducible exact num_Times.mono _ _ _)
   | (with_reducible exact num_Trim.mono _ _)
   | (with_reducible exact operand_Of.mono _ _ _ _ _)
   | (with_reducible exact operand_Ops_F.mono _ _ _ _)
   | (with_reducible exact operand_Ops_I.mono _ _ _ _)
   | (with_reducible exact operand_Ops_T.mono _ _ _ _)
   | (with_reducible exact operand_Ops_Whole.mono _ _ _ _)
   | (with_reducible exact LeO.refl _)
   | (with_reducible exact LeO.none _)
   | (with_reducible refine LeO.ite ?_ ?_)
   | (with_reducible refine LeO.bind ?_ (fun _ => ?_))
   | exact ih0 _ _ _ _
   | exact ih1 _ _ _ _ _ _
   | exact ih2 _ _ _ _ _ _ _ _ _
   | exact ih3 _ _ _ _ _ _ _ _ _ _ _
   | exact ih4 _ _ _ _
   | exact ih5 _ _ _ _ _
   | exact ih6 _ _ _ _ _ _ _ _ _
   | exact florinlaw05_Shown.mono _ _ _
   | exact florinlaw05_head.mono _
   | exact num_Times.mono _ _ _
   | exact num_Trim.mono _ _
   | exact operand_Of.mono _ _ _ _ _
   | exact operand_Ops_F.mono _ _ _ _
   | exact operand_Ops_I.mono _ _ _ _
   | exact operand_Ops_T.mono _ _ _ _
   | exact operand_Ops_Whole.mono _ _ _ _
   | exact LeO.none _
   | refine LeO.ite ?_ ?_
   | refine LeO.bind ?_ (fun _ => ?_)
theorem florinlaw05_OperandParts.mono : ∀ a0 a1 a2 k, LeO (florinlaw05_OperandParts.f k a0 a1 a2) (florinlaw05_OperandParts.f (k + 1) a0 a1 a2) := by
 intro a0 a1 a2 k
 obtain ⟨ih0, ih1, ih2, ih3, ih4, ih5, ih6⟩ := florinlaw05_OperandParts.mono_l k
 unfold florinlaw05_OperandParts.f
 repeat' first
   | (with_reducible exact ih0 _ _ _ _)
   | (with_reducible exact ih1 _ _ _ _ _ _)
   | (with_reducible exact ih2 _ _ _ _ _ _ _ _ _)
   | (with_reducible exact ih3 _ _ _ _ _ _ _ _ _ _ _)
   | (with_reducible exact ih4 _ _ _ _)
   | (with_reducible exact ih5 _ _ _ _ _)
   | (with_reducible exact ih6 _ _ _ _ _ _ _ _ _)
   | (with_reducible exact florinlaw05_Shown.mono _ _ _)
   | (with_reducible exact florinlaw05_head.mono _)
   | (with_reducible exact num_Times.mono _ _ _)
   | (with_reducible exact num_Trim.mono _ _)
   | (with_reducible exact operand_Of.mono _ _ _ _ _)
   | (with_reducible exact operand_Ops_F.mono _ _ _ _)
   | (with_reducible exact operand_Ops_I.mono _ _ _ _)
   | (with_reducible exact operand_Ops_T.mono _ _ _ _)
   | (with_reducible exact operand_Ops_Whole.mono _ _ _ _)
   | (with_reducible exact LeO.refl _)
   | (with_reducible exact LeO.none _)
   | (with_reducible refine LeO.ite ?_ ?_)
   | (with_reducible refine LeO.bind ?_ (fun _ => ?_))
   | exact ih0 _ _ _ _
   | exact ih1 _ _ _ _ _ _
   | exact ih2 _ _ _ _ _ _ _ _ _
   | exact ih3 _ _ _ _ _ _ _ _ _ _ _
   | exact ih4 _ _ _ _
   | exact ih5 _ _ _ _ _
   | exact ih6 _ _ _ _ _ _ _ _ _
   | exact florinlaw05_Shown.mono _ _ _
   | exact florinlaw05_head.mono _
   | exact num_Times.mono _ _ _
   | exact num_Trim.mono _ _
   | exact operand_Of.mono _ _ _ _ _
   | exact operand_Ops_F.mono _ _ _ _
   | exact operand_Ops_I.mono _ _ _ _
   | exact operand_Ops_T.mono _ _ _ _
   | exact operand_Ops_Whole.mono _ _ _ _
   | exact LeO.none _
   | refine LeO.ite ?_ ?_
   | refine LeO.bind ?_ (fun _ => ?_)
def florinlaw05_OperandParts.T20 : Bool × List (List Nat × List Nat) := (true, [([], []), ([0], [0]), ([], []), ([2], [2]), ([], []), ([3, 4], [3, 4]), ([1, 5], [1, 5]), ([6, 1], [6]), ([7], [7]), ([8, 7, 7], [7, 8]), ([7], [7]), ([9, 10, 7], [7, 9, 10]), ([7, 11], [7, 11]), ([12, 9], [12]), ([13], [13]), ([14, 13, 13], [13, 14]), ([13], [13]), ([16, 13], [13, 16]), ([17, 15, 13], [13, 17]), ([15, 18, 13], [13, 15, 18]), ([13, 19], [13, 19]), ([20, 18], [20]), ([21], [21]), ([22, 21, 21], [21, 22]), ([21], [21]), ([24, 21], [21, 24]), ([21], [21]), ([25, 26, 21], [21, 25, 26]), ([27, 23, 21], [21, 27]), ([23, 28, 21], [21, 23, 28]), ([21, 29], [21, 29]), ([30, 28], [30]), ([31], [31]), ([32, 31, 31], [31, 32]), ([31], [31]), ([33, 34, 31], [31, 33, 34]), ([31, 35], [31, 35]), ([36, 33], [36]), ([37], [37]), ([38, 37, 37], [37, 38]), ([37], [37]), ([40, 37], [37, 40]), ([41, 39, 37], [37, 41]), ([39, 42, 37], [37, 39, 42]), ([37, 43], [37, 43])])
def florinlaw05_OperandParts.B20 : List Nat := [0, 1, 0, 4, 0, 28, 63, 127, 255, 511, 255, 2047, 4095, 8191, 16383, 32767, 16383, 81919, 262143, 524287, 1048575, 2097151, 4194303, 8388607, 4194303, 20971519, 4194303, 121634815, 268435455, 536870911, 1073741823, 2147483647, 4294967295, 8589934591, 4294967295, 34359738367, 68719476735, 137438953471, 274877906943, 549755813887, 274877906943, 1374389534719, 4398046511103, 8796093022207, 17592186044415]
theorem florinlaw05_OperandParts.tab20 : rtab .any (opsOf Tryd.f7 20) = florinlaw05_OperandParts.T20 := by kernel_rfl
theorem florinlaw05_OperandParts.bits20 : waitsOk florinlaw05_OperandParts.T20.2 florinlaw05_OperandParts.B20 = true := by kernel_rfl
set_option maxHeartbeats 8000000 in
set_option maxRecDepth 100000 in
theorem florinlaw05_OperandParts.calls (k : Nat) (A0 : Option Addr) (c0 : Nat) (l0 : List Int) (A1 : Option Addr) (c1 : Nat) (l1 : List Int) (a2 : Int) (r : Bool) (w : World) (hr0 : Kd.C (Kd.int .u8) w A0 l0.length l0) (hc0 : l0.length ≤ c0) (hr1 : Kd.C (Kd.int .u8) w A1 l1.length l1) (hc1 : l1.length ≤ c1) (h : florinlaw05_OperandParts.f k l0 l1 a2 = some r) :
  Calls Tryd.prog 7 #[.slice A0 l0.length c0, .slice A1 l1.length c1, .int .i64 a2] w fun e w' => e = .returned (.bool r) ∧ Below w.heap.size w w' := by
 have hu31 := Tryd.underlying31
 have hu24 := Tryd.underlying24
 have HR0 := Aside0.mk hr0
 have HC0 := Aside0.mk hc0
 clear hr0 hc0
 have HR1 := Aside0.mk hr1
 have HC1 := Aside0.mk hc1
 clear hr1 hc1
 have HB := Aside0.mk (Below.refl w.heap.size w)
 have H : ((florinlaw05_head.f k).bind fun t278 => (if t278 = true then (if (l0.length : Int) > 60 then (florinlaw05_OperandParts.j0 k l0 l1 a2 true) else (florinlaw05_OperandParts.j0 k l0 l1 a2 (decide ((l1.length : Int) > 60)))) else (some false))) = some r := h
 clear h
 replace H := Option.bind_eq_some_iff.mp H
 obtain ⟨t278, A40, H⟩ := H
 replace H : (if t278 = true then (if (l0.length : Int) > 60 then (florinlaw05_OperandParts.j0 k l0 l1 a2 true) else (florinlaw05_OperandParts.j0 k l0 l1 a2 (decide ((l1.length : Int) > 60)))) else (some false)) = some r := H
 have A4 := Aside0.mk A40
 clear A40
 by_cases c5 : t278 = true
 ·subst c5
  have H1 : (if (l0.length : Int) > 60 then (florinlaw05_OperandParts.j0 k l0 l1 a2 true) else (florinlaw05_OperandParts.j0 k l0 l1 a2 (decide ((l1.length : Int) > 60)))) = some r := by rw [if_pos rfl] at H; exact H
  clear H
  have H := H1
  clear H1
  have HC6 := Aside0.mk H
  clear H
  go_enter Tryd.func7, Tryd.ntmps7
  go_upto_region 3 with (first | ((with_reducible refine gate_callee (f := 8) rfl ?_); refine goesL_ (some 16) rfl rfl Tryd.func8 (by kernel_rfl) rfl #[] rfl (by (try simp only [List.map_toArray, List.map_cons, List.map_nil]); first | done | rfl | (simp only [List.length_drop, List.length_take]; rfl) | (have z_ : ∀ s_ : ByteArray, s_.size ≤ 9223372036854775807 → -(s_.size : Int) = wrap64 (-(s_.size : Int)) := (fun s_ h_ => by unfold wrap64; omega); rw [← z_ _ (by omega)]; rfl)) ?_; (with_reducible refine (florinlaw05_head.calls k  true _ A4.out).mono ?_); rintro e w7 ⟨rfl, hb⟩; refine ⟨_, rfl, ?_⟩; have n0_ := Aside0.mk (below_step (by repeat (first | (with_reducible first | exact HB.out | apply below_alloc | apply pw_below_drewN | apply below_drew1) | exact HB.out)) hb); clear HB; have HB := n0_; clear n0_; (try clear hb); (try clear hb2); (try clear hk); (try clear hi)))
  (try simp only [Act.put, List.setIfInBounds_toArray, List.set_cons_zero, List.set_cons_succ])
  go_cut [25] (fun v25 wc => ∃ (kq : Nat) (x25_5 : Bool), v25 = .bool x25_5 ∧ Aside0 (florinlaw05_OperandParts.j0 kq l0 l1 a2 x25_5 = some r) ∧ Aside0 (kq ≤ k) ∧ Aside0 (Below w.heap.size w wc))
  case first =>
   have H := HC6.out
   clear HC6
   by_cases c8 : (l0.length : Int) > 60
   ·rw [if_pos c8] at H
    have c8b0 : decide (60 < (l0.length : Int)) = true := decide_eq_true c8
    have c8b1 : decide (60 < l0.length) = true := decide_eq_true (by omega)
    clear c8
    (first | rw [c8b0] | (simp only [i64_w, i32_w]; rw [c8b0]) | skip)
    have H' := Aside0.mk H
    clear H
    go_wp2
    go_meet
    case rel => exact ⟨_, (true), (by first | rfl | (simp; done) | (simp [*]; done) | (simp; first | exact given_isEmpty _ | exact (given_isEmpty _).symm) | (unfold wrap64; omega) | (congr 1; unfold wrap64; omega)), H', ⟨by first | omega | exact Nat.le_refl _⟩, ⟨by repeat (first | (with_reducible first | exact HB.out | apply below_alloc | apply pw_below_drewN | apply below_drew1) | exact HB.out)⟩⟩
   ·rw [if_neg c8] at H
    have c8b0 : decide (60 < (l0.length : Int)) = false := decide_eq_false c8
    have c8b1 : decide (60 < l0.length) = false := decide_eq_false (by omega)
    clear c8
    (first | rw [c8b0] | (simp only [i64_w, i32_w]; rw [c8b0]) | skip)
    have H' := Aside0.mk H
    clear H
    go_wp2
    go_meet
    case rel => exact ⟨_, (decide ((l1.length : Int) > 60)), (by first | rfl | (simp; done) | (simp [*]; done) | (simp; first | exact given_isEmpty _ | exact (given_isEmpty _).symm) | (unfold wrap64; omega) | (congr 1; unfold wrap64; omega)), H', ⟨by first | omega | exact Nat.le_refl _⟩, ⟨by repeat (first | (with_reducible first | exact HB.out | apply below_alloc | apply pw_below_drewN | apply below_drew1) | exact HB.out)⟩⟩
  case rest =>
   clear HC6
   try clear c1
   try clear p2
   try clear c5
   try clear p6
   try clear c7
   try clear c8
   try clear c8b0
   try clear c8b1
   obtain ⟨kq, x25_5, rfl, HA, HJ5, HB⟩ := hcut
   cases kq with
   | zero => exact absurd HA.out (by simp [florinlaw05_OperandParts.j0])
   | succ kj5 =>
    have H := HA.out
    clear HA
    simp only [florinlaw05_OperandParts.j0] at H
    by_cases c9 : x25_5 = true
    ·subst c9
     have H1 : (some true) = some r := by rw [if_pos rfl] at H; exact H
     clear H
     have H := H1
     clear H1
     obtain rfl := Option.some.inj H
     go_wp2
     go_ret
     exact ⟨by first | rfl | (simp [errW_none, errW_some] <;> rfl) | (simp [*, errW_none, errW_some] <;> first | rfl | exact given_isEmpty _ | exact (given_isEmpty _).symm), by repeat (first | (with_reducible first | exact HB.out | apply below_alloc | apply pw_below_drewN | apply below_drew1) | exact HB.out)⟩
    ·replace c9 := Bool.eq_false_iff.mpr c9
     subst c9
     have H1 : ((florinlaw05_Shown.f kj5 l0 l1).bind fun bt279 => (florinlaw05_OperandParts.l0 kj5 l1 (Go.bits .and .i64 a2 7) 0 bt279.1 bt279.2.1 bt279.2.2)) = some r := by rw [if_neg (show ¬ (false = true) by decide)] at H; exact H
     clear H
     have H := H1
     clear H1
     replace H := Option.bind_eq_some_iff.mp H
     obtain ⟨⟨t279, t280, t281⟩, A100, H⟩ := H
     replace H : (florinlaw05_OperandParts.l0 kj5 l1 (Go.bits .and .i64 a2 7) 0 t279 t280 t281) = some r := H
     have A10 := Aside0.mk A100
     clear A100
     have H' := Aside0.mk H
     clear H
     go_wp2_with (first | ((with_reducible refine gate_callee (f := 12) rfl ?_); refine goesL_ (some 28) rfl rfl Tryd.func12 (by kernel_rfl) rfl #[.slice A0 l0.length c0, .slice A1 l1.length c1] rfl (by (try simp only [List.map_toArray, List.map_cons, List.map_nil]); first | done | rfl | (simp only [List.length_drop, List.length_take]; rfl) | (have z_ : ∀ s_ : ByteArray, s_.size ≤ 9223372036854775807 → -(s_.size : Int) = wrap64 (-(s_.size : Int)) := (fun s_ h_ => by unfold wrap64; omega); rw [← z_ _ (by omega)]; rfl)) ?_; (with_reducible refine (florinlaw05_Shown.calls kj5 _ _ l0 _ _ l1 t279 t280 t281 _ ?side1 ?side2 ?side3 ?side4 A10.out).mono ?_); (case side1 => repeat (first | exact (Kd.C_below HR0.out HB.out) | (with_reducible refine Kd.C_alloc ?_ _) | (with_reducible refine Kd.C_drewN ?_ _) | (with_reducible refine Kd.C_drew ?_))); (case side2 => exact HC0.out); (case side3 => repeat (first | exact (Kd.C_below HR1.out HB.out) | (with_reducible refine Kd.C_alloc ?_ _) | (with_reducible refine Kd.C_drewN ?_ _) | (with_reducible refine Kd.C_drew ?_))); (case side4 => exact HC1.out); rintro e w11 ⟨rfl, hb⟩; refine ⟨_, rfl, ?_⟩; have n0_ := Aside0.mk (below_step (by repeat (first | (with_reducible first | exact HB.out | apply below_alloc | apply pw_below_drewN | apply below_drew1) | exact HB.out)) hb); clear HB; have HB := n0_; clear n0_; (try clear hb); (try clear hb2); (try clear hk); (try clear hi)) | ((with_reducible refine gate_dst (N := 7) rfl ?_); (try (refine gate_guard (by rfl) ?_; dsimp only)); refine box_event ?hg (N := 7) ?hd (cs := #[.bool false, .string (⟨#[]⟩ : ByteArray), .string (⟨#[]⟩ : ByteArray)]) (t := 31) ?hr ?_; (case hd => rfl); (case hg => rfl); (case hr => first | (go_simp; done) | (go_simp; rfl)); intro gb282 hg w12 hbox hb; have n0_ := Aside0.mk (below_step (by repeat (first | (with_reducible first | exact HB.out | apply below_alloc | apply pw_below_drewN | apply below_drew1) | exact HB.out)) hb); have n1_ := Aside0.mk (hbox); have n2_ := Aside0.mk ((by rw [hg]; exact (below_size (by repeat (first | (with_reducible first | exact HB.out | apply below_alloc | apply pw_below_drewN | apply below_drew1) | exact HB.out))) : w.heap.size ≤ gb282)); have n3_ := Aside0.mk ((by rw [hg]; exact (below_size (by repeat (first | (with_reducible first | exact HB.out | apply below_alloc | apply pw_below_drewN | apply below_drew1) | exact HB.out))) : w.heap.size ≤ gb282)); clear HB; have HB := n0_; have BK282 := n1_; have GW282 := n2_; have GE282 := n3_; clear n0_ n1_ n2_ n3_; clear hb hbox hg; have hcz13_0 : w12.cell? ⟨gb282, 0, none⟩ = some (.bool false) := (blk_cell BK282.out 0).trans rfl; have hcz13_1 : w12.cell? ⟨gb282, 1, none⟩ = some (.string (⟨#[]⟩ : ByteArray)) := (blk_cell BK282.out 1).trans rfl; have hcz13_2 : w12.cell? ⟨gb282, 2, none⟩ = some (.string (⟨#[]⟩ : ByteArray)) := (blk_cell BK282.out 2).trans rfl; have hfz13_0 := blk_frozen BK282.out 0; have hfz13_1 := blk_frozen BK282.out 1; have hfz13_2 := blk_frozen BK282.out 2))
     go_loopg [9] kj5 (fun kq v9 w' => ∃ (x9_2 : Int) (x283002_2 : ByteArray), v9 = .int .i64 x9_2 ∧ Aside0 (florinlaw05_OperandParts.l0 kq l1 (Go.bits .and .i64 a2 7) x9_2 t279 t280 x283002_2 = some r) ∧ Aside0 (kq ≤ kj5) ∧ Aside0 (w'.heap[gb282]? = some (.cells #[.bool t279, .string t280, .string x283002_2] 31 (0, 0))) ∧ Aside0 (Below w.heap.size w w'))
     case atStart => exact ⟨(0), (t281), (by first | rfl | (simp; done) | (simp [*]; done) | (simp; first | exact given_isEmpty _ | exact (given_isEmpty _).symm) | (unfold wrap64; omega) | (congr 1; unfold wrap64; omega)), H', ⟨Nat.le_refl _⟩, ⟨by (with_reducible repeat (first | refine blk_drewN ?_ _ | refine blk_drew ?_ | refine blk_alloc ?_ _)); refine blk_put (cs := #[.bool t279, .string t280, .string (⟨#[]⟩ : ByteArray)]) ?_ 2 _ rfl; (with_reducible repeat (first | refine blk_drewN ?_ _ | refine blk_drew ?_ | refine blk_alloc ?_ _)); refine blk_put (cs := #[.bool t279, .string (⟨#[]⟩ : ByteArray), .string (⟨#[]⟩ : ByteArray)]) ?_ 1 _ rfl; (with_reducible repeat (first | refine blk_drewN ?_ _ | refine blk_drew ?_ | refine blk_alloc ?_ _)); refine blk_put (cs := #[.bool false, .string (⟨#[]⟩ : ByteArray), .string (⟨#[]⟩ : ByteArray)]) ?_ 0 _ rfl; (with_reducible repeat (first | refine blk_drewN ?_ _ | refine blk_drew ?_ | refine blk_alloc ?_ _)); exact BK282.out⟩, ⟨by repeat (first | (with_reducible first | exact HB.out | apply below_alloc | apply pw_below_drewN | apply below_drew1 | refine below_set ?_ GE282.out) | exact HB.out)⟩⟩
     case round =>
      clear H'
      try clear c1
      try clear p2
      try clear c5
      try clear p6
      try clear c7
      try clear c8
      try clear c8b0
      try clear c8b1
      try clear c9
      try clear c12
      try clear hcz13_0
      try clear hcz13_1
      try clear hcz13_2
      try clear hfz13_0
      try clear hfz13_1
      try clear hfz13_2
      try clear p2
      try clear p6
      obtain ⟨x9_2, x283002_2, rfl, HA, HK2, BK282, HB⟩ := hrel
      cases gk with
      | zero => exact absurd HA.out (by simp [florinlaw05_OperandParts.l0])
      | succ k2 =>
       have H := HA.out
       clear HA
       simp only [florinlaw05_OperandParts.l0] at H
       by_cases c14 : x9_2 < (Go.bits .and .i64 a2 7)
       ·rw [if_pos c14] at H
        have c14b0 : decide (x9_2 < (Go.bits .and .i64 a2 7)) = true := decide_eq_true c14
        clear c14
        by_cases c15 : x283002_2.size + 1 ≤ 9223372036854775807
        ·rw [if_pos c15] at H
         have c15b0 := eq_true c15
         have c15b1 : decide (x283002_2.size + 1 ≤ 9223372036854775807) = true := decide_eq_true c15
         try have c15b2 : (9223372036854775807 < x283002_2.size + 1) = False := eq_false (Nat.not_lt.2 c15)
         have H' := Aside0.mk H
         clear H
         have hcz16_0 : wr.cell? ⟨gb282, 0, none⟩ = some (.bool t279) := (blk_cell BK282.out 0).trans rfl
         have hcz16_1 : wr.cell? ⟨gb282, 1, none⟩ = some (.string t280) := (blk_cell BK282.out 1).trans rfl
         have hcz16_2 : wr.cell? ⟨gb282, 2, none⟩ = some (.string x283002_2) := (blk_cell BK282.out 2).trans rfl
         have hfz16_0 := blk_frozen BK282.out 0
         have hfz16_1 := blk_frozen BK282.out 1
         have hfz16_2 := blk_frozen BK282.out 2
         go_wp2
         go_roundg k2
         case measure => have := HJ5.out; have := HK2.out; omega
         case rel => exact ⟨(wrap64 (x9_2 + 1)), (x283002_2 ++ (⟨#[48]⟩ : ByteArray)), (by first | rfl | (simp; done) | (simp [*]; done) | (simp; first | exact given_isEmpty _ | exact (given_isEmpty _).symm) | (unfold wrap64; omega) | (congr 1; unfold wrap64; omega)), H', ⟨by have := HJ5.out; have := HK2.out; omega⟩, ⟨by (with_reducible repeat (first | refine blk_drewN ?_ _ | refine blk_drew ?_ | refine blk_alloc ?_ _)); refine blk_put (cs := #[.bool t279, .string t280, .string x283002_2]) ?_ 2 _ rfl; (with_reducible repeat (first | refine blk_drewN ?_ _ | refine blk_drew ?_ | refine blk_alloc ?_ _)); exact BK282.out⟩, ⟨by repeat (first | (with_reducible first | exact HB.out | apply below_alloc | apply pw_below_drewN | apply below_drew1 | refine below_set ?_ GE282.out) | exact HB.out)⟩⟩
        ·rw [if_neg c15] at H
         exact absurd H (by simp)
       ·rw [if_neg c14] at H
        have c14b0 : decide (x9_2 < (Go.bits .and .i64 a2 7)) = false := decide_eq_false c14
        clear c14
        replace H := Option.bind_eq_some_iff.mp H
        obtain ⟨⟨t283, t284, t285⟩, A170, H⟩ := H
        replace H : (florinlaw05_OperandParts.l1 k2 l1 (Go.bits .and .i64 a2 7) (x283002_2.size : Int) t279 t280 x283002_2 t283 t284 t285) = some r := H
        have A17 := Aside0.mk A170
        clear A170
        have HC18 := Aside0.mk H
        clear H
        have hcz19_0 : wr.cell? ⟨gb282, 0, none⟩ = some (.bool t279) := (blk_cell BK282.out 0).trans rfl
        have hcz19_1 : wr.cell? ⟨gb282, 1, none⟩ = some (.string t280) := (blk_cell BK282.out 1).trans rfl
        have hcz19_2 : wr.cell? ⟨gb282, 2, none⟩ = some (.string x283002_2) := (blk_cell BK282.out 2).trans rfl
        have hfz19_0 := blk_frozen BK282.out 0
        have hfz19_1 := blk_frozen BK282.out 1
        have hfz19_2 := blk_frozen BK282.out 2
        go_upto_block 2 with (first | ((with_reducible refine gate_callee (f := 13) rfl ?_); refine goesL_ (some 41) rfl rfl Tryd.func13 (by kernel_rfl) rfl #[.agg #[.bool t279, .string t280, .string x283002_2], .int .i64 0] rfl (by (try simp only [List.map_toArray, List.map_cons, List.map_nil]); first | done | rfl | (simp only [List.length_drop, List.length_take]; rfl) | (have z_ : ∀ s_ : ByteArray, s_.size ≤ 9223372036854775807 → -(s_.size : Int) = wrap64 (-(s_.size : Int)) := (fun s_ h_ => by unfold wrap64; omega); rw [← z_ _ (by omega)]; rfl)) ?_; (with_reducible refine (operand_Of.calls k2 t279 t280 x283002_2 0 t283 t284 t285 _ A17.out).mono ?_); rintro e w20 ⟨rfl, hb⟩; refine ⟨_, rfl, ?_⟩; have n0_ := bb_ BK282 hb; have n1_ := Aside0.mk (below_step (by repeat (first | (with_reducible first | exact HB.out | apply below_alloc | apply pw_below_drewN | apply below_drew1 | refine below_set ?_ GE282.out) | exact HB.out)) hb); clear BK282; clear HB; have BK282 := n0_; have HB := n1_; clear n0_ n1_; (try clear hb); (try clear hb2); (try clear hk); (try clear hi)) | ((with_reducible refine gate_dst (N := 10) rfl ?_); (try (refine gate_guard (by rfl) ?_; dsimp only)); refine box_event ?hg (N := 10) ?hd (cs := #[.string (⟨#[]⟩ : ByteArray), .string (⟨#[]⟩ : ByteArray), .int .i64 0]) (t := 24) ?hr ?_; (case hd => rfl); (case hg => rfl); (case hr => first | (go_simp; done) | (go_simp; rfl)); intro gb286 hg w21 hbox hb; have n0_ := bb_ BK282 hb; have n1_ := Aside0.mk (below_step (by repeat (first | (with_reducible first | exact HB.out | apply below_alloc | apply pw_below_drewN | apply below_drew1 | refine below_set ?_ GE282.out) | exact HB.out)) hb); have n2_ := Aside0.mk (hbox); have n3_ := Aside0.mk ((by rw [hg]; exact (below_size (by repeat (first | (with_reducible first | exact HB.out | apply below_alloc | apply pw_below_drewN | apply below_drew1 | refine below_set ?_ GE282.out) | exact HB.out))) : w.heap.size ≤ gb286)); have n4_ := Aside0.mk ((by rw [hg]; exact (below_size (by repeat (first | (with_reducible first | exact HB.out | apply below_alloc | apply pw_below_drewN | apply below_drew1 | refine below_set ?_ GE282.out) | exact HB.out))) : w.heap.size ≤ gb286)); have n5_ := Aside0.mk ((by rw [hg]; exact Nat.ne_of_lt (blk_lt (g := gb282) (o := .cells #[.bool t279, .string t280, .string x283002_2] 31 (0, 0)) (by (with_reducible repeat (first | refine blk_drewN ?_ _ | refine blk_drew ?_ | refine blk_alloc ?_ _)); exact BK282.out)) : gb282 ≠ gb286)); have n6_ := Aside0.mk ((by rw [hg]; exact Nat.ne_of_gt (blk_lt (g := gb282) (o := .cells #[.bool t279, .string t280, .string x283002_2] 31 (0, 0)) (by (with_reducible repeat (first | refine blk_drewN ?_ _ | refine blk_drew ?_ | refine blk_alloc ?_ _)); exact BK282.out)) : gb286 ≠ gb282)); clear BK282; clear HB; have BK282 := n0_; have HB := n1_; have BK286 := n2_; have GW286 := n3_; have GE286 := n4_; have NB282_286 := n5_; have NB286_282 := n6_; clear n0_ n1_ n2_ n3_ n4_ n5_ n6_; clear hb hbox hg; have hnb22 := NB286_282.out; have hnc22 := NB282_286.out; have hcz23_0 : w21.cell? ⟨gb286, 0, none⟩ = some (.string (⟨#[]⟩ : ByteArray)) := (blk_cell BK286.out 0).trans rfl; have hcz23_1 : w21.cell? ⟨gb286, 1, none⟩ = some (.string (⟨#[]⟩ : ByteArray)) := (blk_cell BK286.out 1).trans rfl; have hcz23_2 : w21.cell? ⟨gb286, 2, none⟩ = some (.int .i64 0) := (blk_cell BK286.out 2).trans rfl; have hfz23_0 := blk_frozen BK286.out 0; have hfz23_1 := blk_frozen BK286.out 1; have hfz23_2 := blk_frozen BK286.out 2; have hcz24_0 : w21.cell? ⟨gb282, 0, none⟩ = some (.bool t279) := (blk_cell BK282.out 0).trans rfl; have hcz24_1 : w21.cell? ⟨gb282, 1, none⟩ = some (.string t280) := (blk_cell BK282.out 1).trans rfl; have hcz24_2 : w21.cell? ⟨gb282, 2, none⟩ = some (.string x283002_2) := (blk_cell BK282.out 2).trans rfl; have hfz24_0 := blk_frozen BK282.out 0; have hfz24_1 := blk_frozen BK282.out 1; have hfz24_2 := blk_frozen BK282.out 2))
        (try simp only [Act.put, List.setIfInBounds_toArray, List.set_cons_zero, List.set_cons_succ])
        go_cut [11] (fun v11 wc => ∃ (kq : Nat) (x11_17 : Int), v11 = .int .i64 x11_17 ∧ Aside0 (florinlaw05_OperandParts.j3 kq l1 (Go.bits .and .i64 a2 7) x11_17 t279 t280 x283002_2 t283 t284 t285 = some r) ∧ Aside0 (kq ≤ k2) ∧ Aside0 (wc.heap[gb282]? = some (.cells #[.bool t279, .string t280, .string x283002_2] 31 (0, 0))) ∧ Aside0 (wc.heap[gb286]? = some (.cells #[.string t283, .string t284, .int .i64 t285] 24 (0, 0))) ∧ Aside0 (Below w.heap.size w wc))
        case first =>
         have H := HC18.out
         clear HC18
         have H' := Aside0.mk H
         clear H
         go_wp2
         go_loopg [11] k2 (fun kq v11 w' => ∃ (x11_3 : Int), v11 = .int .i64 x11_3 ∧ Aside0 (florinlaw05_OperandParts.l1 kq l1 (Go.bits .and .i64 a2 7) x11_3 t279 t280 x283002_2 t283 t284 t285 = some r) ∧ Aside0 (kq ≤ k2) ∧ Aside0 (w'.heap[gb282]? = some (.cells #[.bool t279, .string t280, .string x283002_2] 31 (0, 0))) ∧ Aside0 (w'.heap[gb286]? = some (.cells #[.string t283, .string t284, .int .i64 t285] 24 (0, 0))) ∧ Aside0 (Below w.heap.size w w'))
         case atStart => exact ⟨((x283002_2.size : Int)), (by first | rfl | (simp; done) | (simp [*]; done) | (simp; first | exact given_isEmpty _ | exact (given_isEmpty _).symm) | (unfold wrap64; omega) | (congr 1; unfold wrap64; omega)), H', ⟨Nat.le_refl _⟩, ⟨by (with_reducible repeat (first | refine blk_drewN ?_ _ | refine blk_drew ?_ | refine blk_alloc ?_ _)); refine blk_far ?_ NB282_286.out _; (with_reducible repeat (first | refine blk_drewN ?_ _ | refine blk_drew ?_ | refine blk_alloc ?_ _)); refine blk_far ?_ NB282_286.out _; (with_reducible repeat (first | refine blk_drewN ?_ _ | refine blk_drew ?_ | refine blk_alloc ?_ _)); refine blk_far ?_ NB282_286.out _; (with_reducible repeat (first | refine blk_drewN ?_ _ | refine blk_drew ?_ | refine blk_alloc ?_ _)); exact BK282.out⟩, ⟨by (with_reducible repeat (first | refine blk_drewN ?_ _ | refine blk_drew ?_ | refine blk_alloc ?_ _)); refine blk_put (cs := #[.string t283, .string t284, .int .i64 0]) ?_ 2 _ rfl; (with_reducible repeat (first | refine blk_drewN ?_ _ | refine blk_drew ?_ | refine blk_alloc ?_ _)); refine blk_put (cs := #[.string t283, .string (⟨#[]⟩ : ByteArray), .int .i64 0]) ?_ 1 _ rfl; (with_reducible repeat (first | refine blk_drewN ?_ _ | refine blk_drew ?_ | refine blk_alloc ?_ _)); refine blk_put (cs := #[.string (⟨#[]⟩ : ByteArray), .string (⟨#[]⟩ : ByteArray), .int .i64 0]) ?_ 0 _ rfl; (with_reducible repeat (first | refine blk_drewN ?_ _ | refine blk_drew ?_ | refine blk_alloc ?_ _)); exact BK286.out⟩, ⟨by repeat (first | (with_reducible first | exact HB.out | apply below_alloc | apply pw_below_drewN | apply below_drew1 | refine below_set ?_ GE282.out | refine below_set ?_ GE286.out) | exact HB.out)⟩⟩
         case round =>
          clear H'
          try clear c1
          try clear c2
          try clear p2
          try clear c5
          try clear p6
          try clear c7
          try clear c8
          try clear c8b0
          try clear c8b1
          try clear c9
          try clear c12
          try clear c13
          try clear c14
          try clear c14b0
          try clear c15
          try clear c15b0
          try clear c15b1
          try clear c15b2
          try clear c22
          try clear hcz13_0
          try clear hcz13_1
          try clear hcz13_2
          try clear hcz16_0
          try clear hcz16_1
          try clear hcz16_2
          try clear hcz19_0
          try clear hcz19_1
          try clear hcz19_2
          try clear hcz23_0
          try clear hcz23_1
          try clear hcz23_2
          try clear hcz24_0
          try clear hcz24_1
          try clear hcz24_2
          try clear hfz13_0
          try clear hfz13_1
          try clear hfz13_2
          try clear hfz16_0
          try clear hfz16_1
          try clear hfz16_2
          try clear hfz19_0
          try clear hfz19_1
          try clear hfz19_2
          try clear hfz23_0
          try clear hfz23_1
          try clear hfz23_2
          try clear hfz24_0
          try clear hfz24_1
          try clear hfz24_2
          try clear p2
          try clear p6
          obtain ⟨x11_3, rfl, HA, HK3, BK282, BK286, HB⟩ := hrel
          cases gk with
          | zero => exact absurd HA.out (by simp [florinlaw05_OperandParts.l1])
          | succ k3 =>
           have H := HA.out
           clear HA
           simp only [florinlaw05_OperandParts.l1] at H
           by_cases c25 : x11_3 > 0
           ·rw [if_pos c25] at H
            have c25b0 : decide (0 < x11_3) = true := decide_eq_true c25
            clear c25
            (first | rw [c25b0] | (simp only [i64_w, i32_w]; rw [c25b0]) | skip)
            obtain ⟨ji26, hji26⟩ : ∃ j_ : Int, (wrap64 (x11_3 - 1)) = j_ := ⟨_, rfl⟩
            replace H : (if 0 ≤ (ji26) then (if (ji26) < (x283002_2.size : Int) then (if (bt x283002_2 (ji26)) = 48 then (florinlaw05_OperandParts.l1 k3 l1 (Go.bits .and .i64 a2 7) ji26 t279 t280 x283002_2 t283 t284 t285) else (florinlaw05_OperandParts.j3 k3 l1 (Go.bits .and .i64 a2 7) x11_3 t279 t280 x283002_2 t283 t284 t285)) else (none)) else (none)) = some r := by first | (rw [hji26] at H; exact H) | (simp only [hji26] at H ⊢; exact H)
            have hji26w : (IntKind.i64.wrap (x11_3 - 1)) = ji26 := (i64_w _).trans hji26
            by_cases c27 : 0 ≤ (ji26)
            ·rw [if_pos c27] at H
             have c27b0 : decide (0 ≤ (ji26)) = true := decide_eq_true c27
             clear c27
             by_cases c28 : (ji26) < (x283002_2.size : Int)
             ·rw [if_pos c28] at H
              have c28b0 : decide ((ji26) < (x283002_2.size : Int)) = true := decide_eq_true c28
              clear c28
              by_cases c30 : (bt x283002_2 (ji26)) = 48
              ·rw [if_pos c30] at H
               have c30b0 : ((bt x283002_2 (ji26)) == 48) = true := beq_iff_eq.mpr c30
               have c30b1 : ((bt x283002_2 (ji26)) != 48) = false := bne_eq_false_iff_eq.mpr c30
               clear c30
               have H' := Aside0.mk H
               clear H
               have hnb31 := NB282_286.out
               have hnc31 := NB286_282.out
               have hcz32_0 : wr.cell? ⟨gb282, 0, none⟩ = some (.bool t279) := (blk_cell BK282.out 0).trans rfl
               have hcz32_1 : wr.cell? ⟨gb282, 1, none⟩ = some (.string t280) := (blk_cell BK282.out 1).trans rfl
               have hcz32_2 : wr.cell? ⟨gb282, 2, none⟩ = some (.string x283002_2) := (blk_cell BK282.out 2).trans rfl
               have hfz32_0 := blk_frozen BK282.out 0
               have hfz32_1 := blk_frozen BK282.out 1
               have hfz32_2 := blk_frozen BK282.out 2
               have p29 : 0 ≤ ((ji26) : Int) := of_decide_eq_true (by first | (with_reducible assumption) | assumption)
               have q29 : (ji26) < (x283002_2.size : Int) := of_decide_eq_true (by first | (with_reducible assumption) | assumption)
               have hx29 := bt_at x283002_2 (ji26)
               replace p29 := eq_true p29
               replace q29 := eq_true q29
               go_wp2
               go_roundg k3
               case measure => have := HJ5.out; have := HK2.out; have := HK3.out; omega
               case rel => exact ⟨(ji26), (by first | rfl | (simp; done) | (simp only [← hji26] <;> (first | rfl | simp)) | (simp [*]; done)), (by first | exact H' | (rw [hji26]; exact H') | (simp only [hji26]; exact H')), ⟨by have := HJ5.out; have := HK2.out; have := HK3.out; omega⟩, ⟨by (with_reducible repeat (first | refine blk_drewN ?_ _ | refine blk_drew ?_ | refine blk_alloc ?_ _)); exact BK282.out⟩, ⟨by (with_reducible repeat (first | refine blk_drewN ?_ _ | refine blk_drew ?_ | refine blk_alloc ?_ _)); exact BK286.out⟩, ⟨by repeat (first | (with_reducible first | exact HB.out | apply below_alloc | apply pw_below_drewN | apply below_drew1 | refine below_set ?_ GE282.out | refine below_set ?_ GE286.out) | exact HB.out)⟩⟩
              ·rw [if_neg c30] at H
               have c30b0 : ((bt x283002_2 (ji26)) == 48) = false := beq_eq_false_iff_ne.mpr c30
               have c30b1 : ((bt x283002_2 (ji26)) != 48) = true := bne_iff_ne.mpr c30
               have H' := Aside0.mk H
               clear H
               have hnb33 := NB282_286.out
               have hnc33 := NB286_282.out
               have hcz34_0 : wr.cell? ⟨gb282, 0, none⟩ = some (.bool t279) := (blk_cell BK282.out 0).trans rfl
               have hcz34_1 : wr.cell? ⟨gb282, 1, none⟩ = some (.string t280) := (blk_cell BK282.out 1).trans rfl
               have hcz34_2 : wr.cell? ⟨gb282, 2, none⟩ = some (.string x283002_2) := (blk_cell BK282.out 2).trans rfl
               have hfz34_0 := blk_frozen BK282.out 0
               have hfz34_1 := blk_frozen BK282.out 1
               have hfz34_2 := blk_frozen BK282.out 2
               have p29 : 0 ≤ ((ji26) : Int) := of_decide_eq_true (by first | (with_reducible assumption) | assumption)
               have q29 : (ji26) < (x283002_2.size : Int) := of_decide_eq_true (by first | (with_reducible assumption) | assumption)
               have hx29 := bt_at x283002_2 (ji26)
               replace p29 := eq_true p29
               replace q29 := eq_true q29
               go_wp2
               go_meet
               case rel => first | (exact ⟨_, (x11_3), (by first | rfl | (simp; done) | (simp [*]; done) | (simp; first | exact given_isEmpty _ | exact (given_isEmpty _).symm) | (unfold wrap64; omega) | (congr 1; unfold wrap64; omega)), (by first | exact H' | (rw [hji26]; exact H') | (simp only [hji26]; exact H')), ⟨by have := HJ5.out; have := HK2.out; have := HK3.out; first | omega | exact Nat.le_refl _⟩, ⟨by (with_reducible repeat (first | refine blk_drewN ?_ _ | refine blk_drew ?_ | refine blk_alloc ?_ _)); exact BK282.out⟩, ⟨by (with_reducible repeat (first | refine blk_drewN ?_ _ | refine blk_drew ?_ | refine blk_alloc ?_ _)); exact BK286.out⟩, ⟨by repeat (first | (with_reducible first | exact HB.out | apply below_alloc | apply pw_below_drewN | apply below_drew1 | refine below_set ?_ GE282.out | refine below_set ?_ GE286.out) | exact HB.out)⟩⟩) | (rw [← hji26] at H'; exact ⟨_, (x11_3), (by first | rfl | (simp; done) | (simp [*]; done) | (simp; first | exact given_isEmpty _ | exact (given_isEmpty _).symm) | (unfold wrap64; omega) | (congr 1; unfold wrap64; omega)), (by first | exact H' | (rw [hji26]; exact H') | (simp only [hji26]; exact H')), ⟨by have := HJ5.out; have := HK2.out; have := HK3.out; first | omega | exact Nat.le_refl _⟩, ⟨by (with_reducible repeat (first | refine blk_drewN ?_ _ | refine blk_drew ?_ | refine blk_alloc ?_ _)); exact BK282.out⟩, ⟨by (with_reducible repeat (first | refine blk_drewN ?_ _ | refine blk_drew ?_ | refine blk_alloc ?_ _)); exact BK286.out⟩, ⟨by repeat (first | (with_reducible first | exact HB.out | apply below_alloc | apply pw_below_drewN | apply below_drew1 | refine below_set ?_ GE282.out | refine below_set ?_ GE286.out) | exact HB.out)⟩⟩)
             ·rw [if_neg c28] at H
              exact absurd H (by simp)
            ·rw [if_neg c27] at H
             exact absurd H (by simp)
           ·rw [if_neg c25] at H
            have c25b0 : decide (0 < x11_3) = false := decide_eq_false c25
            clear c25
            (first | rw [c25b0] | (simp only [i64_w, i32_w]; rw [c25b0]) | skip)
            have H' := Aside0.mk H
            clear H
            go_wp2
            go_meet
            case rel => exact ⟨_, (x11_3), (by first | rfl | (simp; done) | (simp [*]; done) | (simp; first | exact given_isEmpty _ | exact (given_isEmpty _).symm) | (unfold wrap64; omega) | (congr 1; unfold wrap64; omega)), H', ⟨by have := HJ5.out; have := HK2.out; have := HK3.out; first | omega | exact Nat.le_refl _⟩, ⟨by (with_reducible repeat (first | refine blk_drewN ?_ _ | refine blk_drew ?_ | refine blk_alloc ?_ _)); exact BK282.out⟩, ⟨by (with_reducible repeat (first | refine blk_drewN ?_ _ | refine blk_drew ?_ | refine blk_alloc ?_ _)); exact BK286.out⟩, ⟨by repeat (first | (with_reducible first | exact HB.out | apply below_alloc | apply pw_below_drewN | apply below_drew1 | refine below_set ?_ GE282.out | refine below_set ?_ GE286.out) | exact HB.out)⟩⟩
        case rest =>
         clear HC18
         try clear c1
         try clear c2
         try clear p2
         try clear q2
         try clear hx2
         try clear c3
         try clear c5
         try clear p6
         try clear c7
         try clear c8
         try clear c8b0
         try clear c8b1
         try clear c9
         try clear c12
         try clear c13
         try clear c14
         try clear c14b0
         try clear c15
         try clear c15b0
         try clear c15b1
         try clear c15b2
         try clear c22
         try clear c25
         try clear c25b0
         try clear c27
         try clear c27b0
         try clear c28
         try clear c28b0
         try clear p29
         try clear q29
         try clear hx29
         try clear c30
         try clear c30b0
         try clear c30b1
         try clear c31
         try clear c33
         try clear hcz13_0
         try clear hcz13_1
         try clear hcz13_2
         try clear hcz16_0
         try clear hcz16_1
         try clear hcz16_2
         try clear hcz19_0
         try clear hcz19_1
         try clear hcz19_2
         try clear hcz23_0
         try clear hcz23_1
         try clear hcz23_2
         try clear hcz24_0
         try clear hcz24_1
         try clear hcz24_2
         try clear hcz32_0
         try clear hcz32_1
         try clear hcz32_2
         try clear hcz34_0
         try clear hcz34_1
         try clear hcz34_2
         try clear hfz13_0
         try clear hfz13_1
         try clear hfz13_2
         try clear hfz16_0
         try clear hfz16_1
         try clear hfz16_2
         try clear hfz19_0
         try clear hfz19_1
         try clear hfz19_2
         try clear hfz23_0
         try clear hfz23_1
         try clear hfz23_2
         try clear hfz24_0
         try clear hfz24_1
         try clear hfz24_2
         try clear hfz32_0
         try clear hfz32_1
         try clear hfz32_2
         try clear hfz34_0
         try clear hfz34_1
         try clear hfz34_2
         try clear p2
         try clear p29
         try clear p6
         try clear q29
         obtain ⟨kq, x11_17, rfl, HA, HJ17, BK282, BK286, HB⟩ := hcut
         cases kq with
         | zero => exact absurd HA.out (by simp [florinlaw05_OperandParts.j3])
         | succ kj17 =>
          have H := HA.out
          clear HA
          simp only [florinlaw05_OperandParts.j3] at H
          have H' := Aside0.mk H
          clear H
          go_wp2
          go_loopg [12, 13] kj17 (fun kq v12 v13 w' => ∃ (x12_4 : Bool) (x13_4 : Int), v12 = .bool x12_4 ∧ v13 = .int .i64 x13_4 ∧ Aside0 (florinlaw05_OperandParts.l2 kq l1 (Go.bits .and .i64 a2 7) x11_17 x12_4 x13_4 t279 t280 x283002_2 t283 t284 t285 = some r) ∧ Aside0 (kq ≤ kj17) ∧ Aside0 (w'.heap[gb282]? = some (.cells #[.bool t279, .string t280, .string x283002_2] 31 (0, 0))) ∧ Aside0 (w'.heap[gb286]? = some (.cells #[.string t283, .string t284, .int .i64 t285] 24 (0, 0))) ∧ Aside0 (Below w.heap.size w w'))
          case atStart => exact ⟨(true), (0), (by first | rfl | (simp; done) | (simp [*]; done) | (simp; first | exact given_isEmpty _ | exact (given_isEmpty _).symm) | (unfold wrap64; omega) | (congr 1; unfold wrap64; omega)), (by first | rfl | (simp; done) | (simp [*]; done) | (simp; first | exact given_isEmpty _ | exact (given_isEmpty _).symm) | (unfold wrap64; omega) | (congr 1; unfold wrap64; omega)), H', ⟨Nat.le_refl _⟩, ⟨by (with_reducible repeat (first | refine blk_drewN ?_ _ | refine blk_drew ?_ | refine blk_alloc ?_ _)); exact BK282.out⟩, ⟨by (with_reducible repeat (first | refine blk_drewN ?_ _ | refine blk_drew ?_ | refine blk_alloc ?_ _)); exact BK286.out⟩, ⟨by repeat (first | (with_reducible first | exact HB.out | apply below_alloc | apply pw_below_drewN | apply below_drew1 | refine below_set ?_ GE282.out | refine below_set ?_ GE286.out) | exact HB.out)⟩⟩
          case round =>
           clear H'
           try clear c1
           try clear c2
           try clear p2
           try clear q2
           try clear hx2
           try clear c3
           try clear c5
           try clear p6
           try clear c7
           try clear c8
           try clear c8b0
           try clear c8b1
           try clear c9
           try clear c12
           try clear c13
           try clear c14
           try clear c14b0
           try clear c15
           try clear c15b0
           try clear c15b1
           try clear c15b2
           try clear c22
           try clear c25
           try clear c25b0
           try clear c27
           try clear c27b0
           try clear c28
           try clear c28b0
           try clear p29
           try clear q29
           try clear hx29
           try clear c30
           try clear c30b0
           try clear c30b1
           try clear c31
           try clear c33
           try clear hcz13_0
           try clear hcz13_1
           try clear hcz13_2
           try clear hcz16_0
           try clear hcz16_1
           try clear hcz16_2
           try clear hcz19_0
           try clear hcz19_1
           try clear hcz19_2
           try clear hcz23_0
           try clear hcz23_1
           try clear hcz23_2
           try clear hcz24_0
           try clear hcz24_1
           try clear hcz24_2
           try clear hcz32_0
           try clear hcz32_1
           try clear hcz32_2
           try clear hcz34_0
           try clear hcz34_1
           try clear hcz34_2
           try clear hfz13_0
           try clear hfz13_1
           try clear hfz13_2
           try clear hfz16_0
           try clear hfz16_1
           try clear hfz16_2
           try clear hfz19_0
           try clear hfz19_1
           try clear hfz19_2
           try clear hfz23_0
           try clear hfz23_1
           try clear hfz23_2
           try clear hfz24_0
           try clear hfz24_1
           try clear hfz24_2
           try clear hfz32_0
           try clear hfz32_1
           try clear hfz32_2
           try clear hfz34_0
           try clear hfz34_1
           try clear hfz34_2
           try clear p2
           try clear p29
           try clear p6
           try clear q2
           try clear q29
           obtain ⟨x12_4, x13_4, rfl, rfl, HA, HK4, BK282, BK286, HB⟩ := hrel
           cases gk with
           | zero => exact absurd HA.out (by simp [florinlaw05_OperandParts.l2])
           | succ k4 =>
            have H := HA.out
            clear HA
            simp only [florinlaw05_OperandParts.l2] at H
            by_cases c35 : x13_4 < (x283002_2.size : Int)
            ·rw [if_pos c35] at H
             have c35b0 : decide (x13_4 < (x283002_2.size : Int)) = true := decide_eq_true c35
             clear c35
             by_cases c36 : x12_4 = true
             ·subst c36
              have H1 : (if 0 ≤ x13_4 then (florinlaw05_OperandParts.l2 k4 l1 (Go.bits .and .i64 a2 7) x11_17 ((bt x283002_2 x13_4) == 48) (wrap64 (x13_4 + 1)) t279 t280 x283002_2 t283 t284 t285) else (none)) = some r := by rw [if_pos rfl] at H; exact H
              clear H
              have H := H1
              clear H1
              by_cases c37 : 0 ≤ x13_4
              ·rw [if_pos c37] at H
               have c37b0 : decide (0 ≤ x13_4) = true := decide_eq_true c37
               clear c37
               have H' := Aside0.mk H
               clear H
               have hnb39 := NB282_286.out
               have hnc39 := NB286_282.out
               have hcz40_0 : wr.cell? ⟨gb282, 0, none⟩ = some (.bool t279) := (blk_cell BK282.out 0).trans rfl
               have hcz40_1 : wr.cell? ⟨gb282, 1, none⟩ = some (.string t280) := (blk_cell BK282.out 1).trans rfl
               have hcz40_2 : wr.cell? ⟨gb282, 2, none⟩ = some (.string x283002_2) := (blk_cell BK282.out 2).trans rfl
               have hfz40_0 := blk_frozen BK282.out 0
               have hfz40_1 := blk_frozen BK282.out 1
               have hfz40_2 := blk_frozen BK282.out 2
               have p38 : 0 ≤ (x13_4 : Int) := of_decide_eq_true (by first | (with_reducible assumption) | assumption)
               have q38 : x13_4 < (x283002_2.size : Int) := of_decide_eq_true (by first | (with_reducible assumption) | assumption)
               have hx38 := bt_at x283002_2 x13_4
               replace p38 := eq_true p38
               replace q38 := eq_true q38
               go_wp2
               go_roundg k4
               case measure => have := HJ5.out; have := HK2.out; have := HJ17.out; have := HK4.out; omega
               case rel => exact ⟨(((bt x283002_2 x13_4) == 48)), (wrap64 (x13_4 + 1)), (by first | rfl | (simp; done) | (simp [*]; done) | (simp; first | exact given_isEmpty _ | exact (given_isEmpty _).symm) | (unfold wrap64; omega) | (congr 1; unfold wrap64; omega)), (by first | rfl | (simp; done) | (simp [*]; done) | (simp; first | exact given_isEmpty _ | exact (given_isEmpty _).symm) | (unfold wrap64; omega) | (congr 1; unfold wrap64; omega)), H', ⟨by have := HJ5.out; have := HK2.out; have := HJ17.out; have := HK4.out; omega⟩, ⟨by (with_reducible repeat (first | refine blk_drewN ?_ _ | refine blk_drew ?_ | refine blk_alloc ?_ _)); exact BK282.out⟩, ⟨by (with_reducible repeat (first | refine blk_drewN ?_ _ | refine blk_drew ?_ | refine blk_alloc ?_ _)); exact BK286.out⟩, ⟨by repeat (first | (with_reducible first | exact HB.out | apply below_alloc | apply pw_below_drewN | apply below_drew1 | refine below_set ?_ GE282.out | refine below_set ?_ GE286.out) | exact HB.out)⟩⟩
              ·rw [if_neg c37] at H
               exact absurd H (by simp)
             ·replace c36 := Bool.eq_false_iff.mpr c36
              subst c36
              have H1 : (florinlaw05_OperandParts.l2 k4 l1 (Go.bits .and .i64 a2 7) x11_17 false (wrap64 (x13_4 + 1)) t279 t280 x283002_2 t283 t284 t285) = some r := by rw [if_neg (show ¬ (false = true) by decide)] at H; exact H
              clear H
              have H := H1
              clear H1
              have H' := Aside0.mk H
              clear H
              have hnb41 := NB282_286.out
              have hnc41 := NB286_282.out
              have hcz42_0 : wr.cell? ⟨gb282, 0, none⟩ = some (.bool t279) := (blk_cell BK282.out 0).trans rfl
              have hcz42_1 : wr.cell? ⟨gb282, 1, none⟩ = some (.string t280) := (blk_cell BK282.out 1).trans rfl
              have hcz42_2 : wr.cell? ⟨gb282, 2, none⟩ = some (.string x283002_2) := (blk_cell BK282.out 2).trans rfl
              have hfz42_0 := blk_frozen BK282.out 0
              have hfz42_1 := blk_frozen BK282.out 1
              have hfz42_2 := blk_frozen BK282.out 2
              go_wp2
              go_roundg k4
              case measure => have := HJ5.out; have := HK2.out; have := HJ17.out; have := HK4.out; omega
              case rel => exact ⟨(false), (wrap64 (x13_4 + 1)), (by first | rfl | (simp; done) | (simp [*]; done) | (simp; first | exact given_isEmpty _ | exact (given_isEmpty _).symm) | (unfold wrap64; omega) | (congr 1; unfold wrap64; omega)), (by first | rfl | (simp; done) | (simp [*]; done) | (simp; first | exact given_isEmpty _ | exact (given_isEmpty _).symm) | (unfold wrap64; omega) | (congr 1; unfold wrap64; omega)), H', ⟨by have := HJ5.out; have := HK2.out; have := HJ17.out; have := HK4.out; omega⟩, ⟨by (with_reducible repeat (first | refine blk_drewN ?_ _ | refine blk_drew ?_ | refine blk_alloc ?_ _)); exact BK282.out⟩, ⟨by (with_reducible repeat (first | refine blk_drewN ?_ _ | refine blk_drew ?_ | refine blk_alloc ?_ _)); exact BK286.out⟩, ⟨by repeat (first | (with_reducible first | exact HB.out | apply below_alloc | apply pw_below_drewN | apply below_drew1 | refine below_set ?_ GE282.out | refine below_set ?_ GE286.out) | exact HB.out)⟩⟩
            ·rw [if_neg c35] at H
             have c35b0 : decide (x13_4 < (x283002_2.size : Int)) = false := decide_eq_false c35
             clear c35
             have HC43 := Aside0.mk H
             clear H
             have hnb44 := NB282_286.out
             have hnc44 := NB286_282.out
             have hcz45_0 : wr.cell? ⟨gb282, 0, none⟩ = some (.bool t279) := (blk_cell BK282.out 0).trans rfl
             have hcz45_1 : wr.cell? ⟨gb282, 1, none⟩ = some (.string t280) := (blk_cell BK282.out 1).trans rfl
             have hcz45_2 : wr.cell? ⟨gb282, 2, none⟩ = some (.string x283002_2) := (blk_cell BK282.out 2).trans rfl
             have hfz45_0 := blk_frozen BK282.out 0
             have hfz45_1 := blk_frozen BK282.out 1
             have hfz45_2 := blk_frozen BK282.out 2
             go_upto_region 20 with (fail)
             go_cut [116] (fun v116 wc => ∃ (kq : Nat) (x116_42 : Bool), v116 = .bool x116_42 ∧ Aside0 (florinlaw05_OperandParts.j5 kq x116_42 t283 t284 t285 = some r) ∧ Aside0 (kq ≤ k4) ∧ Aside0 (wc.heap[gb282]? = some (.cells #[.bool t279, .string t280, .string x283002_2] 31 (0, 0))) ∧ Aside0 (wc.heap[gb286]? = some (.cells #[.string t283, .string t284, .int .i64 t285] 24 (0, 0))) ∧ Aside0 (Below w.heap.size w wc))
             case first =>
              have H := HC43.out
              clear HC43
              replace H := Option.bind_eq_some_iff.mp H
              obtain ⟨t287, A460, H⟩ := H
              replace H : (if t287 = (wrap64 ((l1.length : Int) + (Go.bits .and .i64 a2 7))) then ((operand_Ops_W.f t283 t284 t285).bind fun t288 => (if t288 = x11_17 then ((operand_Ops_F.f k4 t283 t284 t285).bind fun t289 => ((num_Trim.f k4 x283002_2).bind fun t290 => (if t289.toList = t290.toList then ((operand_Ops_T.f k4 t283 t284 t285).bind fun t291 => (if 0 ≤ x11_17 then (if x11_17 ≤ (x283002_2.size : Int) then ((num_Trim.f k4 (x283002_2.extract 0 (x11_17 : Int).toNat)).bind fun t292 => (if t291.toList = t292.toList then ((operand_Ops_Whole.f k4 t283 t284 t285).bind fun t293 => (if (t293 != x12_4) = true then (florinlaw05_OperandParts.j5 k4 true t283 t284 t285) else ((operand_Ops_I.f k4 t283 t284 t285).bind fun t294 => ((num_Trim.f k4 t280).bind fun t295 => (florinlaw05_OperandParts.j5 k4 (t294.toList != t295.toList) t283 t284 t285))))) else (florinlaw05_OperandParts.j5 k4 true t283 t284 t285))) else (none)) else (none))) else (florinlaw05_OperandParts.j5 k4 true t283 t284 t285)))) else (florinlaw05_OperandParts.j5 k4 true t283 t284 t285))) else (florinlaw05_OperandParts.j5 k4 true t283 t284 t285)) = some r := H
              have A46 := Aside0.mk A460
              clear A460
              by_cases c47 : t287 = (wrap64 ((l1.length : Int) + (Go.bits .and .i64 a2 7)))
              ·rw [if_pos c47] at H
               have c47b0 : (t287 == (wrap64 ((l1.length : Int) + (Go.bits .and .i64 a2 7)))) = true := beq_iff_eq.mpr c47
               have c47b1 : (t287 != (wrap64 ((l1.length : Int) + (Go.bits .and .i64 a2 7)))) = false := bne_eq_false_iff_eq.mpr c47
               clear c47
               (first | rw [c47b0] | (simp only [i64_w, i32_w]; rw [c47b0]) | skip)
               replace H := Option.bind_eq_some_iff.mp H
               obtain ⟨t288, A480, H⟩ := H
               replace H : (if t288 = x11_17 then ((operand_Ops_F.f k4 t283 t284 t285).bind fun t289 => ((num_Trim.f k4 x283002_2).bind fun t290 => (if t289.toList = t290.toList then ((operand_Ops_T.f k4 t283 t284 t285).bind fun t291 => (if 0 ≤ x11_17 then (if x11_17 ≤ (x283002_2.size : Int) then ((num_Trim.f k4 (x283002_2.extract 0 (x11_17 : Int).toNat)).bind fun t292 => (if t291.toList = t292.toList then ((operand_Ops_Whole.f k4 t283 t284 t285).bind fun t293 => (if (t293 != x12_4) = true then (florinlaw05_OperandParts.j5 k4 true t283 t284 t285) else ((operand_Ops_I.f k4 t283 t284 t285).bind fun t294 => ((num_Trim.f k4 t280).bind fun t295 => (florinlaw05_OperandParts.j5 k4 (t294.toList != t295.toList) t283 t284 t285))))) else (florinlaw05_OperandParts.j5 k4 true t283 t284 t285))) else (none)) else (none))) else (florinlaw05_OperandParts.j5 k4 true t283 t284 t285)))) else (florinlaw05_OperandParts.j5 k4 true t283 t284 t285)) = some r := H
               have A48 := Aside0.mk A480
               clear A480
               by_cases c49 : t288 = x11_17
               ·rw [if_pos c49] at H
                have c49b0 : (t288 == x11_17) = true := beq_iff_eq.mpr c49
                have c49b1 : (t288 != x11_17) = false := bne_eq_false_iff_eq.mpr c49
                clear c49
                replace H := Option.bind_eq_some_iff.mp H
                obtain ⟨t289, A500, H⟩ := H
                replace H : ((num_Trim.f k4 x283002_2).bind fun t290 => (if t289.toList = t290.toList then ((operand_Ops_T.f k4 t283 t284 t285).bind fun t291 => (if 0 ≤ x11_17 then (if x11_17 ≤ (x283002_2.size : Int) then ((num_Trim.f k4 (x283002_2.extract 0 (x11_17 : Int).toNat)).bind fun t292 => (if t291.toList = t292.toList then ((operand_Ops_Whole.f k4 t283 t284 t285).bind fun t293 => (if (t293 != x12_4) = true then (florinlaw05_OperandParts.j5 k4 true t283 t284 t285) else ((operand_Ops_I.f k4 t283 t284 t285).bind fun t294 => ((num_Trim.f k4 t280).bind fun t295 => (florinlaw05_OperandParts.j5 k4 (t294.toList != t295.toList) t283 t284 t285))))) else (florinlaw05_OperandParts.j5 k4 true t283 t284 t285))) else (none)) else (none))) else (florinlaw05_OperandParts.j5 k4 true t283 t284 t285))) = some r := H
                have A50 := Aside0.mk A500
                clear A500
                replace H := Option.bind_eq_some_iff.mp H
                obtain ⟨t290, A510, H⟩ := H
                replace H : (if t289.toList = t290.toList then ((operand_Ops_T.f k4 t283 t284 t285).bind fun t291 => (if 0 ≤ x11_17 then (if x11_17 ≤ (x283002_2.size : Int) then ((num_Trim.f k4 (x283002_2.extract 0 (x11_17 : Int).toNat)).bind fun t292 => (if t291.toList = t292.toList then ((operand_Ops_Whole.f k4 t283 t284 t285).bind fun t293 => (if (t293 != x12_4) = true then (florinlaw05_OperandParts.j5 k4 true t283 t284 t285) else ((operand_Ops_I.f k4 t283 t284 t285).bind fun t294 => ((num_Trim.f k4 t280).bind fun t295 => (florinlaw05_OperandParts.j5 k4 (t294.toList != t295.toList) t283 t284 t285))))) else (florinlaw05_OperandParts.j5 k4 true t283 t284 t285))) else (none)) else (none))) else (florinlaw05_OperandParts.j5 k4 true t283 t284 t285)) = some r := H
                have A51 := Aside0.mk A510
                clear A510
                by_cases c52 : t289.toList = t290.toList
                ·rw [if_pos c52] at H
                 have c52b0 : (t289.toList == t290.toList) = true := beq_iff_eq.mpr c52
                 have c52b1 : (t289.toList != t290.toList) = false := bne_eq_false_iff_eq.mpr c52
                 clear c52
                 replace H := Option.bind_eq_some_iff.mp H
                 obtain ⟨t291, A530, H⟩ := H
                 replace H : (if 0 ≤ x11_17 then (if x11_17 ≤ (x283002_2.size : Int) then ((num_Trim.f k4 (x283002_2.extract 0 (x11_17 : Int).toNat)).bind fun t292 => (if t291.toList = t292.toList then ((operand_Ops_Whole.f k4 t283 t284 t285).bind fun t293 => (if (t293 != x12_4) = true then (florinlaw05_OperandParts.j5 k4 true t283 t284 t285) else ((operand_Ops_I.f k4 t283 t284 t285).bind fun t294 => ((num_Trim.f k4 t280).bind fun t295 => (florinlaw05_OperandParts.j5 k4 (t294.toList != t295.toList) t283 t284 t285))))) else (florinlaw05_OperandParts.j5 k4 true t283 t284 t285))) else (none)) else (none)) = some r := H
                 have A53 := Aside0.mk A530
                 clear A530
                 by_cases c54 : 0 ≤ x11_17
                 ·rw [if_pos c54] at H
                  have c54b0 := eq_true c54
                  have c54b1 : decide (0 ≤ x11_17) = true := decide_eq_true c54
                  clear c54
                  by_cases c55 : x11_17 ≤ (x283002_2.size : Int)
                  ·rw [if_pos c55] at H
                   have c55b0 := eq_true c55
                   have c55b1 : decide (x11_17 ≤ (x283002_2.size : Int)) = true := decide_eq_true c55
                   clear c55
                   replace H := Option.bind_eq_some_iff.mp H
                   obtain ⟨t292, A560, H⟩ := H
                   replace H : (if t291.toList = t292.toList then ((operand_Ops_Whole.f k4 t283 t284 t285).bind fun t293 => (if (t293 != x12_4) = true then (florinlaw05_OperandParts.j5 k4 true t283 t284 t285) else ((operand_Ops_I.f k4 t283 t284 t285).bind fun t294 => ((num_Trim.f k4 t280).bind fun t295 => (florinlaw05_OperandParts.j5 k4 (t294.toList != t295.toList) t283 t284 t285))))) else (florinlaw05_OperandParts.j5 k4 true t283 t284 t285)) = some r := H
                   have A56 := Aside0.mk A560
                   clear A560
                   by_cases c57 : t291.toList = t292.toList
                   ·rw [if_pos c57] at H
                    have c57b0 : (t291.toList == t292.toList) = true := beq_iff_eq.mpr c57
                    have c57b1 : (t291.toList != t292.toList) = false := bne_eq_false_iff_eq.mpr c57
                    clear c57
                    replace H := Option.bind_eq_some_iff.mp H
                    obtain ⟨t293, A580, H⟩ := H
                    replace H : (if (t293 != x12_4) = true then (florinlaw05_OperandParts.j5 k4 true t283 t284 t285) else ((operand_Ops_I.f k4 t283 t284 t285).bind fun t294 => ((num_Trim.f k4 t280).bind fun t295 => (florinlaw05_OperandParts.j5 k4 (t294.toList != t295.toList) t283 t284 t285)))) = some r := H
                    have A58 := Aside0.mk A580
                    clear A580
                    by_cases c59 : (t293 != x12_4) = true
                    ·rw [if_pos c59] at H
                     have c59b0 : (t293 != x12_4) = true := c59
                     (try (have c59b1 : decide (t293 = x12_4) = false := by simpa using c59))
                     (try (have c59b2 : (t293 == x12_4) = false := by simpa using c59))
                     (try (have c59b3 : ¬ (t293 = x12_4) := by simpa using c59))
                     clear c59
                     have H' := Aside0.mk H
                     clear H
                     try go_wp2
                     have n0_ := Aside0.mk (blk_drew BK282.out)
                     have n1_ := Aside0.mk (blk_drew BK286.out)
                     have n2_ := Aside0.mk (below_drew1 HB.out)
                     clear BK282
                     clear BK286
                     clear HB
                     have BK282 := n0_
                     have BK286 := n1_
                     have HB := n2_
                     clear n0_ n1_ n2_
                     refine start_ (n := 45) (S := fun w' => w'.cell? ⟨gb286, 0, none⟩ = some (.string t283) ∧ w'.cell? ⟨gb286, 1, none⟩ = some (.string t284) ∧ w'.cell? ⟨gb286, 2, none⟩ = some (.int .i64 t285) ∧ w'.cell? ⟨gb282, 0, none⟩ = some (.bool t279) ∧ w'.cell? ⟨gb282, 1, none⟩ = some (.string t280) ∧ w'.cell? ⟨gb282, 2, none⟩ = some (.string x283002_2)) (ds := []) #[false, false, false, false, false, false, false, false, false, false, false, false, false, false, false, false, false, false, false, false, false, false, false, false, false, false, false, false, false, false, false, false, false, false, false, false, false, false, false, false, false, false, false, false, false] (by kernel_rfl) rfl rfl ⟨(blk_cell BK286.out 0).trans rfl, (blk_cell BK286.out 1).trans rfl, (blk_cell BK286.out 2).trans rfl, (blk_cell BK282.out 0).trans rfl, (blk_cell BK282.out 1).trans rfl, (blk_cell BK282.out 2).trans rfl⟩ (fun hHeld => ?_); refine with_tabW florinlaw05_OperandParts.tab20 florinlaw05_OperandParts.bits20 (fun HT_ HW_ => ?_)
                     generalize wr.drew = w60 at BK282 BK286 HB hHeld ⊢
                     refine pure_ (i := 2) (N := some 74) (v := ?_) (a' := ?_) (bm_ 45 4) rfl rfl (any_of HT_.out (by kernel_rfl)) (fun _ _ _ h => h) (Or.inl ⟨by rfl, ?_⟩) ?_ ?_
                     rotate_left; ·intro w'; go_simp; with_reducible rfl
                     rotate_left; ·simp only [Act.put, List.setIfInBounds_toArray, List.set_cons_zero, List.set_cons_succ, i64_w, i32_w]; rfl
                     refine pure_ (i := 3) (N := some 75) (v := ?_) (a' := ?_) (bm_ 45 12) rfl rfl (any_of HT_.out (by kernel_rfl)) (fun _ _ _ h => h) (Or.inl ⟨by rfl, ?_⟩) ?_ ?_
                     rotate_left; ·intro w'; go_simp; with_reducible rfl
                     rotate_left; ·simp only [Act.put, List.setIfInBounds_toArray, List.set_cons_zero, List.set_cons_succ, i64_w, i32_w]; rfl
                     refine pure_ (i := 4) (N := some 76) (v := ?_) (a' := ?_) (bm_ 45 28) rfl rfl (any_of HT_.out (by kernel_rfl)) (fun _ _ _ h => h) (Or.inl ⟨by rfl, ?_⟩) ?_ ?_
                     rotate_left; ·intro w'; go_simp; with_reducible rfl
                     rotate_left; ·simp only [Act.put, List.setIfInBounds_toArray, List.set_cons_zero, List.set_cons_succ, i64_w, i32_w]; rfl
                     refine pure_ (i := 5) (N := some 77) (v := ?_) (a' := ?_) (bm_ 45 60) rfl rfl (any_of HT_.out (by kernel_rfl)) (fun _ _ _ h => h) (Or.inl ⟨by rfl, ?_⟩) ?_ ?_
                     rotate_left; ·intro w'; go_simp; with_reducible rfl
                     rotate_left; ·simp only [Act.put, List.setIfInBounds_toArray, List.set_cons_zero, List.set_cons_succ, i64_w, i32_w]; rfl
                     refine take_ (i := 0) (N := some 72) (v := ?_) (a' := ?_) (bm_ 45 61) rfl rfl (take_ofW HT_.out HW_.out (by kernel_rfl)) (fun _ _ _ h => h) (Or.inl ⟨by rfl, ?_⟩) hHeld ?_ ?_
                     rotate_left; ·rintro w' ⟨s0, s1, s2, s3, s4, s5⟩; go_simp; with_reducible rfl
                     rotate_left; ·simp only [Act.put, List.setIfInBounds_toArray, List.set_cons_zero, List.set_cons_succ, i64_w, i32_w]; rfl
                     refine one_ (i := 1) (N := some 73) (bm_ 45 63) rfl rfl (one_of HT_.out (by kernel_rfl)) (by decide) (fun K hK => ?_)
                     refine goes_ Tryd.func18 (by kernel_rfl) rfl #[.agg #[.string t283, .string t284, .int .i64 t285]] (by rfl) rfl rfl (by (try simp only [List.map_toArray, List.map_cons, List.map_nil]); first | done | rfl | (simp only [List.length_drop, List.length_take]; rfl) | (have z_ : ∀ s_ : ByteArray, s_.size ≤ 9223372036854775807 → -(s_.size : Int) = wrap64 (-(s_.size : Int)) := (fun s_ h_ => by unfold wrap64; omega); rw [← z_ _ (by omega)]; rfl)) ?_
                     with_reducible refine (operand_Ops_V.calls t283 t284 t285 t287 _ A46.out).mono ?_
                     rintro e w61 ⟨rfl, hb⟩
                     refine ⟨_, rfl, ?_⟩
                     have n0_ := bb_ BK282 hb
                     have n1_ := bb_ BK286 hb
                     have n2_ := Aside0.mk (below_step (by repeat (first | (with_reducible first | exact HB.out | apply below_alloc | apply pw_below_drewN | apply below_drew1 | refine below_set ?_ GE282.out | refine below_set ?_ GE286.out) | exact HB.out)) hb)
                     clear BK282
                     clear BK286
                     clear HB
                     have BK282 := n0_
                     have BK286 := n1_
                     have HB := n2_
                     clear n0_ n1_ n2_
                     (try clear hb)
                     (try clear hb2)
                     (try clear hk)
                     (try clear hi)
                     refine hK.out _ _ ⟨(blk_cell BK286.out 0).trans rfl, (blk_cell BK286.out 1).trans rfl, (blk_cell BK286.out 2).trans rfl, (blk_cell BK282.out 0).trans rfl, (blk_cell BK282.out 1).trans rfl, (blk_cell BK282.out 2).trans rfl⟩ (fun hHeld => ?_)
                     clear hK K
                     refine norm_ (a' := ?_) ?_ ?_
                     rotate_left
                     ·show Act.put _ (some 73) _ = _
                      simp only [Act.put, List.setIfInBounds_toArray, List.set_cons_zero, List.set_cons_succ, i64_w, i32_w]
                      rfl
                     refine pure_ (i := 6) (N := some 78) (v := ?_) (a' := ?_) (bm_ 45 127) rfl rfl (any_of HT_.out (by kernel_rfl)) (fun _ _ _ h => h) (Or.inl ⟨by rfl, ?_⟩) ?_ ?_
                     rotate_left; ·intro w'; go_simp; with_reducible rfl
                     rotate_left; ·simp only [Act.put, List.setIfInBounds_toArray, List.set_cons_zero, List.set_cons_succ, i64_w, i32_w]; rfl
                     refine pure_ (i := 7) (N := some 79) (v := ?_) (a' := ?_) (bm_ 45 255) rfl rfl (any_of HT_.out (by kernel_rfl)) (fun _ _ _ h => h) (Or.inl ⟨by rfl, ?_⟩) ?_ ?_
                     rotate_left; ·intro w'; go_simp; with_reducible rfl
                     rotate_left; ·simp only [Act.put, List.setIfInBounds_toArray, List.set_cons_zero, List.set_cons_succ, i64_w, i32_w]; rfl
                     refine pure_ (i := 10) (N := some 82) (v := ?_) (a' := ?_) (bm_ 45 1279) rfl rfl (any_of HT_.out (by kernel_rfl)) (fun _ _ _ h => h) (Or.inl ⟨by rfl, ?_⟩) ?_ ?_
                     rotate_left; ·intro w'; go_simp; with_reducible rfl
                     rotate_left; ·simp only [Act.put, List.setIfInBounds_toArray, List.set_cons_zero, List.set_cons_succ, i64_w, i32_w]; rfl
                     refine take_ (i := 8) (N := some 80) (v := ?_) (a' := ?_) (bm_ 45 1535) rfl rfl (take_ofW HT_.out HW_.out (by kernel_rfl)) (fun _ _ _ h => h) (Or.inl ⟨by rfl, ?_⟩) hHeld ?_ ?_
                     rotate_left; ·rintro w' ⟨s0, s1, s2, s3, s4, s5⟩; go_simp; with_reducible rfl
                     rotate_left; ·simp only [Act.put, List.setIfInBounds_toArray, List.set_cons_zero, List.set_cons_succ, i64_w, i32_w]; rfl
                     refine one_ (i := 9) (N := some 81) (bm_ 45 2047) rfl rfl (one_of HT_.out (by kernel_rfl)) (by decide) (fun K hK => ?_)
                     refine goes_ Tryd.func23 (by kernel_rfl) rfl #[.agg #[.string t283, .string t284, .int .i64 t285]] (by rfl) rfl rfl (by (try simp only [List.map_toArray, List.map_cons, List.map_nil]); first | done | rfl | (simp only [List.length_drop, List.length_take]; rfl) | (have z_ : ∀ s_ : ByteArray, s_.size ≤ 9223372036854775807 → -(s_.size : Int) = wrap64 (-(s_.size : Int)) := (fun s_ h_ => by unfold wrap64; omega); rw [← z_ _ (by omega)]; rfl)) ?_
                     with_reducible refine (operand_Ops_W.calls t283 t284 t285 t288 _ A48.out).mono ?_
                     rintro e w62 ⟨rfl, hb⟩
                     refine ⟨_, rfl, ?_⟩
                     have n0_ := bb_ BK282 hb
                     have n1_ := bb_ BK286 hb
                     have n2_ := Aside0.mk (below_step (by repeat (first | (with_reducible first | exact HB.out | apply below_alloc | apply pw_below_drewN | apply below_drew1 | refine below_set ?_ GE282.out | refine below_set ?_ GE286.out) | exact HB.out)) hb)
                     clear BK282
                     clear BK286
                     clear HB
                     have BK282 := n0_
                     have BK286 := n1_
                     have HB := n2_
                     clear n0_ n1_ n2_
                     (try clear hb)
                     (try clear hb2)
                     (try clear hk)
                     (try clear hi)
                     refine hK.out _ _ ⟨(blk_cell BK286.out 0).trans rfl, (blk_cell BK286.out 1).trans rfl, (blk_cell BK286.out 2).trans rfl, (blk_cell BK282.out 0).trans rfl, (blk_cell BK282.out 1).trans rfl, (blk_cell BK282.out 2).trans rfl⟩ (fun hHeld => ?_)
                     clear hK K
                     refine norm_ (a' := ?_) ?_ ?_
                     rotate_left
                     ·show Act.put _ (some 81) _ = _
                      simp only [Act.put, List.setIfInBounds_toArray, List.set_cons_zero, List.set_cons_succ, i64_w, i32_w]
                      rfl
                     refine pure_ (i := 11) (N := some 83) (v := ?_) (a' := ?_) (bm_ 45 4095) rfl rfl (any_of HT_.out (by kernel_rfl)) (fun _ _ _ h => h) (Or.inl ⟨by rfl, ?_⟩) ?_ ?_
                     rotate_left; ·intro w'; go_simp; with_reducible rfl
                     rotate_left; ·simp only [Act.put, List.setIfInBounds_toArray, List.set_cons_zero, List.set_cons_succ, i64_w, i32_w]; rfl
                     refine pure_ (i := 12) (N := some 84) (v := ?_) (a' := ?_) (bm_ 45 8191) rfl rfl (any_of HT_.out (by kernel_rfl)) (fun _ _ _ h => h) (Or.inl ⟨by rfl, ?_⟩) ?_ ?_
                     rotate_left; ·intro w'; go_simp; with_reducible rfl
                     rotate_left; ·simp only [Act.put, List.setIfInBounds_toArray, List.set_cons_zero, List.set_cons_succ, i64_w, i32_w]; rfl
                     refine pure_ (i := 13) (N := some 85) (v := ?_) (a' := ?_) (bm_ 45 16383) rfl rfl (any_of HT_.out (by kernel_rfl)) (fun _ _ _ h => h) (Or.inl ⟨by rfl, ?_⟩) ?_ ?_
                     rotate_left; ·intro w'; go_simp; with_reducible rfl
                     rotate_left; ·simp only [Act.put, List.setIfInBounds_toArray, List.set_cons_zero, List.set_cons_succ, i64_w, i32_w]; rfl
                     refine pure_ (i := 16) (N := some 88) (v := ?_) (a' := ?_) (bm_ 45 81919) rfl rfl (any_of HT_.out (by kernel_rfl)) (fun _ _ _ h => h) (Or.inl ⟨by rfl, ?_⟩) ?_ ?_
                     rotate_left; ·intro w'; go_simp; with_reducible rfl
                     rotate_left; ·simp only [Act.put, List.setIfInBounds_toArray, List.set_cons_zero, List.set_cons_succ, i64_w, i32_w]; rfl
                     refine take_ (i := 14) (N := some 86) (v := ?_) (a' := ?_) (bm_ 45 98303) rfl rfl (take_ofW HT_.out HW_.out (by kernel_rfl)) (fun _ _ _ h => h) (Or.inl ⟨by rfl, ?_⟩) hHeld ?_ ?_
                     rotate_left; ·rintro w' ⟨s0, s1, s2, s3, s4, s5⟩; go_simp; with_reducible rfl
                     rotate_left; ·simp only [Act.put, List.setIfInBounds_toArray, List.set_cons_zero, List.set_cons_succ, i64_w, i32_w]; rfl
                     refine take_ (i := 17) (N := some 89) (v := ?_) (a' := ?_) (bm_ 45 229375) rfl rfl (take_ofW HT_.out HW_.out (by kernel_rfl)) (fun _ _ _ h => h) (Or.inl ⟨by rfl, ?_⟩) hHeld ?_ ?_
                     rotate_left; ·rintro w' ⟨s0, s1, s2, s3, s4, s5⟩; go_simp; with_reducible rfl
                     rotate_left; ·simp only [Act.put, List.setIfInBounds_toArray, List.set_cons_zero, List.set_cons_succ, i64_w, i32_w]; rfl
                     refine one_ (i := 15) (N := some 87) (bm_ 45 262143) rfl rfl (one_of HT_.out (by kernel_rfl)) (by decide) (fun K hK => ?_)
                     refine goes_ Tryd.func24 (by kernel_rfl) rfl #[.agg #[.string t283, .string t284, .int .i64 t285]] (by rfl) rfl rfl (by (try simp only [List.map_toArray, List.map_cons, List.map_nil]); first | done | rfl | (simp only [List.length_drop, List.length_take]; rfl) | (have z_ : ∀ s_ : ByteArray, s_.size ≤ 9223372036854775807 → -(s_.size : Int) = wrap64 (-(s_.size : Int)) := (fun s_ h_ => by unfold wrap64; omega); rw [← z_ _ (by omega)]; rfl)) ?_
                     with_reducible refine (operand_Ops_F.calls k4 t283 t284 t285 t289 _ A50.out).mono ?_
                     rintro e w63 ⟨rfl, hb⟩
                     refine ⟨_, rfl, ?_⟩
                     have n0_ := bb_ BK282 hb
                     have n1_ := bb_ BK286 hb
                     have n2_ := Aside0.mk (below_step (by repeat (first | (with_reducible first | exact HB.out | apply below_alloc | apply pw_below_drewN | apply below_drew1 | refine below_set ?_ GE282.out | refine below_set ?_ GE286.out) | exact HB.out)) hb)
                     clear BK282
                     clear BK286
                     clear HB
                     have BK282 := n0_
                     have BK286 := n1_
                     have HB := n2_
                     clear n0_ n1_ n2_
                     (try clear hb)
                     (try clear hb2)
                     (try clear hk)
                     (try clear hi)
                     refine hK.out _ _ ⟨(blk_cell BK286.out 0).trans rfl, (blk_cell BK286.out 1).trans rfl, (blk_cell BK286.out 2).trans rfl, (blk_cell BK282.out 0).trans rfl, (blk_cell BK282.out 1).trans rfl, (blk_cell BK282.out 2).trans rfl⟩ (fun hHeld => ?_)
                     clear hK K
                     refine norm_ (a' := ?_) ?_ ?_
                     rotate_left
                     ·show Act.put _ (some 87) _ = _
                      simp only [Act.put, List.setIfInBounds_toArray, List.set_cons_zero, List.set_cons_succ, i64_w, i32_w]
                      rfl
                     refine one_ (i := 18) (N := some 90) (bm_ 45 524287) rfl rfl (one_of HT_.out (by kernel_rfl)) (by decide) (fun K hK => ?_)
                     refine goes_ Tryd.func16 (by kernel_rfl) rfl #[.string x283002_2] (by rfl) rfl rfl (by (try simp only [List.map_toArray, List.map_cons, List.map_nil]); first | done | rfl | (simp only [List.length_drop, List.length_take]; rfl) | (have z_ : ∀ s_ : ByteArray, s_.size ≤ 9223372036854775807 → -(s_.size : Int) = wrap64 (-(s_.size : Int)) := (fun s_ h_ => by unfold wrap64; omega); rw [← z_ _ (by omega)]; rfl)) ?_
                     with_reducible refine (num_Trim.calls k4 x283002_2 t290 _ A51.out).mono ?_
                     rintro e w' ⟨rfl, ⟨nd, rfl⟩⟩
                     refine ⟨_, rfl, ?_⟩
                     refine hK.out _ _ ⟨(blk_cell BK286.out 0).trans rfl, (blk_cell BK286.out 1).trans rfl, (blk_cell BK286.out 2).trans rfl, (blk_cell BK282.out 0).trans rfl, (blk_cell BK282.out 1).trans rfl, (blk_cell BK282.out 2).trans rfl⟩ (fun hHeld => ?_)
                     clear hK K
                     refine norm_ (a' := ?_) ?_ ?_
                     rotate_left
                     ·show Act.put _ (some 90) _ = _
                      simp only [Act.put, List.setIfInBounds_toArray, List.set_cons_zero, List.set_cons_succ, i64_w, i32_w]
                      rfl
                     refine pure_ (i := 19) (N := some 91) (v := ?_) (a' := ?_) (bm_ 45 1048575) rfl rfl (any_of HT_.out (by kernel_rfl)) (fun _ _ _ h => h) (Or.inl ⟨by rfl, ?_⟩) ?_ ?_
                     rotate_left; ·intro w'; go_simp; with_reducible rfl
                     rotate_left; ·simp only [Act.put, List.setIfInBounds_toArray, List.set_cons_zero, List.set_cons_succ, i64_w, i32_w]; rfl
                     refine pure_ (i := 20) (N := some 92) (v := ?_) (a' := ?_) (bm_ 45 2097151) rfl rfl (any_of HT_.out (by kernel_rfl)) (fun _ _ _ h => h) (Or.inl ⟨by rfl, ?_⟩) ?_ ?_
                     rotate_left; ·intro w'; go_simp; with_reducible rfl
                     rotate_left; ·simp only [Act.put, List.setIfInBounds_toArray, List.set_cons_zero, List.set_cons_succ, i64_w, i32_w]; rfl
                     refine pure_ (i := 21) (N := some 93) (v := ?_) (a' := ?_) (bm_ 45 4194303) rfl rfl (any_of HT_.out (by kernel_rfl)) (fun _ _ _ h => h) (Or.inl ⟨by rfl, ?_⟩) ?_ ?_
                     rotate_left; ·intro w'; go_simp; with_reducible rfl
                     rotate_left; ·simp only [Act.put, List.setIfInBounds_toArray, List.set_cons_zero, List.set_cons_succ, i64_w, i32_w]; rfl
                     refine pure_ (i := 24) (N := some 96) (v := ?_) (a' := ?_) (bm_ 45 20971519) rfl rfl (any_of HT_.out (by kernel_rfl)) (fun _ _ _ h => h) (Or.inl ⟨by rfl, ?_⟩) ?_ ?_
                     rotate_left; ·intro w'; go_simp; with_reducible rfl
                     rotate_left; ·simp only [Act.put, List.setIfInBounds_toArray, List.set_cons_zero, List.set_cons_succ, i64_w, i32_w]; rfl
                     refine pure_ (i := 26) (N := some 98) (v := ?_) (a' := ?_) (bm_ 45 88080383) rfl rfl (any_of HT_.out (by kernel_rfl)) (fun _ _ _ h => h) (Or.inl ⟨by rfl, ?_⟩) ?_ ?_
                     rotate_left; ·intro w'; go_simp; with_reducible rfl
                     rotate_left; ·simp only [Act.put, List.setIfInBounds_toArray, List.set_cons_zero, List.set_cons_succ, i64_w, i32_w]; rfl
                     refine take_ (i := 22) (N := some 94) (v := ?_) (a' := ?_) (bm_ 45 92274687) rfl rfl (take_ofW HT_.out HW_.out (by kernel_rfl)) (fun _ _ _ h => h) (Or.inl ⟨by rfl, ?_⟩) hHeld ?_ ?_
                     rotate_left; ·rintro w' ⟨s0, s1, s2, s3, s4, s5⟩; go_simp; with_reducible rfl
                     rotate_left; ·simp only [Act.put, List.setIfInBounds_toArray, List.set_cons_zero, List.set_cons_succ, i64_w, i32_w]; rfl
                     refine take_ (i := 25) (N := some 97) (v := ?_) (a' := ?_) (bm_ 45 125829119) rfl rfl (take_ofW HT_.out HW_.out (by kernel_rfl)) (fun _ _ _ h => h) (Or.inl ⟨by rfl, ?_⟩) hHeld ?_ ?_
                     rotate_left; ·rintro w' ⟨s0, s1, s2, s3, s4, s5⟩; go_simp; with_reducible rfl
                     rotate_left; ·simp only [Act.put, List.setIfInBounds_toArray, List.set_cons_zero, List.set_cons_succ, i64_w, i32_w]; rfl
                     refine pure_ (i := 27) (N := some 99) (v := ?_) (a' := ?_) (bm_ 45 260046847) rfl rfl (any_of HT_.out (by kernel_rfl)) (fun _ _ _ h => h) (Or.inl ⟨by rfl, ?_⟩) ?_ ?_
                     rotate_left; ·intro w'; go_simp; with_reducible rfl
                     rotate_left; ·simp only [Act.put, List.setIfInBounds_toArray, List.set_cons_zero, List.set_cons_succ, i64_w, i32_w]; rfl
                     refine one_ (i := 23) (N := some 95) (bm_ 45 268435455) rfl rfl (one_of HT_.out (by kernel_rfl)) (by decide) (fun K hK => ?_)
                     refine goes_ Tryd.func25 (by kernel_rfl) rfl #[.agg #[.string t283, .string t284, .int .i64 t285]] (by rfl) rfl rfl (by (try simp only [List.map_toArray, List.map_cons, List.map_nil]); first | done | rfl | (simp only [List.length_drop, List.length_take]; rfl) | (have z_ : ∀ s_ : ByteArray, s_.size ≤ 9223372036854775807 → -(s_.size : Int) = wrap64 (-(s_.size : Int)) := (fun s_ h_ => by unfold wrap64; omega); rw [← z_ _ (by omega)]; rfl)) ?_
                     with_reducible refine (operand_Ops_T.calls k4 t283 t284 t285 t291 _ A53.out).mono ?_
                     rintro e w64 ⟨rfl, hb⟩
                     refine ⟨_, rfl, ?_⟩
                     have n0_ := bb_ BK282 hb
                     have n1_ := bb_ BK286 hb
                     have n2_ := Aside0.mk (below_step (by repeat (first | (with_reducible first | exact HB.out | apply below_alloc | apply pw_below_drewN | apply below_drew1 | refine below_set ?_ GE282.out | refine below_set ?_ GE286.out) | exact HB.out)) hb)
                     clear BK282
                     clear BK286
                     clear HB
                     have BK282 := n0_
                     have BK286 := n1_
                     have HB := n2_
                     clear n0_ n1_ n2_
                     (try clear hb)
                     (try clear hb2)
                     (try clear hk)
                     (try clear hi)
                     refine hK.out _ _ ⟨(blk_cell BK286.out 0).trans rfl, (blk_cell BK286.out 1).trans rfl, (blk_cell BK286.out 2).trans rfl, (blk_cell BK282.out 0).trans rfl, (blk_cell BK282.out 1).trans rfl, (blk_cell BK282.out 2).trans rfl⟩ (fun hHeld => ?_)
                     clear hK K
                     refine norm_ (a' := ?_) ?_ ?_
                     rotate_left
                     ·show Act.put _ (some 95) _ = _
                      simp only [Act.put, List.setIfInBounds_toArray, List.set_cons_zero, List.set_cons_succ, i64_w, i32_w]
                      rfl
                     refine one_ (i := 28) (N := some 100) (bm_ 45 536870911) rfl rfl (one_of HT_.out (by kernel_rfl)) (by decide) (fun K hK => ?_)
                     refine goes_ Tryd.func16 (by kernel_rfl) rfl #[.string (x283002_2.extract 0 (x11_17 : Int).toNat)] (by rfl) rfl rfl (by (try simp only [List.map_toArray, List.map_cons, List.map_nil]); first | done | rfl | (simp only [List.length_drop, List.length_take]; rfl) | (have z_ : ∀ s_ : ByteArray, s_.size ≤ 9223372036854775807 → -(s_.size : Int) = wrap64 (-(s_.size : Int)) := (fun s_ h_ => by unfold wrap64; omega); rw [← z_ _ (by omega)]; rfl)) ?_
                     with_reducible refine (num_Trim.calls k4 (x283002_2.extract 0 (x11_17 : Int).toNat) t292 _ A56.out).mono ?_
                     rintro e w' ⟨rfl, ⟨nd, rfl⟩⟩
                     refine ⟨_, rfl, ?_⟩
                     refine hK.out _ _ ⟨(blk_cell BK286.out 0).trans rfl, (blk_cell BK286.out 1).trans rfl, (blk_cell BK286.out 2).trans rfl, (blk_cell BK282.out 0).trans rfl, (blk_cell BK282.out 1).trans rfl, (blk_cell BK282.out 2).trans rfl⟩ (fun hHeld => ?_)
                     clear hK K
                     refine norm_ (a' := ?_) ?_ ?_
                     rotate_left
                     ·show Act.put _ (some 100) _ = _
                      simp only [Act.put, List.setIfInBounds_toArray, List.set_cons_zero, List.set_cons_succ, i64_w, i32_w]
                      rfl
                     refine pure_ (i := 29) (N := some 101) (v := ?_) (a' := ?_) (bm_ 45 1073741823) rfl rfl (any_of HT_.out (by kernel_rfl)) (fun _ _ _ h => h) (Or.inl ⟨by rfl, ?_⟩) ?_ ?_
                     rotate_left; ·intro w'; go_simp; with_reducible rfl
                     rotate_left; ·simp only [Act.put, List.setIfInBounds_toArray, List.set_cons_zero, List.set_cons_succ, i64_w, i32_w]; rfl
                     refine pure_ (i := 30) (N := some 102) (v := ?_) (a' := ?_) (bm_ 45 2147483647) rfl rfl (any_of HT_.out (by kernel_rfl)) (fun _ _ _ h => h) (Or.inl ⟨by rfl, ?_⟩) ?_ ?_
                     rotate_left; ·intro w'; go_simp; with_reducible rfl
                     rotate_left; ·simp only [Act.put, List.setIfInBounds_toArray, List.set_cons_zero, List.set_cons_succ, i64_w, i32_w]; rfl
                     refine pure_ (i := 31) (N := some 103) (v := ?_) (a' := ?_) (bm_ 45 4294967295) rfl rfl (any_of HT_.out (by kernel_rfl)) (fun _ _ _ h => h) (Or.inl ⟨by rfl, ?_⟩) ?_ ?_
                     rotate_left; ·intro w'; go_simp; with_reducible rfl
                     rotate_left; ·simp only [Act.put, List.setIfInBounds_toArray, List.set_cons_zero, List.set_cons_succ, i64_w, i32_w]; rfl
                     refine pure_ (i := 34) (N := some 106) (v := ?_) (a' := ?_) (bm_ 45 21474836479) rfl rfl (any_of HT_.out (by kernel_rfl)) (fun _ _ _ h => h) (Or.inl ⟨by rfl, ?_⟩) ?_ ?_
                     rotate_left; ·intro w'; go_simp; with_reducible rfl
                     rotate_left; ·simp only [Act.put, List.setIfInBounds_toArray, List.set_cons_zero, List.set_cons_succ, i64_w, i32_w]; rfl
                     refine take_ (i := 32) (N := some 104) (v := ?_) (a' := ?_) (bm_ 45 25769803775) rfl rfl (take_ofW HT_.out HW_.out (by kernel_rfl)) (fun _ _ _ h => h) (Or.inl ⟨by rfl, ?_⟩) hHeld ?_ ?_
                     rotate_left; ·rintro w' ⟨s0, s1, s2, s3, s4, s5⟩; go_simp; with_reducible rfl
                     rotate_left; ·simp only [Act.put, List.setIfInBounds_toArray, List.set_cons_zero, List.set_cons_succ, i64_w, i32_w]; rfl
                     refine one_ (i := 33) (N := some 105) (bm_ 45 34359738367) rfl rfl (one_of HT_.out (by kernel_rfl)) (by decide) (fun K hK => ?_)
                     refine goes_ Tryd.func26 (by kernel_rfl) rfl #[.agg #[.string t283, .string t284, .int .i64 t285]] (by rfl) rfl rfl (by (try simp only [List.map_toArray, List.map_cons, List.map_nil]); first | done | rfl | (simp only [List.length_drop, List.length_take]; rfl) | (have z_ : ∀ s_ : ByteArray, s_.size ≤ 9223372036854775807 → -(s_.size : Int) = wrap64 (-(s_.size : Int)) := (fun s_ h_ => by unfold wrap64; omega); rw [← z_ _ (by omega)]; rfl)) ?_
                     with_reducible refine (operand_Ops_Whole.calls k4 t283 t284 t285 t293 _ A58.out).mono ?_
                     rintro e w65 ⟨rfl, hb⟩
                     refine ⟨_, rfl, ?_⟩
                     have n0_ := bb_ BK282 hb
                     have n1_ := bb_ BK286 hb
                     have n2_ := Aside0.mk (below_step (by repeat (first | (with_reducible first | exact HB.out | apply below_alloc | apply pw_below_drewN | apply below_drew1 | refine below_set ?_ GE282.out | refine below_set ?_ GE286.out) | exact HB.out)) hb)
                     clear BK282
                     clear BK286
                     clear HB
                     have BK282 := n0_
                     have BK286 := n1_
                     have HB := n2_
                     clear n0_ n1_ n2_
                     (try clear hb)
                     (try clear hb2)
                     (try clear hk)
                     (try clear hi)
                     refine hK.out _ _ ⟨(blk_cell BK286.out 0).trans rfl, (blk_cell BK286.out 1).trans rfl, (blk_cell BK286.out 2).trans rfl, (blk_cell BK282.out 0).trans rfl, (blk_cell BK282.out 1).trans rfl, (blk_cell BK282.out 2).trans rfl⟩ (fun hHeld => ?_)
                     clear hK K
                     refine norm_ (a' := ?_) ?_ ?_
                     rotate_left
                     ·show Act.put _ (some 105) _ = _
                      simp only [Act.put, List.setIfInBounds_toArray, List.set_cons_zero, List.set_cons_succ, i64_w, i32_w]
                      rfl
                     refine pure_ (i := 35) (N := some 107) (v := ?_) (a' := ?_) (bm_ 45 68719476735) rfl rfl (any_of HT_.out (by kernel_rfl)) (fun _ _ _ h => h) (Or.inl ⟨by rfl, ?_⟩) ?_ ?_
                     rotate_left; ·intro w'; go_simp; with_reducible rfl
                     rotate_left; ·simp only [Act.put, List.setIfInBounds_toArray, List.set_cons_zero, List.set_cons_succ, i64_w, i32_w]; rfl
                     refine pure_ (i := 36) (N := some 108) (v := ?_) (a' := ?_) (bm_ 45 137438953471) rfl rfl (any_of HT_.out (by kernel_rfl)) (fun _ _ _ h => h) (Or.inl ⟨by rfl, ?_⟩) ?_ ?_
                     rotate_left; ·intro w'; go_simp; with_reducible rfl
                     rotate_left; ·simp only [Act.put, List.setIfInBounds_toArray, List.set_cons_zero, List.set_cons_succ, i64_w, i32_w]; rfl
                     refine pure_ (i := 37) (N := some 109) (v := ?_) (a' := ?_) (bm_ 45 274877906943) rfl rfl (any_of HT_.out (by kernel_rfl)) (fun _ _ _ h => h) (Or.inl ⟨by rfl, ?_⟩) ?_ ?_
                     rotate_left; ·intro w'; go_simp; with_reducible rfl
                     rotate_left; ·simp only [Act.put, List.setIfInBounds_toArray, List.set_cons_zero, List.set_cons_succ, i64_w, i32_w]; rfl
                     refine pure_ (i := 38) (N := some 110) (v := undef) (a' := ?_) (bm_ 45 549755813887) rfl rfl (any_of HT_.out (by kernel_rfl)) (fun _ _ _ h => h) (Or.inr ⟨by rfl, rfl⟩) ?_ ?_
                     rotate_left; ·simp only [Act.put, List.setIfInBounds_toArray, List.set_cons_zero, List.set_cons_succ, i64_w, i32_w]; rfl
                     refine pure_ (i := 39) (N := some 111) (v := undef) (a' := ?_) (bm_ 45 1099511627775) rfl rfl (any_of HT_.out (by kernel_rfl)) (fun _ _ _ h => h) (Or.inr ⟨by rfl, rfl⟩) ?_ ?_
                     rotate_left; ·simp only [Act.put, List.setIfInBounds_toArray, List.set_cons_zero, List.set_cons_succ, i64_w, i32_w]; rfl
                     refine pure_ (i := 40) (N := some 112) (v := undef) (a' := ?_) (bm_ 45 2199023255551) rfl rfl (any_of HT_.out (by kernel_rfl)) (fun _ _ _ h => h) (Or.inr ⟨by rfl, rfl⟩) ?_ ?_
                     rotate_left; ·simp only [Act.put, List.setIfInBounds_toArray, List.set_cons_zero, List.set_cons_succ, i64_w, i32_w]; rfl
                     refine pure_ (i := 41) (N := some 113) (v := undef) (a' := ?_) (bm_ 45 4398046511103) rfl rfl (any_of HT_.out (by kernel_rfl)) (fun _ _ _ h => h) (Or.inr ⟨by rfl, rfl⟩) ?_ ?_
                     rotate_left; ·simp only [Act.put, List.setIfInBounds_toArray, List.set_cons_zero, List.set_cons_succ, i64_w, i32_w]; rfl
                     refine pure_ (i := 42) (N := some 114) (v := undef) (a' := ?_) (bm_ 45 8796093022207) rfl rfl (any_of HT_.out (by kernel_rfl)) (fun _ _ _ h => h) (Or.inr ⟨by rfl, rfl⟩) ?_ ?_
                     rotate_left; ·simp only [Act.put, List.setIfInBounds_toArray, List.set_cons_zero, List.set_cons_succ, i64_w, i32_w]; rfl
                     refine pure_ (i := 43) (N := some 115) (v := undef) (a' := ?_) (bm_ 45 17592186044415) rfl rfl (any_of HT_.out (by kernel_rfl)) (fun _ _ _ h => h) (Or.inr ⟨by rfl, rfl⟩) ?_ ?_
                     rotate_left; ·simp only [Act.put, List.setIfInBounds_toArray, List.set_cons_zero, List.set_cons_succ, i64_w, i32_w]; rfl
                     refine pure_ (i := 44) (N := some 116) (v := ?_) (a' := ?_) (bm_ 45 35184372088831) rfl rfl (any_of HT_.out (by kernel_rfl)) (fun _ _ _ h => h) (Or.inl ⟨by rfl, ?_⟩) ?_ ?_
                     rotate_left; ·intro w'; go_simp; with_reducible rfl
                     rotate_left; ·simp only [Act.put, List.setIfInBounds_toArray, List.set_cons_zero, List.set_cons_succ, i64_w, i32_w]; rfl
                     refine done_ (done_of HT_.out (by kernel_rfl)) ?_
                     try go_wp2
                     go_meet
                     case rel => exact ⟨_, (true), (by first | rfl | (simp; done) | (simp [*]; done) | (simp; first | exact given_isEmpty _ | exact (given_isEmpty _).symm) | (unfold wrap64; omega) | (congr 1; unfold wrap64; omega)), H', ⟨by have := HJ5.out; have := HK2.out; have := HJ17.out; have := HK4.out; first | omega | exact Nat.le_refl _⟩, ⟨by (with_reducible repeat (first | refine blk_drewN ?_ _ | refine blk_drew ?_ | refine blk_alloc ?_ _)); exact BK282.out⟩, ⟨by (with_reducible repeat (first | refine blk_drewN ?_ _ | refine blk_drew ?_ | refine blk_alloc ?_ _)); exact BK286.out⟩, ⟨by repeat (first | (with_reducible first | exact HB.out | apply below_alloc | apply pw_below_drewN | apply below_drew1 | refine below_set ?_ GE282.out | refine below_set ?_ GE286.out) | exact HB.out)⟩⟩
                    ·rw [if_neg c59] at H
                     have c59b0 : (t293 != x12_4) = false := by simpa using c59
                     (try (have c59b1 : decide (t293 = x12_4) = true := by simpa using c59))
                     (try (have c59b2 : (t293 == x12_4) = true := by simpa using c59))
                     clear c59
                     replace H := Option.bind_eq_some_iff.mp H
                     obtain ⟨t294, A660, H⟩ := H
                     replace H : ((num_Trim.f k4 t280).bind fun t295 => (florinlaw05_OperandParts.j5 k4 (t294.toList != t295.toList) t283 t284 t285)) = some r := H
                     have A66 := Aside0.mk A660
                     clear A660
                     replace H := Option.bind_eq_some_iff.mp H
                     obtain ⟨t295, A670, H⟩ := H
                     replace H : (florinlaw05_OperandParts.j5 k4 (t294.toList != t295.toList) t283 t284 t285) = some r := H
                     have A67 := Aside0.mk A670
                     clear A670
                     have H' := Aside0.mk H
                     clear H
                     try go_wp2
                     have n0_ := Aside0.mk (blk_drew BK282.out)
                     have n1_ := Aside0.mk (blk_drew BK286.out)
                     have n2_ := Aside0.mk (below_drew1 HB.out)
                     clear BK282
                     clear BK286
                     clear HB
                     have BK282 := n0_
                     have BK286 := n1_
                     have HB := n2_
                     clear n0_ n1_ n2_
                     refine start_ (n := 45) (S := fun w' => w'.cell? ⟨gb286, 0, none⟩ = some (.string t283) ∧ w'.cell? ⟨gb286, 1, none⟩ = some (.string t284) ∧ w'.cell? ⟨gb286, 2, none⟩ = some (.int .i64 t285) ∧ w'.cell? ⟨gb282, 0, none⟩ = some (.bool t279) ∧ w'.cell? ⟨gb282, 1, none⟩ = some (.string t280) ∧ w'.cell? ⟨gb282, 2, none⟩ = some (.string x283002_2)) (ds := []) #[false, false, false, false, false, false, false, false, false, false, false, false, false, false, false, false, false, false, false, false, false, false, false, false, false, false, false, false, false, false, false, false, false, false, false, false, false, false, false, false, false, false, false, false, false] (by kernel_rfl) rfl rfl ⟨(blk_cell BK286.out 0).trans rfl, (blk_cell BK286.out 1).trans rfl, (blk_cell BK286.out 2).trans rfl, (blk_cell BK282.out 0).trans rfl, (blk_cell BK282.out 1).trans rfl, (blk_cell BK282.out 2).trans rfl⟩ (fun hHeld => ?_); refine with_tabW florinlaw05_OperandParts.tab20 florinlaw05_OperandParts.bits20 (fun HT_ HW_ => ?_)
                     generalize wr.drew = w68 at BK282 BK286 HB hHeld ⊢
                     refine pure_ (i := 2) (N := some 74) (v := ?_) (a' := ?_) (bm_ 45 4) rfl rfl (any_of HT_.out (by kernel_rfl)) (fun _ _ _ h => h) (Or.inl ⟨by rfl, ?_⟩) ?_ ?_
                     rotate_left; ·intro w'; go_simp; with_reducible rfl
                     rotate_left; ·simp only [Act.put, List.setIfInBounds_toArray, List.set_cons_zero, List.set_cons_succ, i64_w, i32_w]; rfl
                     refine pure_ (i := 3) (N := some 75) (v := ?_) (a' := ?_) (bm_ 45 12) rfl rfl (any_of HT_.out (by kernel_rfl)) (fun _ _ _ h => h) (Or.inl ⟨by rfl, ?_⟩) ?_ ?_
                     rotate_left; ·intro w'; go_simp; with_reducible rfl
                     rotate_left; ·simp only [Act.put, List.setIfInBounds_toArray, List.set_cons_zero, List.set_cons_succ, i64_w, i32_w]; rfl
                     refine pure_ (i := 4) (N := some 76) (v := ?_) (a' := ?_) (bm_ 45 28) rfl rfl (any_of HT_.out (by kernel_rfl)) (fun _ _ _ h => h) (Or.inl ⟨by rfl, ?_⟩) ?_ ?_
                     rotate_left; ·intro w'; go_simp; with_reducible rfl
                     rotate_left; ·simp only [Act.put, List.setIfInBounds_toArray, List.set_cons_zero, List.set_cons_succ, i64_w, i32_w]; rfl
                     refine pure_ (i := 5) (N := some 77) (v := ?_) (a' := ?_) (bm_ 45 60) rfl rfl (any_of HT_.out (by kernel_rfl)) (fun _ _ _ h => h) (Or.inl ⟨by rfl, ?_⟩) ?_ ?_
                     rotate_left; ·intro w'; go_simp; with_reducible rfl
                     rotate_left; ·simp only [Act.put, List.setIfInBounds_toArray, List.set_cons_zero, List.set_cons_succ, i64_w, i32_w]; rfl
                     refine take_ (i := 0) (N := some 72) (v := ?_) (a' := ?_) (bm_ 45 61) rfl rfl (take_ofW HT_.out HW_.out (by kernel_rfl)) (fun _ _ _ h => h) (Or.inl ⟨by rfl, ?_⟩) hHeld ?_ ?_
                     rotate_left; ·rintro w' ⟨s0, s1, s2, s3, s4, s5⟩; go_simp; with_reducible rfl
                     rotate_left; ·simp only [Act.put, List.setIfInBounds_toArray, List.set_cons_zero, List.set_cons_succ, i64_w, i32_w]; rfl
                     refine one_ (i := 1) (N := some 73) (bm_ 45 63) rfl rfl (one_of HT_.out (by kernel_rfl)) (by decide) (fun K hK => ?_)
                     refine goes_ Tryd.func18 (by kernel_rfl) rfl #[.agg #[.string t283, .string t284, .int .i64 t285]] (by rfl) rfl rfl (by (try simp only [List.map_toArray, List.map_cons, List.map_nil]); first | done | rfl | (simp only [List.length_drop, List.length_take]; rfl) | (have z_ : ∀ s_ : ByteArray, s_.size ≤ 9223372036854775807 → -(s_.size : Int) = wrap64 (-(s_.size : Int)) := (fun s_ h_ => by unfold wrap64; omega); rw [← z_ _ (by omega)]; rfl)) ?_
                     with_reducible refine (operand_Ops_V.calls t283 t284 t285 t287 _ A46.out).mono ?_
                     rintro e w69 ⟨rfl, hb⟩
                     refine ⟨_, rfl, ?_⟩
                     have n0_ := bb_ BK282 hb
                     have n1_ := bb_ BK286 hb
                     have n2_ := Aside0.mk (below_step (by repeat (first | (with_reducible first | exact HB.out | apply below_alloc | apply pw_below_drewN | apply below_drew1 | refine below_set ?_ GE282.out | refine below_set ?_ GE286.out) | exact HB.out)) hb)
                     clear BK282
                     clear BK286
                     clear HB
                     have BK282 := n0_
                     have BK286 := n1_
                     have HB := n2_
                     clear n0_ n1_ n2_
                     (try clear hb)
                     (try clear hb2)
                     (try clear hk)
                     (try clear hi)
                     refine hK.out _ _ ⟨(blk_cell BK286.out 0).trans rfl, (blk_cell BK286.out 1).trans rfl, (blk_cell BK286.out 2).trans rfl, (blk_cell BK282.out 0).trans rfl, (blk_cell BK282.out 1).trans rfl, (blk_cell BK282.out 2).trans rfl⟩ (fun hHeld => ?_)
                     clear hK K
                     refine norm_ (a' := ?_) ?_ ?_
                     rotate_left
                     ·show Act.put _ (some 73) _ = _
                      simp only [Act.put, List.setIfInBounds_toArray, List.set_cons_zero, List.set_cons_succ, i64_w, i32_w]
                      rfl
                     refine pure_ (i := 6) (N := some 78) (v := ?_) (a' := ?_) (bm_ 45 127) rfl rfl (any_of HT_.out (by kernel_rfl)) (fun _ _ _ h => h) (Or.inl ⟨by rfl, ?_⟩) ?_ ?_
                     rotate_left; ·intro w'; go_simp; with_reducible rfl
                     rotate_left; ·simp only [Act.put, List.setIfInBounds_toArray, List.set_cons_zero, List.set_cons_succ, i64_w, i32_w]; rfl
                     refine pure_ (i := 7) (N := some 79) (v := ?_) (a' := ?_) (bm_ 45 255) rfl rfl (any_of HT_.out (by kernel_rfl)) (fun _ _ _ h => h) (Or.inl ⟨by rfl, ?_⟩) ?_ ?_
                     rotate_left; ·intro w'; go_simp; with_reducible rfl
                     rotate_left; ·simp only [Act.put, List.setIfInBounds_toArray, List.set_cons_zero, List.set_cons_succ, i64_w, i32_w]; rfl
                     refine pure_ (i := 10) (N := some 82) (v := ?_) (a' := ?_) (bm_ 45 1279) rfl rfl (any_of HT_.out (by kernel_rfl)) (fun _ _ _ h => h) (Or.inl ⟨by rfl, ?_⟩) ?_ ?_
                     rotate_left; ·intro w'; go_simp; with_reducible rfl
                     rotate_left; ·simp only [Act.put, List.setIfInBounds_toArray, List.set_cons_zero, List.set_cons_succ, i64_w, i32_w]; rfl
                     refine take_ (i := 8) (N := some 80) (v := ?_) (a' := ?_) (bm_ 45 1535) rfl rfl (take_ofW HT_.out HW_.out (by kernel_rfl)) (fun _ _ _ h => h) (Or.inl ⟨by rfl, ?_⟩) hHeld ?_ ?_
                     rotate_left; ·rintro w' ⟨s0, s1, s2, s3, s4, s5⟩; go_simp; with_reducible rfl
                     rotate_left; ·simp only [Act.put, List.setIfInBounds_toArray, List.set_cons_zero, List.set_cons_succ, i64_w, i32_w]; rfl
                     refine one_ (i := 9) (N := some 81) (bm_ 45 2047) rfl rfl (one_of HT_.out (by kernel_rfl)) (by decide) (fun K hK => ?_)
                     refine goes_ Tryd.func23 (by kernel_rfl) rfl #[.agg #[.string t283, .string t284, .int .i64 t285]] (by rfl) rfl rfl (by (try simp only [List.map_toArray, List.map_cons, List.map_nil]); first | done | rfl | (simp only [List.length_drop, List.length_take]; rfl) | (have z_ : ∀ s_ : ByteArray, s_.size ≤ 9223372036854775807 → -(s_.size : Int) = wrap64 (-(s_.size : Int)) := (fun s_ h_ => by unfold wrap64; omega); rw [← z_ _ (by omega)]; rfl)) ?_
                     with_reducible refine (operand_Ops_W.calls t283 t284 t285 t288 _ A48.out).mono ?_
                     rintro e w70 ⟨rfl, hb⟩
                     refine ⟨_, rfl, ?_⟩
                     have n0_ := bb_ BK282 hb
                     have n1_ := bb_ BK286 hb
                     have n2_ := Aside0.mk (below_step (by repeat (first | (with_reducible first | exact HB.out | apply below_alloc | apply pw_below_drewN | apply below_drew1 | refine below_set ?_ GE282.out | refine below_set ?_ GE286.out) | exact HB.out)) hb)
                     clear BK282
                     clear BK286
                     clear HB
                     have BK282 := n0_
                     have BK286 := n1_
                     have HB := n2_
                     clear n0_ n1_ n2_
                     (try clear hb)
                     (try clear hb2)
                     (try clear hk)
                     (try clear hi)
                     refine hK.out _ _ ⟨(blk_cell BK286.out 0).trans rfl, (blk_cell BK286.out 1).trans rfl, (blk_cell BK286.out 2).trans rfl, (blk_cell BK282.out 0).trans rfl, (blk_cell BK282.out 1).trans rfl, (blk_cell BK282.out 2).trans rfl⟩ (fun hHeld => ?_)
                     clear hK K
                     refine norm_ (a' := ?_) ?_ ?_
                     rotate_left
                     ·show Act.put _ (some 81) _ = _
                      simp only [Act.put, List.setIfInBounds_toArray, List.set_cons_zero, List.set_cons_succ, i64_w, i32_w]
                      rfl
                     refine pure_ (i := 11) (N := some 83) (v := ?_) (a' := ?_) (bm_ 45 4095) rfl rfl (any_of HT_.out (by kernel_rfl)) (fun _ _ _ h => h) (Or.inl ⟨by rfl, ?_⟩) ?_ ?_
                     rotate_left; ·intro w'; go_simp; with_reducible rfl
                     rotate_left; ·simp only [Act.put, List.setIfInBounds_toArray, List.set_cons_zero, List.set_cons_succ, i64_w, i32_w]; rfl
                     refine pure_ (i := 12) (N := some 84) (v := ?_) (a' := ?_) (bm_ 45 8191) rfl rfl (any_of HT_.out (by kernel_rfl)) (fun _ _ _ h => h) (Or.inl ⟨by rfl, ?_⟩) ?_ ?_
                     rotate_left; ·intro w'; go_simp; with_reducible rfl
                     rotate_left; ·simp only [Act.put, List.setIfInBounds_toArray, List.set_cons_zero, List.set_cons_succ, i64_w, i32_w]; rfl
                     refine pure_ (i := 13) (N := some 85) (v := ?_) (a' := ?_) (bm_ 45 16383) rfl rfl (any_of HT_.out (by kernel_rfl)) (fun _ _ _ h => h) (Or.inl ⟨by rfl, ?_⟩) ?_ ?_
                     rotate_left; ·intro w'; go_simp; with_reducible rfl
                     rotate_left; ·simp only [Act.put, List.setIfInBounds_toArray, List.set_cons_zero, List.set_cons_succ, i64_w, i32_w]; rfl
                     refine pure_ (i := 16) (N := some 88) (v := ?_) (a' := ?_) (bm_ 45 81919) rfl rfl (any_of HT_.out (by kernel_rfl)) (fun _ _ _ h => h) (Or.inl ⟨by rfl, ?_⟩) ?_ ?_
                     rotate_left; ·intro w'; go_simp; with_reducible rfl
                     rotate_left; ·simp only [Act.put, List.setIfInBounds_toArray, List.set_cons_zero, List.set_cons_succ, i64_w, i32_w]; rfl
                     refine take_ (i := 14) (N := some 86) (v := ?_) (a' := ?_) (bm_ 45 98303) rfl rfl (take_ofW HT_.out HW_.out (by kernel_rfl)) (fun _ _ _ h => h) (Or.inl ⟨by rfl, ?_⟩) hHeld ?_ ?_
                     rotate_left; ·rintro w' ⟨s0, s1, s2, s3, s4, s5⟩; go_simp; with_reducible rfl
                     rotate_left; ·simp only [Act.put, List.setIfInBounds_toArray, List.set_cons_zero, List.set_cons_succ, i64_w, i32_w]; rfl
                     refine take_ (i := 17) (N := some 89) (v := ?_) (a' := ?_) (bm_ 45 229375) rfl rfl (take_ofW HT_.out HW_.out (by kernel_rfl)) (fun _ _ _ h => h) (Or.inl ⟨by rfl, ?_⟩) hHeld ?_ ?_
                     rotate_left; ·rintro w' ⟨s0, s1, s2, s3, s4, s5⟩; go_simp; with_reducible rfl
                     rotate_left; ·simp only [Act.put, List.setIfInBounds_toArray, List.set_cons_zero, List.set_cons_succ, i64_w, i32_w]; rfl
                     refine one_ (i := 15) (N := some 87) (bm_ 45 262143) rfl rfl (one_of HT_.out (by kernel_rfl)) (by decide) (fun K hK => ?_)
                     refine goes_ Tryd.func24 (by kernel_rfl) rfl #[.agg #[.string t283, .string t284, .int .i64 t285]] (by rfl) rfl rfl (by (try simp only [List.map_toArray, List.map_cons, List.map_nil]); first | done | rfl | (simp only [List.length_drop, List.length_take]; rfl) | (have z_ : ∀ s_ : ByteArray, s_.size ≤ 9223372036854775807 → -(s_.size : Int) = wrap64 (-(s_.size : Int)) := (fun s_ h_ => by unfold wrap64; omega); rw [← z_ _ (by omega)]; rfl)) ?_
                     with_reducible refine (operand_Ops_F.calls k4 t283 t284 t285 t289 _ A50.out).mono ?_
                     rintro e w71 ⟨rfl, hb⟩
                     refine ⟨_, rfl, ?_⟩
                     have n0_ := bb_ BK282 hb
                     have n1_ := bb_ BK286 hb
                     have n2_ := Aside0.mk (below_step (by repeat (first | (with_reducible first | exact HB.out | apply below_alloc | apply pw_below_drewN | apply below_drew1 | refine below_set ?_ GE282.out | refine below_set ?_ GE286.out) | exact HB.out)) hb)
                     clear BK282
                     clear BK286
                     clear HB
                     have BK282 := n0_
                     have BK286 := n1_
                     have HB := n2_
                     clear n0_ n1_ n2_
                     (try clear hb)
                     (try clear hb2)
                     (try clear hk)
                     (try clear hi)
                     refine hK.out _ _ ⟨(blk_cell BK286.out 0).trans rfl, (blk_cell BK286.out 1).trans rfl, (blk_cell BK286.out 2).trans rfl, (blk_cell BK282.out 0).trans rfl, (blk_cell BK282.out 1).trans rfl, (blk_cell BK282.out 2).trans rfl⟩ (fun hHeld => ?_)
                     clear hK K
                     refine norm_ (a' := ?_) ?_ ?_
                     rotate_left
                     ·show Act.put _ (some 87) _ = _
                      simp only [Act.put, List.setIfInBounds_toArray, List.set_cons_zero, List.set_cons_succ, i64_w, i32_w]
                      rfl
                     refine one_ (i := 18) (N := some 90) (bm_ 45 524287) rfl rfl (one_of HT_.out (by kernel_rfl)) (by decide) (fun K hK => ?_)
                     refine goes_ Tryd.func16 (by kernel_rfl) rfl #[.string x283002_2] (by rfl) rfl rfl (by (try simp only [List.map_toArray, List.map_cons, List.map_nil]); first | done | rfl | (simp only [List.length_drop, List.length_take]; rfl) | (have z_ : ∀ s_ : ByteArray, s_.size ≤ 9223372036854775807 → -(s_.size : Int) = wrap64 (-(s_.size : Int)) := (fun s_ h_ => by unfold wrap64; omega); rw [← z_ _ (by omega)]; rfl)) ?_
                     with_reducible refine (num_Trim.calls k4 x283002_2 t290 _ A51.out).mono ?_
                     rintro e w' ⟨rfl, ⟨nd, rfl⟩⟩
                     refine ⟨_, rfl, ?_⟩
                     refine hK.out _ _ ⟨(blk_cell BK286.out 0).trans rfl, (blk_cell BK286.out 1).trans rfl, (blk_cell BK286.out 2).trans rfl, (blk_cell BK282.out 0).trans rfl, (blk_cell BK282.out 1).trans rfl, (blk_cell BK282.out 2).trans rfl⟩ (fun hHeld => ?_)
                     clear hK K
                     refine norm_ (a' := ?_) ?_ ?_
                     rotate_left
                     ·show Act.put _ (some 90) _ = _
                      simp only [Act.put, List.setIfInBounds_toArray, List.set_cons_zero, List.set_cons_succ, i64_w, i32_w]
                      rfl
                     refine pure_ (i := 19) (N := some 91) (v := ?_) (a' := ?_) (bm_ 45 1048575) rfl rfl (any_of HT_.out (by kernel_rfl)) (fun _ _ _ h => h) (Or.inl ⟨by rfl, ?_⟩) ?_ ?_
                     rotate_left; ·intro w'; go_simp; with_reducible rfl
                     rotate_left; ·simp only [Act.put, List.setIfInBounds_toArray, List.set_cons_zero, List.set_cons_succ, i64_w, i32_w]; rfl
                     refine pure_ (i := 20) (N := some 92) (v := ?_) (a' := ?_) (bm_ 45 2097151) rfl rfl (any_of HT_.out (by kernel_rfl)) (fun _ _ _ h => h) (Or.inl ⟨by rfl, ?_⟩) ?_ ?_
                     rotate_left; ·intro w'; go_simp; with_reducible rfl
                     rotate_left; ·simp only [Act.put, List.setIfInBounds_toArray, List.set_cons_zero, List.set_cons_succ, i64_w, i32_w]; rfl
                     refine pure_ (i := 21) (N := some 93) (v := ?_) (a' := ?_) (bm_ 45 4194303) rfl rfl (any_of HT_.out (by kernel_rfl)) (fun _ _ _ h => h) (Or.inl ⟨by rfl, ?_⟩) ?_ ?_
                     rotate_left; ·intro w'; go_simp; with_reducible rfl
                     rotate_left; ·simp only [Act.put, List.setIfInBounds_toArray, List.set_cons_zero, List.set_cons_succ, i64_w, i32_w]; rfl
                     refine pure_ (i := 24) (N := some 96) (v := ?_) (a' := ?_) (bm_ 45 20971519) rfl rfl (any_of HT_.out (by kernel_rfl)) (fun _ _ _ h => h) (Or.inl ⟨by rfl, ?_⟩) ?_ ?_
                     rotate_left; ·intro w'; go_simp; with_reducible rfl
                     rotate_left; ·simp only [Act.put, List.setIfInBounds_toArray, List.set_cons_zero, List.set_cons_succ, i64_w, i32_w]; rfl
                     refine pure_ (i := 26) (N := some 98) (v := ?_) (a' := ?_) (bm_ 45 88080383) rfl rfl (any_of HT_.out (by kernel_rfl)) (fun _ _ _ h => h) (Or.inl ⟨by rfl, ?_⟩) ?_ ?_
                     rotate_left; ·intro w'; go_simp; with_reducible rfl
                     rotate_left; ·simp only [Act.put, List.setIfInBounds_toArray, List.set_cons_zero, List.set_cons_succ, i64_w, i32_w]; rfl
                     refine take_ (i := 22) (N := some 94) (v := ?_) (a' := ?_) (bm_ 45 92274687) rfl rfl (take_ofW HT_.out HW_.out (by kernel_rfl)) (fun _ _ _ h => h) (Or.inl ⟨by rfl, ?_⟩) hHeld ?_ ?_
                     rotate_left; ·rintro w' ⟨s0, s1, s2, s3, s4, s5⟩; go_simp; with_reducible rfl
                     rotate_left; ·simp only [Act.put, List.setIfInBounds_toArray, List.set_cons_zero, List.set_cons_succ, i64_w, i32_w]; rfl
                     refine take_ (i := 25) (N := some 97) (v := ?_) (a' := ?_) (bm_ 45 125829119) rfl rfl (take_ofW HT_.out HW_.out (by kernel_rfl)) (fun _ _ _ h => h) (Or.inl ⟨by rfl, ?_⟩) hHeld ?_ ?_
                     rotate_left; ·rintro w' ⟨s0, s1, s2, s3, s4, s5⟩; go_simp; with_reducible rfl
                     rotate_left; ·simp only [Act.put, List.setIfInBounds_toArray, List.set_cons_zero, List.set_cons_succ, i64_w, i32_w]; rfl
                     refine pure_ (i := 27) (N := some 99) (v := ?_) (a' := ?_) (bm_ 45 260046847) rfl rfl (any_of HT_.out (by kernel_rfl)) (fun _ _ _ h => h) (Or.inl ⟨by rfl, ?_⟩) ?_ ?_
                     rotate_left; ·intro w'; go_simp; with_reducible rfl
                     rotate_left; ·simp only [Act.put, List.setIfInBounds_toArray, List.set_cons_zero, List.set_cons_succ, i64_w, i32_w]; rfl
                     refine one_ (i := 23) (N := some 95) (bm_ 45 268435455) rfl rfl (one_of HT_.out (by kernel_rfl)) (by decide) (fun K hK => ?_)
                     refine goes_ Tryd.func25 (by kernel_rfl) rfl #[.agg #[.string t283, .string t284, .int .i64 t285]] (by rfl) rfl rfl (by (try simp only [List.map_toArray, List.map_cons, List.map_nil]); first | done | rfl | (simp only [List.length_drop, List.length_take]; rfl) | (have z_ : ∀ s_ : ByteArray, s_.size ≤ 9223372036854775807 → -(s_.size : Int) = wrap64 (-(s_.size : Int)) := (fun s_ h_ => by unfold wrap64; omega); rw [← z_ _ (by omega)]; rfl)) ?_
                     with_reducible refine (operand_Ops_T.calls k4 t283 t284 t285 t291 _ A53.out).mono ?_
                     rintro e w72 ⟨rfl, hb⟩
                     refine ⟨_, rfl, ?_⟩
                     have n0_ := bb_ BK282 hb
                     have n1_ := bb_ BK286 hb
                     have n2_ := Aside0.mk (below_step (by repeat (first | (with_reducible first | exact HB.out | apply below_alloc | apply pw_below_drewN | apply below_drew1 | refine below_set ?_ GE282.out | refine below_set ?_ GE286.out) | exact HB.out)) hb)
                     clear BK282
                     clear BK286
                     clear HB
                     have BK282 := n0_
                     have BK286 := n1_
                     have HB := n2_
                     clear n0_ n1_ n2_
                     (try clear hb)
                     (try clear hb2)
                     (try clear hk)
                     (try clear hi)
                     refine hK.out _ _ ⟨(blk_cell BK286.out 0).trans rfl, (blk_cell BK286.out 1).trans rfl, (blk_cell BK286.out 2).trans rfl, (blk_cell BK282.out 0).trans rfl, (blk_cell BK282.out 1).trans rfl, (blk_cell BK282.out 2).trans rfl⟩ (fun hHeld => ?_)
                     clear hK K
                     refine norm_ (a' := ?_) ?_ ?_
                     rotate_left
                     ·show Act.put _ (some 95) _ = _
                      simp only [Act.put, List.setIfInBounds_toArray, List.set_cons_zero, List.set_cons_succ, i64_w, i32_w]
                      rfl
                     refine one_ (i := 28) (N := some 100) (bm_ 45 536870911) rfl rfl (one_of HT_.out (by kernel_rfl)) (by decide) (fun K hK => ?_)
                     refine goes_ Tryd.func16 (by kernel_rfl) rfl #[.string (x283002_2.extract 0 (x11_17 : Int).toNat)] (by rfl) rfl rfl (by (try simp only [List.map_toArray, List.map_cons, List.map_nil]); first | done | rfl | (simp only [List.length_drop, List.length_take]; rfl) | (have z_ : ∀ s_ : ByteArray, s_.size ≤ 9223372036854775807 → -(s_.size : Int) = wrap64 (-(s_.size : Int)) := (fun s_ h_ => by unfold wrap64; omega); rw [← z_ _ (by omega)]; rfl)) ?_
                     with_reducible refine (num_Trim.calls k4 (x283002_2.extract 0 (x11_17 : Int).toNat) t292 _ A56.out).mono ?_
                     rintro e w' ⟨rfl, ⟨nd, rfl⟩⟩
                     refine ⟨_, rfl, ?_⟩
                     refine hK.out _ _ ⟨(blk_cell BK286.out 0).trans rfl, (blk_cell BK286.out 1).trans rfl, (blk_cell BK286.out 2).trans rfl, (blk_cell BK282.out 0).trans rfl, (blk_cell BK282.out 1).trans rfl, (blk_cell BK282.out 2).trans rfl⟩ (fun hHeld => ?_)
                     clear hK K
                     refine norm_ (a' := ?_) ?_ ?_
                     rotate_left
                     ·show Act.put _ (some 100) _ = _
                      simp only [Act.put, List.setIfInBounds_toArray, List.set_cons_zero, List.set_cons_succ, i64_w, i32_w]
                      rfl
                     refine pure_ (i := 29) (N := some 101) (v := ?_) (a' := ?_) (bm_ 45 1073741823) rfl rfl (any_of HT_.out (by kernel_rfl)) (fun _ _ _ h => h) (Or.inl ⟨by rfl, ?_⟩) ?_ ?_
                     rotate_left; ·intro w'; go_simp; with_reducible rfl
                     rotate_left; ·simp only [Act.put, List.setIfInBounds_toArray, List.set_cons_zero, List.set_cons_succ, i64_w, i32_w]; rfl
                     refine pure_ (i := 30) (N := some 102) (v := ?_) (a' := ?_) (bm_ 45 2147483647) rfl rfl (any_of HT_.out (by kernel_rfl)) (fun _ _ _ h => h) (Or.inl ⟨by rfl, ?_⟩) ?_ ?_
                     rotate_left; ·intro w'; go_simp; with_reducible rfl
                     rotate_left; ·simp only [Act.put, List.setIfInBounds_toArray, List.set_cons_zero, List.set_cons_succ, i64_w, i32_w]; rfl
                     refine pure_ (i := 31) (N := some 103) (v := ?_) (a' := ?_) (bm_ 45 4294967295) rfl rfl (any_of HT_.out (by kernel_rfl)) (fun _ _ _ h => h) (Or.inl ⟨by rfl, ?_⟩) ?_ ?_
                     rotate_left; ·intro w'; go_simp; with_reducible rfl
                     rotate_left; ·simp only [Act.put, List.setIfInBounds_toArray, List.set_cons_zero, List.set_cons_succ, i64_w, i32_w]; rfl
                     refine pure_ (i := 34) (N := some 106) (v := ?_) (a' := ?_) (bm_ 45 21474836479) rfl rfl (any_of HT_.out (by kernel_rfl)) (fun _ _ _ h => h) (Or.inl ⟨by rfl, ?_⟩) ?_ ?_
                     rotate_left; ·intro w'; go_simp; with_reducible rfl
                     rotate_left; ·simp only [Act.put, List.setIfInBounds_toArray, List.set_cons_zero, List.set_cons_succ, i64_w, i32_w]; rfl
                     refine take_ (i := 32) (N := some 104) (v := ?_) (a' := ?_) (bm_ 45 25769803775) rfl rfl (take_ofW HT_.out HW_.out (by kernel_rfl)) (fun _ _ _ h => h) (Or.inl ⟨by rfl, ?_⟩) hHeld ?_ ?_
                     rotate_left; ·rintro w' ⟨s0, s1, s2, s3, s4, s5⟩; go_simp; with_reducible rfl
                     rotate_left; ·simp only [Act.put, List.setIfInBounds_toArray, List.set_cons_zero, List.set_cons_succ, i64_w, i32_w]; rfl
                     refine one_ (i := 33) (N := some 105) (bm_ 45 34359738367) rfl rfl (one_of HT_.out (by kernel_rfl)) (by decide) (fun K hK => ?_)
                     refine goes_ Tryd.func26 (by kernel_rfl) rfl #[.agg #[.string t283, .string t284, .int .i64 t285]] (by rfl) rfl rfl (by (try simp only [List.map_toArray, List.map_cons, List.map_nil]); first | done | rfl | (simp only [List.length_drop, List.length_take]; rfl) | (have z_ : ∀ s_ : ByteArray, s_.size ≤ 9223372036854775807 → -(s_.size : Int) = wrap64 (-(s_.size : Int)) := (fun s_ h_ => by unfold wrap64; omega); rw [← z_ _ (by omega)]; rfl)) ?_
                     with_reducible refine (operand_Ops_Whole.calls k4 t283 t284 t285 t293 _ A58.out).mono ?_
                     rintro e w73 ⟨rfl, hb⟩
                     refine ⟨_, rfl, ?_⟩
                     have n0_ := bb_ BK282 hb
                     have n1_ := bb_ BK286 hb
                     have n2_ := Aside0.mk (below_step (by repeat (first | (with_reducible first | exact HB.out | apply below_alloc | apply pw_below_drewN | apply below_drew1 | refine below_set ?_ GE282.out | refine below_set ?_ GE286.out) | exact HB.out)) hb)
                     clear BK282
                     clear BK286
                     clear HB
                     have BK282 := n0_
                     have BK286 := n1_
                     have HB := n2_
                     clear n0_ n1_ n2_
                     (try clear hb)
                     (try clear hb2)
                     (try clear hk)
                     (try clear hi)
                     refine hK.out _ _ ⟨(blk_cell BK286.out 0).trans rfl, (blk_cell BK286.out 1).trans rfl, (blk_cell BK286.out 2).trans rfl, (blk_cell BK282.out 0).trans rfl, (blk_cell BK282.out 1).trans rfl, (blk_cell BK282.out 2).trans rfl⟩ (fun hHeld => ?_)
                     clear hK K
                     refine norm_ (a' := ?_) ?_ ?_
                     rotate_left
                     ·show Act.put _ (some 105) _ = _
                      simp only [Act.put, List.setIfInBounds_toArray, List.set_cons_zero, List.set_cons_succ, i64_w, i32_w]
                      rfl
                     refine pure_ (i := 35) (N := some 107) (v := ?_) (a' := ?_) (bm_ 45 68719476735) rfl rfl (any_of HT_.out (by kernel_rfl)) (fun _ _ _ h => h) (Or.inl ⟨by rfl, ?_⟩) ?_ ?_
                     rotate_left; ·intro w'; go_simp; with_reducible rfl
                     rotate_left; ·simp only [Act.put, List.setIfInBounds_toArray, List.set_cons_zero, List.set_cons_succ, i64_w, i32_w]; rfl
                     refine pure_ (i := 36) (N := some 108) (v := ?_) (a' := ?_) (bm_ 45 137438953471) rfl rfl (any_of HT_.out (by kernel_rfl)) (fun _ _ _ h => h) (Or.inl ⟨by rfl, ?_⟩) ?_ ?_
                     rotate_left; ·intro w'; go_simp; with_reducible rfl
                     rotate_left; ·simp only [Act.put, List.setIfInBounds_toArray, List.set_cons_zero, List.set_cons_succ, i64_w, i32_w]; rfl
                     refine pure_ (i := 37) (N := some 109) (v := ?_) (a' := ?_) (bm_ 45 274877906943) rfl rfl (any_of HT_.out (by kernel_rfl)) (fun _ _ _ h => h) (Or.inl ⟨by rfl, ?_⟩) ?_ ?_
                     rotate_left; ·intro w'; go_simp; with_reducible rfl
                     rotate_left; ·simp only [Act.put, List.setIfInBounds_toArray, List.set_cons_zero, List.set_cons_succ, i64_w, i32_w]; rfl
                     refine pure_ (i := 40) (N := some 112) (v := ?_) (a' := ?_) (bm_ 45 1374389534719) rfl rfl (any_of HT_.out (by kernel_rfl)) (fun _ _ _ h => h) (Or.inl ⟨by rfl, ?_⟩) ?_ ?_
                     rotate_left; ·intro w'; go_simp; with_reducible rfl
                     rotate_left; ·simp only [Act.put, List.setIfInBounds_toArray, List.set_cons_zero, List.set_cons_succ, i64_w, i32_w]; rfl
                     refine take_ (i := 38) (N := some 110) (v := ?_) (a' := ?_) (bm_ 45 1649267441663) rfl rfl (take_ofW HT_.out HW_.out (by kernel_rfl)) (fun _ _ _ h => h) (Or.inl ⟨by rfl, ?_⟩) hHeld ?_ ?_
                     rotate_left; ·rintro w' ⟨s0, s1, s2, s3, s4, s5⟩; go_simp; with_reducible rfl
                     rotate_left; ·simp only [Act.put, List.setIfInBounds_toArray, List.set_cons_zero, List.set_cons_succ, i64_w, i32_w]; rfl
                     refine take_ (i := 41) (N := some 113) (v := ?_) (a' := ?_) (bm_ 45 3848290697215) rfl rfl (take_ofW HT_.out HW_.out (by kernel_rfl)) (fun _ _ _ h => h) (Or.inl ⟨by rfl, ?_⟩) hHeld ?_ ?_
                     rotate_left; ·rintro w' ⟨s0, s1, s2, s3, s4, s5⟩; go_simp; with_reducible rfl
                     rotate_left; ·simp only [Act.put, List.setIfInBounds_toArray, List.set_cons_zero, List.set_cons_succ, i64_w, i32_w]; rfl
                     refine one_ (i := 39) (N := some 111) (bm_ 45 4398046511103) rfl rfl (one_of HT_.out (by kernel_rfl)) (by decide) (fun K hK => ?_)
                     refine goes_ Tryd.func17 (by kernel_rfl) rfl #[.agg #[.string t283, .string t284, .int .i64 t285]] (by rfl) rfl rfl (by (try simp only [List.map_toArray, List.map_cons, List.map_nil]); first | done | rfl | (simp only [List.length_drop, List.length_take]; rfl) | (have z_ : ∀ s_ : ByteArray, s_.size ≤ 9223372036854775807 → -(s_.size : Int) = wrap64 (-(s_.size : Int)) := (fun s_ h_ => by unfold wrap64; omega); rw [← z_ _ (by omega)]; rfl)) ?_
                     with_reducible refine (operand_Ops_I.calls k4 t283 t284 t285 t294 _ A66.out).mono ?_
                     rintro e w74 ⟨rfl, hb⟩
                     refine ⟨_, rfl, ?_⟩
                     have n0_ := bb_ BK282 hb
                     have n1_ := bb_ BK286 hb
                     have n2_ := Aside0.mk (below_step (by repeat (first | (with_reducible first | exact HB.out | apply below_alloc | apply pw_below_drewN | apply below_drew1 | refine below_set ?_ GE282.out | refine below_set ?_ GE286.out) | exact HB.out)) hb)
                     clear BK282
                     clear BK286
                     clear HB
                     have BK282 := n0_
                     have BK286 := n1_
                     have HB := n2_
                     clear n0_ n1_ n2_
                     (try clear hb)
                     (try clear hb2)
                     (try clear hk)
                     (try clear hi)
                     refine hK.out _ _ ⟨(blk_cell BK286.out 0).trans rfl, (blk_cell BK286.out 1).trans rfl, (blk_cell BK286.out 2).trans rfl, (blk_cell BK282.out 0).trans rfl, (blk_cell BK282.out 1).trans rfl, (blk_cell BK282.out 2).trans rfl⟩ (fun hHeld => ?_)
                     clear hK K
                     refine norm_ (a' := ?_) ?_ ?_
                     rotate_left
                     ·show Act.put _ (some 111) _ = _
                      simp only [Act.put, List.setIfInBounds_toArray, List.set_cons_zero, List.set_cons_succ, i64_w, i32_w]
                      rfl
                     refine one_ (i := 42) (N := some 114) (bm_ 45 8796093022207) rfl rfl (one_of HT_.out (by kernel_rfl)) (by decide) (fun K hK => ?_)
                     refine goes_ Tryd.func16 (by kernel_rfl) rfl #[.string t280] (by rfl) rfl rfl (by (try simp only [List.map_toArray, List.map_cons, List.map_nil]); first | done | rfl | (simp only [List.length_drop, List.length_take]; rfl) | (have z_ : ∀ s_ : ByteArray, s_.size ≤ 9223372036854775807 → -(s_.size : Int) = wrap64 (-(s_.size : Int)) := (fun s_ h_ => by unfold wrap64; omega); rw [← z_ _ (by omega)]; rfl)) ?_
                     with_reducible refine (num_Trim.calls k4 t280 t295 _ A67.out).mono ?_
                     rintro e w' ⟨rfl, ⟨nd, rfl⟩⟩
                     refine ⟨_, rfl, ?_⟩
                     refine hK.out _ _ ⟨(blk_cell BK286.out 0).trans rfl, (blk_cell BK286.out 1).trans rfl, (blk_cell BK286.out 2).trans rfl, (blk_cell BK282.out 0).trans rfl, (blk_cell BK282.out 1).trans rfl, (blk_cell BK282.out 2).trans rfl⟩ (fun hHeld => ?_)
                     clear hK K
                     refine norm_ (a' := ?_) ?_ ?_
                     rotate_left
                     ·show Act.put _ (some 114) _ = _
                      simp only [Act.put, List.setIfInBounds_toArray, List.set_cons_zero, List.set_cons_succ, i64_w, i32_w]
                      rfl
                     refine pure_ (i := 43) (N := some 115) (v := ?_) (a' := ?_) (bm_ 45 17592186044415) rfl rfl (any_of HT_.out (by kernel_rfl)) (fun _ _ _ h => h) (Or.inl ⟨by rfl, ?_⟩) ?_ ?_
                     rotate_left; ·intro w'; go_simp; with_reducible rfl
                     rotate_left; ·simp only [Act.put, List.setIfInBounds_toArray, List.set_cons_zero, List.set_cons_succ, i64_w, i32_w]; rfl
                     refine pure_ (i := 44) (N := some 116) (v := ?_) (a' := ?_) (bm_ 45 35184372088831) rfl rfl (any_of HT_.out (by kernel_rfl)) (fun _ _ _ h => h) (Or.inl ⟨by rfl, ?_⟩) ?_ ?_
                     rotate_left; ·intro w'; go_simp; with_reducible rfl
                     rotate_left; ·simp only [Act.put, List.setIfInBounds_toArray, List.set_cons_zero, List.set_cons_succ, i64_w, i32_w]; rfl
                     refine done_ (done_of HT_.out (by kernel_rfl)) ?_
                     try go_wp2
                     go_meet
                     case rel => exact ⟨_, ((t294.toList != t295.toList)), (by first | rfl | (simp; done) | (simp [*]; done) | (simp; first | exact given_isEmpty _ | exact (given_isEmpty _).symm) | (unfold wrap64; omega) | (congr 1; unfold wrap64; omega)), H', ⟨by have := HJ5.out; have := HK2.out; have := HJ17.out; have := HK4.out; first | omega | exact Nat.le_refl _⟩, ⟨by (with_reducible repeat (first | refine blk_drewN ?_ _ | refine blk_drew ?_ | refine blk_alloc ?_ _)); exact BK282.out⟩, ⟨by (with_reducible repeat (first | refine blk_drewN ?_ _ | refine blk_drew ?_ | refine blk_alloc ?_ _)); exact BK286.out⟩, ⟨by repeat (first | (with_reducible first | exact HB.out | apply below_alloc | apply pw_below_drewN | apply below_drew1 | refine below_set ?_ GE282.out | refine below_set ?_ GE286.out) | exact HB.out)⟩⟩
                   ·rw [if_neg c57] at H
                    have c57b0 : (t291.toList == t292.toList) = false := beq_eq_false_iff_ne.mpr c57
                    have c57b1 : (t291.toList != t292.toList) = true := bne_iff_ne.mpr c57
                    have H' := Aside0.mk H
                    clear H
                    try go_wp2
                    have n0_ := Aside0.mk (blk_drew BK282.out)
                    have n1_ := Aside0.mk (blk_drew BK286.out)
                    have n2_ := Aside0.mk (below_drew1 HB.out)
                    clear BK282
                    clear BK286
                    clear HB
                    have BK282 := n0_
                    have BK286 := n1_
                    have HB := n2_
                    clear n0_ n1_ n2_
                    refine start_ (n := 45) (S := fun w' => w'.cell? ⟨gb286, 0, none⟩ = some (.string t283) ∧ w'.cell? ⟨gb286, 1, none⟩ = some (.string t284) ∧ w'.cell? ⟨gb286, 2, none⟩ = some (.int .i64 t285) ∧ w'.cell? ⟨gb282, 0, none⟩ = some (.bool t279) ∧ w'.cell? ⟨gb282, 1, none⟩ = some (.string t280) ∧ w'.cell? ⟨gb282, 2, none⟩ = some (.string x283002_2)) (ds := []) #[false, false, false, false, false, false, false, false, false, false, false, false, false, false, false, false, false, false, false, false, false, false, false, false, false, false, false, false, false, false, false, false, false, false, false, false, false, false, false, false, false, false, false, false, false] (by kernel_rfl) rfl rfl ⟨(blk_cell BK286.out 0).trans rfl, (blk_cell BK286.out 1).trans rfl, (blk_cell BK286.out 2).trans rfl, (blk_cell BK282.out 0).trans rfl, (blk_cell BK282.out 1).trans rfl, (blk_cell BK282.out 2).trans rfl⟩ (fun hHeld => ?_); refine with_tabW florinlaw05_OperandParts.tab20 florinlaw05_OperandParts.bits20 (fun HT_ HW_ => ?_)
                    generalize wr.drew = w75 at BK282 BK286 HB hHeld ⊢
                    refine pure_ (i := 2) (N := some 74) (v := ?_) (a' := ?_) (bm_ 45 4) rfl rfl (any_of HT_.out (by kernel_rfl)) (fun _ _ _ h => h) (Or.inl ⟨by rfl, ?_⟩) ?_ ?_
                    rotate_left; ·intro w'; go_simp; with_reducible rfl
                    rotate_left; ·simp only [Act.put, List.setIfInBounds_toArray, List.set_cons_zero, List.set_cons_succ, i64_w, i32_w]; rfl
                    refine pure_ (i := 3) (N := some 75) (v := ?_) (a' := ?_) (bm_ 45 12) rfl rfl (any_of HT_.out (by kernel_rfl)) (fun _ _ _ h => h) (Or.inl ⟨by rfl, ?_⟩) ?_ ?_
                    rotate_left; ·intro w'; go_simp; with_reducible rfl
                    rotate_left; ·simp only [Act.put, List.setIfInBounds_toArray, List.set_cons_zero, List.set_cons_succ, i64_w, i32_w]; rfl
                    refine pure_ (i := 4) (N := some 76) (v := ?_) (a' := ?_) (bm_ 45 28) rfl rfl (any_of HT_.out (by kernel_rfl)) (fun _ _ _ h => h) (Or.inl ⟨by rfl, ?_⟩) ?_ ?_
                    rotate_left; ·intro w'; go_simp; with_reducible rfl
                    rotate_left; ·simp only [Act.put, List.setIfInBounds_toArray, List.set_cons_zero, List.set_cons_succ, i64_w, i32_w]; rfl
                    refine pure_ (i := 5) (N := some 77) (v := ?_) (a' := ?_) (bm_ 45 60) rfl rfl (any_of HT_.out (by kernel_rfl)) (fun _ _ _ h => h) (Or.inl ⟨by rfl, ?_⟩) ?_ ?_
                    rotate_left; ·intro w'; go_simp; with_reducible rfl
                    rotate_left; ·simp only [Act.put, List.setIfInBounds_toArray, List.set_cons_zero, List.set_cons_succ, i64_w, i32_w]; rfl
                    refine take_ (i := 0) (N := some 72) (v := ?_) (a' := ?_) (bm_ 45 61) rfl rfl (take_ofW HT_.out HW_.out (by kernel_rfl)) (fun _ _ _ h => h) (Or.inl ⟨by rfl, ?_⟩) hHeld ?_ ?_
                    rotate_left; ·rintro w' ⟨s0, s1, s2, s3, s4, s5⟩; go_simp; with_reducible rfl
                    rotate_left; ·simp only [Act.put, List.setIfInBounds_toArray, List.set_cons_zero, List.set_cons_succ, i64_w, i32_w]; rfl
                    refine one_ (i := 1) (N := some 73) (bm_ 45 63) rfl rfl (one_of HT_.out (by kernel_rfl)) (by decide) (fun K hK => ?_)
                    refine goes_ Tryd.func18 (by kernel_rfl) rfl #[.agg #[.string t283, .string t284, .int .i64 t285]] (by rfl) rfl rfl (by (try simp only [List.map_toArray, List.map_cons, List.map_nil]); first | done | rfl | (simp only [List.length_drop, List.length_take]; rfl) | (have z_ : ∀ s_ : ByteArray, s_.size ≤ 9223372036854775807 → -(s_.size : Int) = wrap64 (-(s_.size : Int)) := (fun s_ h_ => by unfold wrap64; omega); rw [← z_ _ (by omega)]; rfl)) ?_
                    with_reducible refine (operand_Ops_V.calls t283 t284 t285 t287 _ A46.out).mono ?_
                    rintro e w76 ⟨rfl, hb⟩
                    refine ⟨_, rfl, ?_⟩
                    have n0_ := bb_ BK282 hb
                    have n1_ := bb_ BK286 hb
                    have n2_ := Aside0.mk (below_step (by repeat (first | (with_reducible first | exact HB.out | apply below_alloc | apply pw_below_drewN | apply below_drew1 | refine below_set ?_ GE282.out | refine below_set ?_ GE286.out) | exact HB.out)) hb)
                    clear BK282
                    clear BK286
                    clear HB
                    have BK282 := n0_
                    have BK286 := n1_
                    have HB := n2_
                    clear n0_ n1_ n2_
                    (try clear hb)
                    (try clear hb2)
                    (try clear hk)
                    (try clear hi)
                    refine hK.out _ _ ⟨(blk_cell BK286.out 0).trans rfl, (blk_cell BK286.out 1).trans rfl, (blk_cell BK286.out 2).trans rfl, (blk_cell BK282.out 0).trans rfl, (blk_cell BK282.out 1).trans rfl, (blk_cell BK282.out 2).trans rfl⟩ (fun hHeld => ?_)
                    clear hK K
                    refine norm_ (a' := ?_) ?_ ?_
                    rotate_left
                    ·show Act.put _ (some 73) _ = _
                     simp only [Act.put, List.setIfInBounds_toArray, List.set_cons_zero, List.set_cons_succ, i64_w, i32_w]
                     rfl
                    refine pure_ (i := 6) (N := some 78) (v := ?_) (a' := ?_) (bm_ 45 127) rfl rfl (any_of HT_.out (by kernel_rfl)) (fun _ _ _ h => h) (Or.inl ⟨by rfl, ?_⟩) ?_ ?_
                    rotate_left; ·intro w'; go_simp; with_reducible rfl
                    rotate_left; ·simp only [Act.put, List.setIfInBounds_toArray, List.set_cons_zero, List.set_cons_succ, i64_w, i32_w]; rfl
                    refine pure_ (i := 7) (N := some 79) (v := ?_) (a' := ?_) (bm_ 45 255) rfl rfl (any_of HT_.out (by kernel_rfl)) (fun _ _ _ h => h) (Or.inl ⟨by rfl, ?_⟩) ?_ ?_
                    rotate_left; ·intro w'; go_simp; with_reducible rfl
                    rotate_left; ·simp only [Act.put, List.setIfInBounds_toArray, List.set_cons_zero, List.set_cons_succ, i64_w, i32_w]; rfl
                    refine pure_ (i := 10) (N := some 82) (v := ?_) (a' := ?_) (bm_ 45 1279) rfl rfl (any_of HT_.out (by kernel_rfl)) (fun _ _ _ h => h) (Or.inl ⟨by rfl, ?_⟩) ?_ ?_
                    rotate_left; ·intro w'; go_simp; with_reducible rfl
                    rotate_left; ·simp only [Act.put, List.setIfInBounds_toArray, List.set_cons_zero, List.set_cons_succ, i64_w, i32_w]; rfl
                    refine take_ (i := 8) (N := some 80) (v := ?_) (a' := ?_) (bm_ 45 1535) rfl rfl (take_ofW HT_.out HW_.out (by kernel_rfl)) (fun _ _ _ h => h) (Or.inl ⟨by rfl, ?_⟩) hHeld ?_ ?_
                    rotate_left; ·rintro w' ⟨s0, s1, s2, s3, s4, s5⟩; go_simp; with_reducible rfl
                    rotate_left; ·simp only [Act.put, List.setIfInBounds_toArray, List.set_cons_zero, List.set_cons_succ, i64_w, i32_w]; rfl
                    refine one_ (i := 9) (N := some 81) (bm_ 45 2047) rfl rfl (one_of HT_.out (by kernel_rfl)) (by decide) (fun K hK => ?_)
                    refine goes_ Tryd.func23 (by kernel_rfl) rfl #[.agg #[.string t283, .string t284, .int .i64 t285]] (by rfl) rfl rfl (by (try simp only [List.map_toArray, List.map_cons, List.map_nil]); first | done | rfl | (simp only [List.length_drop, List.length_take]; rfl) | (have z_ : ∀ s_ : ByteArray, s_.size ≤ 9223372036854775807 → -(s_.size : Int) = wrap64 (-(s_.size : Int)) := (fun s_ h_ => by unfold wrap64; omega); rw [← z_ _ (by omega)]; rfl)) ?_
                    with_reducible refine (operand_Ops_W.calls t283 t284 t285 t288 _ A48.out).mono ?_
                    rintro e w77 ⟨rfl, hb⟩
                    refine ⟨_, rfl, ?_⟩
                    have n0_ := bb_ BK282 hb
                    have n1_ := bb_ BK286 hb
                    have n2_ := Aside0.mk (below_step (by repeat (first | (with_reducible first | exact HB.out | apply below_alloc | apply pw_below_drewN | apply below_drew1 | refine below_set ?_ GE282.out | refine below_set ?_ GE286.out) | exact HB.out)) hb)
                    clear BK282
                    clear BK286
                    clear HB
                    have BK282 := n0_
                    have BK286 := n1_
                    have HB := n2_
                    clear n0_ n1_ n2_
                    (try clear hb)
                    (try clear hb2)
                    (try clear hk)
                    (try clear hi)
                    refine hK.out _ _ ⟨(blk_cell BK286.out 0).trans rfl, (blk_cell BK286.out 1).trans rfl, (blk_cell BK286.out 2).trans rfl, (blk_cell BK282.out 0).trans rfl, (blk_cell BK282.out 1).trans rfl, (blk_cell BK282.out 2).trans rfl⟩ (fun hHeld => ?_)
                    clear hK K
                    refine norm_ (a' := ?_) ?_ ?_
                    rotate_left
                    ·show Act.put _ (some 81) _ = _
                     simp only [Act.put, List.setIfInBounds_toArray, List.set_cons_zero, List.set_cons_succ, i64_w, i32_w]
                     rfl
                    refine pure_ (i := 11) (N := some 83) (v := ?_) (a' := ?_) (bm_ 45 4095) rfl rfl (any_of HT_.out (by kernel_rfl)) (fun _ _ _ h => h) (Or.inl ⟨by rfl, ?_⟩) ?_ ?_
                    rotate_left; ·intro w'; go_simp; with_reducible rfl
                    rotate_left; ·simp only [Act.put, List.setIfInBounds_toArray, List.set_cons_zero, List.set_cons_succ, i64_w, i32_w]; rfl
                    refine pure_ (i := 12) (N := some 84) (v := ?_) (a' := ?_) (bm_ 45 8191) rfl rfl (any_of HT_.out (by kernel_rfl)) (fun _ _ _ h => h) (Or.inl ⟨by rfl, ?_⟩) ?_ ?_
                    rotate_left; ·intro w'; go_simp; with_reducible rfl
                    rotate_left; ·simp only [Act.put, List.setIfInBounds_toArray, List.set_cons_zero, List.set_cons_succ, i64_w, i32_w]; rfl
                    refine pure_ (i := 13) (N := some 85) (v := ?_) (a' := ?_) (bm_ 45 16383) rfl rfl (any_of HT_.out (by kernel_rfl)) (fun _ _ _ h => h) (Or.inl ⟨by rfl, ?_⟩) ?_ ?_
                    rotate_left; ·intro w'; go_simp; with_reducible rfl
                    rotate_left; ·simp only [Act.put, List.setIfInBounds_toArray, List.set_cons_zero, List.set_cons_succ, i64_w, i32_w]; rfl
                    refine pure_ (i := 16) (N := some 88) (v := ?_) (a' := ?_) (bm_ 45 81919) rfl rfl (any_of HT_.out (by kernel_rfl)) (fun _ _ _ h => h) (Or.inl ⟨by rfl, ?_⟩) ?_ ?_
                    rotate_left; ·intro w'; go_simp; with_reducible rfl
                    rotate_left; ·simp only [Act.put, List.setIfInBounds_toArray, List.set_cons_zero, List.set_cons_succ, i64_w, i32_w]; rfl
                    refine take_ (i := 14) (N := some 86) (v := ?_) (a' := ?_) (bm_ 45 98303) rfl rfl (take_ofW HT_.out HW_.out (by kernel_rfl)) (fun _ _ _ h => h) (Or.inl ⟨by rfl, ?_⟩) hHeld ?_ ?_
                    rotate_left; ·rintro w' ⟨s0, s1, s2, s3, s4, s5⟩; go_simp; with_reducible rfl
                    rotate_left; ·simp only [Act.put, List.setIfInBounds_toArray, List.set_cons_zero, List.set_cons_succ, i64_w, i32_w]; rfl
                    refine take_ (i := 17) (N := some 89) (v := ?_) (a' := ?_) (bm_ 45 229375) rfl rfl (take_ofW HT_.out HW_.out (by kernel_rfl)) (fun _ _ _ h => h) (Or.inl ⟨by rfl, ?_⟩) hHeld ?_ ?_
                    rotate_left; ·rintro w' ⟨s0, s1, s2, s3, s4, s5⟩; go_simp; with_reducible rfl
                    rotate_left; ·simp only [Act.put, List.setIfInBounds_toArray, List.set_cons_zero, List.set_cons_succ, i64_w, i32_w]; rfl
                    refine one_ (i := 15) (N := some 87) (bm_ 45 262143) rfl rfl (one_of HT_.out (by kernel_rfl)) (by decide) (fun K hK => ?_)
                    refine goes_ Tryd.func24 (by kernel_rfl) rfl #[.agg #[.string t283, .string t284, .int .i64 t285]] (by rfl) rfl rfl (by (try simp only [List.map_toArray, List.map_cons, List.map_nil]); first | done | rfl | (simp only [List.length_drop, List.length_take]; rfl) | (have z_ : ∀ s_ : ByteArray, s_.size ≤ 9223372036854775807 → -(s_.size : Int) = wrap64 (-(s_.size : Int)) := (fun s_ h_ => by unfold wrap64; omega); rw [← z_ _ (by omega)]; rfl)) ?_
                    with_reducible refine (operand_Ops_F.calls k4 t283 t284 t285 t289 _ A50.out).mono ?_
                    rintro e w78 ⟨rfl, hb⟩
                    refine ⟨_, rfl, ?_⟩
                    have n0_ := bb_ BK282 hb
                    have n1_ := bb_ BK286 hb
                    have n2_ := Aside0.mk (below_step (by repeat (first | (with_reducible first | exact HB.out | apply below_alloc | apply pw_below_drewN | apply below_drew1 | refine below_set ?_ GE282.out | refine below_set ?_ GE286.out) | exact HB.out)) hb)
                    clear BK282
                    clear BK286
                    clear HB
                    have BK282 := n0_
                    have BK286 := n1_
                    have HB := n2_
                    clear n0_ n1_ n2_
                    (try clear hb)
                    (try clear hb2)
                    (try clear hk)
                    (try clear hi)
                    refine hK.out _ _ ⟨(blk_cell BK286.out 0).trans rfl, (blk_cell BK286.out 1).trans rfl, (blk_cell BK286.out 2).trans rfl, (blk_cell BK282.out 0).trans rfl, (blk_cell BK282.out 1).trans rfl, (blk_cell BK282.out 2).trans rfl⟩ (fun hHeld => ?_)
                    clear hK K
                    refine norm_ (a' := ?_) ?_ ?_
                    rotate_left
                    ·show Act.put _ (some 87) _ = _
                     simp only [Act.put, List.setIfInBounds_toArray, List.set_cons_zero, List.set_cons_succ, i64_w, i32_w]
                     rfl
                    refine one_ (i := 18) (N := some 90) (bm_ 45 524287) rfl rfl (one_of HT_.out (by kernel_rfl)) (by decide) (fun K hK => ?_)
                    refine goes_ Tryd.func16 (by kernel_rfl) rfl #[.string x283002_2] (by rfl) rfl rfl (by (try simp only [List.map_toArray, List.map_cons, List.map_nil]); first | done | rfl | (simp only [List.length_drop, List.length_take]; rfl) | (have z_ : ∀ s_ : ByteArray, s_.size ≤ 9223372036854775807 → -(s_.size : Int) = wrap64 (-(s_.size : Int)) := (fun s_ h_ => by unfold wrap64; omega); rw [← z_ _ (by omega)]; rfl)) ?_
                    with_reducible refine (num_Trim.calls k4 x283002_2 t290 _ A51.out).mono ?_
                    rintro e w' ⟨rfl, ⟨nd, rfl⟩⟩
                    refine ⟨_, rfl, ?_⟩
                    refine hK.out _ _ ⟨(blk_cell BK286.out 0).trans rfl, (blk_cell BK286.out 1).trans rfl, (blk_cell BK286.out 2).trans rfl, (blk_cell BK282.out 0).trans rfl, (blk_cell BK282.out 1).trans rfl, (blk_cell BK282.out 2).trans rfl⟩ (fun hHeld => ?_)
                    clear hK K
                    refine norm_ (a' := ?_) ?_ ?_
                    rotate_left
                    ·show Act.put _ (some 90) _ = _
                     simp only [Act.put, List.setIfInBounds_toArray, List.set_cons_zero, List.set_cons_succ, i64_w, i32_w]
                     rfl
                    refine pure_ (i := 19) (N := some 91) (v := ?_) (a' := ?_) (bm_ 45 1048575) rfl rfl (any_of HT_.out (by kernel_rfl)) (fun _ _ _ h => h) (Or.inl ⟨by rfl, ?_⟩) ?_ ?_
                    rotate_left; ·intro w'; go_simp; with_reducible rfl
                    rotate_left; ·simp only [Act.put, List.setIfInBounds_toArray, List.set_cons_zero, List.set_cons_succ, i64_w, i32_w]; rfl
                    refine pure_ (i := 20) (N := some 92) (v := ?_) (a' := ?_) (bm_ 45 2097151) rfl rfl (any_of HT_.out (by kernel_rfl)) (fun _ _ _ h => h) (Or.inl ⟨by rfl, ?_⟩) ?_ ?_
                    rotate_left; ·intro w'; go_simp; with_reducible rfl
                    rotate_left; ·simp only [Act.put, List.setIfInBounds_toArray, List.set_cons_zero, List.set_cons_succ, i64_w, i32_w]; rfl
                    refine pure_ (i := 21) (N := some 93) (v := ?_) (a' := ?_) (bm_ 45 4194303) rfl rfl (any_of HT_.out (by kernel_rfl)) (fun _ _ _ h => h) (Or.inl ⟨by rfl, ?_⟩) ?_ ?_
                    rotate_left; ·intro w'; go_simp; with_reducible rfl
                    rotate_left; ·simp only [Act.put, List.setIfInBounds_toArray, List.set_cons_zero, List.set_cons_succ, i64_w, i32_w]; rfl
                    refine pure_ (i := 24) (N := some 96) (v := ?_) (a' := ?_) (bm_ 45 20971519) rfl rfl (any_of HT_.out (by kernel_rfl)) (fun _ _ _ h => h) (Or.inl ⟨by rfl, ?_⟩) ?_ ?_
                    rotate_left; ·intro w'; go_simp; with_reducible rfl
                    rotate_left; ·simp only [Act.put, List.setIfInBounds_toArray, List.set_cons_zero, List.set_cons_succ, i64_w, i32_w]; rfl
                    refine pure_ (i := 26) (N := some 98) (v := ?_) (a' := ?_) (bm_ 45 88080383) rfl rfl (any_of HT_.out (by kernel_rfl)) (fun _ _ _ h => h) (Or.inl ⟨by rfl, ?_⟩) ?_ ?_
                    rotate_left; ·intro w'; go_simp; with_reducible rfl
                    rotate_left; ·simp only [Act.put, List.setIfInBounds_toArray, List.set_cons_zero, List.set_cons_succ, i64_w, i32_w]; rfl
                    refine take_ (i := 22) (N := some 94) (v := ?_) (a' := ?_) (bm_ 45 92274687) rfl rfl (take_ofW HT_.out HW_.out (by kernel_rfl)) (fun _ _ _ h => h) (Or.inl ⟨by rfl, ?_⟩) hHeld ?_ ?_
                    rotate_left; ·rintro w' ⟨s0, s1, s2, s3, s4, s5⟩; go_simp; with_reducible rfl
                    rotate_left; ·simp only [Act.put, List.setIfInBounds_toArray, List.set_cons_zero, List.set_cons_succ, i64_w, i32_w]; rfl
                    refine take_ (i := 25) (N := some 97) (v := ?_) (a' := ?_) (bm_ 45 125829119) rfl rfl (take_ofW HT_.out HW_.out (by kernel_rfl)) (fun _ _ _ h => h) (Or.inl ⟨by rfl, ?_⟩) hHeld ?_ ?_
                    rotate_left; ·rintro w' ⟨s0, s1, s2, s3, s4, s5⟩; go_simp; with_reducible rfl
                    rotate_left; ·simp only [Act.put, List.setIfInBounds_toArray, List.set_cons_zero, List.set_cons_succ, i64_w, i32_w]; rfl
                    refine pure_ (i := 27) (N := some 99) (v := ?_) (a' := ?_) (bm_ 45 260046847) rfl rfl (any_of HT_.out (by kernel_rfl)) (fun _ _ _ h => h) (Or.inl ⟨by rfl, ?_⟩) ?_ ?_
                    rotate_left; ·intro w'; go_simp; with_reducible rfl
                    rotate_left; ·simp only [Act.put, List.setIfInBounds_toArray, List.set_cons_zero, List.set_cons_succ, i64_w, i32_w]; rfl
                    refine one_ (i := 23) (N := some 95) (bm_ 45 268435455) rfl rfl (one_of HT_.out (by kernel_rfl)) (by decide) (fun K hK => ?_)
                    refine goes_ Tryd.func25 (by kernel_rfl) rfl #[.agg #[.string t283, .string t284, .int .i64 t285]] (by rfl) rfl rfl (by (try simp only [List.map_toArray, List.map_cons, List.map_nil]); first | done | rfl | (simp only [List.length_drop, List.length_take]; rfl) | (have z_ : ∀ s_ : ByteArray, s_.size ≤ 9223372036854775807 → -(s_.size : Int) = wrap64 (-(s_.size : Int)) := (fun s_ h_ => by unfold wrap64; omega); rw [← z_ _ (by omega)]; rfl)) ?_
                    with_reducible refine (operand_Ops_T.calls k4 t283 t284 t285 t291 _ A53.out).mono ?_
                    rintro e w79 ⟨rfl, hb⟩
                    refine ⟨_, rfl, ?_⟩
                    have n0_ := bb_ BK282 hb
                    have n1_ := bb_ BK286 hb
                    have n2_ := Aside0.mk (below_step (by repeat (first | (with_reducible first | exact HB.out | apply below_alloc | apply pw_below_drewN | apply below_drew1 | refine below_set ?_ GE282.out | refine below_set ?_ GE286.out) | exact HB.out)) hb)
                    clear BK282
                    clear BK286
                    clear HB
                    have BK282 := n0_
                    have BK286 := n1_
                    have HB := n2_
                    clear n0_ n1_ n2_
                    (try clear hb)
                    (try clear hb2)
                    (try clear hk)
                    (try clear hi)
                    refine hK.out _ _ ⟨(blk_cell BK286.out 0).trans rfl, (blk_cell BK286.out 1).trans rfl, (blk_cell BK286.out 2).trans rfl, (blk_cell BK282.out 0).trans rfl, (blk_cell BK282.out 1).trans rfl, (blk_cell BK282.out 2).trans rfl⟩ (fun hHeld => ?_)
                    clear hK K
                    refine norm_ (a' := ?_) ?_ ?_
                    rotate_left
                    ·show Act.put _ (some 95) _ = _
                     simp only [Act.put, List.setIfInBounds_toArray, List.set_cons_zero, List.set_cons_succ, i64_w, i32_w]
                     rfl
                    refine one_ (i := 28) (N := some 100) (bm_ 45 536870911) rfl rfl (one_of HT_.out (by kernel_rfl)) (by decide) (fun K hK => ?_)
                    refine goes_ Tryd.func16 (by kernel_rfl) rfl #[.string (x283002_2.extract 0 (x11_17 : Int).toNat)] (by rfl) rfl rfl (by (try simp only [List.map_toArray, List.map_cons, List.map_nil]); first | done | rfl | (simp only [List.length_drop, List.length_take]; rfl) | (have z_ : ∀ s_ : ByteArray, s_.size ≤ 9223372036854775807 → -(s_.size : Int) = wrap64 (-(s_.size : Int)) := (fun s_ h_ => by unfold wrap64; omega); rw [← z_ _ (by omega)]; rfl)) ?_
                    with_reducible refine (num_Trim.calls k4 (x283002_2.extract 0 (x11_17 : Int).toNat) t292 _ A56.out).mono ?_
                    rintro e w' ⟨rfl, ⟨nd, rfl⟩⟩
                    refine ⟨_, rfl, ?_⟩
                    refine hK.out _ _ ⟨(blk_cell BK286.out 0).trans rfl, (blk_cell BK286.out 1).trans rfl, (blk_cell BK286.out 2).trans rfl, (blk_cell BK282.out 0).trans rfl, (blk_cell BK282.out 1).trans rfl, (blk_cell BK282.out 2).trans rfl⟩ (fun hHeld => ?_)
                    clear hK K
                    refine norm_ (a' := ?_) ?_ ?_
                    rotate_left
                    ·show Act.put _ (some 100) _ = _
                     simp only [Act.put, List.setIfInBounds_toArray, List.set_cons_zero, List.set_cons_succ, i64_w, i32_w]
                     rfl
                    refine pure_ (i := 29) (N := some 101) (v := ?_) (a' := ?_) (bm_ 45 1073741823) rfl rfl (any_of HT_.out (by kernel_rfl)) (fun _ _ _ h => h) (Or.inl ⟨by rfl, ?_⟩) ?_ ?_
                    rotate_left; ·intro w'; go_simp; with_reducible rfl
                    rotate_left; ·simp only [Act.put, List.setIfInBounds_toArray, List.set_cons_zero, List.set_cons_succ, i64_w, i32_w]; rfl
                    refine pure_ (i := 30) (N := some 102) (v := ?_) (a' := ?_) (bm_ 45 2147483647) rfl rfl (any_of HT_.out (by kernel_rfl)) (fun _ _ _ h => h) (Or.inl ⟨by rfl, ?_⟩) ?_ ?_
                    rotate_left; ·intro w'; go_simp; with_reducible rfl
                    rotate_left; ·simp only [Act.put, List.setIfInBounds_toArray, List.set_cons_zero, List.set_cons_succ, i64_w, i32_w]; rfl
                    refine pure_ (i := 31) (N := some 103) (v := ?_) (a' := ?_) (bm_ 45 4294967295) rfl rfl (any_of HT_.out (by kernel_rfl)) (fun _ _ _ h => h) (Or.inl ⟨by rfl, ?_⟩) ?_ ?_
                    rotate_left; ·intro w'; go_simp; with_reducible rfl
                    rotate_left; ·simp only [Act.put, List.setIfInBounds_toArray, List.set_cons_zero, List.set_cons_succ, i64_w, i32_w]; rfl
                    refine pure_ (i := 32) (N := some 104) (v := undef) (a' := ?_) (bm_ 45 8589934591) rfl rfl (any_of HT_.out (by kernel_rfl)) (fun _ _ _ h => h) (Or.inr ⟨by rfl, rfl⟩) ?_ ?_
                    rotate_left; ·simp only [Act.put, List.setIfInBounds_toArray, List.set_cons_zero, List.set_cons_succ, i64_w, i32_w]; rfl
                    refine pure_ (i := 33) (N := some 105) (v := undef) (a' := ?_) (bm_ 45 17179869183) rfl rfl (any_of HT_.out (by kernel_rfl)) (fun _ _ _ h => h) (Or.inr ⟨by rfl, rfl⟩) ?_ ?_
                    rotate_left; ·simp only [Act.put, List.setIfInBounds_toArray, List.set_cons_zero, List.set_cons_succ, i64_w, i32_w]; rfl
                    refine pure_ (i := 34) (N := some 106) (v := undef) (a' := ?_) (bm_ 45 34359738367) rfl rfl (any_of HT_.out (by kernel_rfl)) (fun _ _ _ h => h) (Or.inr ⟨by rfl, rfl⟩) ?_ ?_
                    rotate_left; ·simp only [Act.put, List.setIfInBounds_toArray, List.set_cons_zero, List.set_cons_succ, i64_w, i32_w]; rfl
                    refine pure_ (i := 35) (N := some 107) (v := undef) (a' := ?_) (bm_ 45 68719476735) rfl rfl (any_of HT_.out (by kernel_rfl)) (fun _ _ _ h => h) (Or.inr ⟨by rfl, rfl⟩) ?_ ?_
                    rotate_left; ·simp only [Act.put, List.setIfInBounds_toArray, List.set_cons_zero, List.set_cons_succ, i64_w, i32_w]; rfl
                    refine pure_ (i := 36) (N := some 108) (v := ?_) (a' := ?_) (bm_ 45 137438953471) rfl rfl (any_of HT_.out (by kernel_rfl)) (fun _ _ _ h => h) (Or.inl ⟨by rfl, ?_⟩) ?_ ?_
                    rotate_left; ·intro w'; go_simp; with_reducible rfl
                    rotate_left; ·simp only [Act.put, List.setIfInBounds_toArray, List.set_cons_zero, List.set_cons_succ, i64_w, i32_w]; rfl
                    refine pure_ (i := 37) (N := some 109) (v := ?_) (a' := ?_) (bm_ 45 274877906943) rfl rfl (any_of HT_.out (by kernel_rfl)) (fun _ _ _ h => h) (Or.inl ⟨by rfl, ?_⟩) ?_ ?_
                    rotate_left; ·intro w'; go_simp; with_reducible rfl
                    rotate_left; ·simp only [Act.put, List.setIfInBounds_toArray, List.set_cons_zero, List.set_cons_succ, i64_w, i32_w]; rfl
                    refine pure_ (i := 38) (N := some 110) (v := undef) (a' := ?_) (bm_ 45 549755813887) rfl rfl (any_of HT_.out (by kernel_rfl)) (fun _ _ _ h => h) (Or.inr ⟨by rfl, rfl⟩) ?_ ?_
                    rotate_left; ·simp only [Act.put, List.setIfInBounds_toArray, List.set_cons_zero, List.set_cons_succ, i64_w, i32_w]; rfl
                    refine pure_ (i := 39) (N := some 111) (v := undef) (a' := ?_) (bm_ 45 1099511627775) rfl rfl (any_of HT_.out (by kernel_rfl)) (fun _ _ _ h => h) (Or.inr ⟨by rfl, rfl⟩) ?_ ?_
                    rotate_left; ·simp only [Act.put, List.setIfInBounds_toArray, List.set_cons_zero, List.set_cons_succ, i64_w, i32_w]; rfl
                    refine pure_ (i := 40) (N := some 112) (v := undef) (a' := ?_) (bm_ 45 2199023255551) rfl rfl (any_of HT_.out (by kernel_rfl)) (fun _ _ _ h => h) (Or.inr ⟨by rfl, rfl⟩) ?_ ?_
                    rotate_left; ·simp only [Act.put, List.setIfInBounds_toArray, List.set_cons_zero, List.set_cons_succ, i64_w, i32_w]; rfl
                    refine pure_ (i := 41) (N := some 113) (v := undef) (a' := ?_) (bm_ 45 4398046511103) rfl rfl (any_of HT_.out (by kernel_rfl)) (fun _ _ _ h => h) (Or.inr ⟨by rfl, rfl⟩) ?_ ?_
                    rotate_left; ·simp only [Act.put, List.setIfInBounds_toArray, List.set_cons_zero, List.set_cons_succ, i64_w, i32_w]; rfl
                    refine pure_ (i := 42) (N := some 114) (v := undef) (a' := ?_) (bm_ 45 8796093022207) rfl rfl (any_of HT_.out (by kernel_rfl)) (fun _ _ _ h => h) (Or.inr ⟨by rfl, rfl⟩) ?_ ?_
                    rotate_left; ·simp only [Act.put, List.setIfInBounds_toArray, List.set_cons_zero, List.set_cons_succ, i64_w, i32_w]; rfl
                    refine pure_ (i := 43) (N := some 115) (v := undef) (a' := ?_) (bm_ 45 17592186044415) rfl rfl (any_of HT_.out (by kernel_rfl)) (fun _ _ _ h => h) (Or.inr ⟨by rfl, rfl⟩) ?_ ?_
                    rotate_left; ·simp only [Act.put, List.setIfInBounds_toArray, List.set_cons_zero, List.set_cons_succ, i64_w, i32_w]; rfl
                    refine pure_ (i := 44) (N := some 116) (v := ?_) (a' := ?_) (bm_ 45 35184372088831) rfl rfl (any_of HT_.out (by kernel_rfl)) (fun _ _ _ h => h) (Or.inl ⟨by rfl, ?_⟩) ?_ ?_
                    rotate_left; ·intro w'; go_simp; with_reducible rfl
                    rotate_left; ·simp only [Act.put, List.setIfInBounds_toArray, List.set_cons_zero, List.set_cons_succ, i64_w, i32_w]; rfl
                    refine done_ (done_of HT_.out (by kernel_rfl)) ?_
                    try go_wp2
                    go_meet
                    case rel => exact ⟨_, (true), (by first | rfl | (simp; done) | (simp [*]; done) | (simp; first | exact given_isEmpty _ | exact (given_isEmpty _).symm) | (unfold wrap64; omega) | (congr 1; unfold wrap64; omega)), H', ⟨by have := HJ5.out; have := HK2.out; have := HJ17.out; have := HK4.out; first | omega | exact Nat.le_refl _⟩, ⟨by (with_reducible repeat (first | refine blk_drewN ?_ _ | refine blk_drew ?_ | refine blk_alloc ?_ _)); exact BK282.out⟩, ⟨by (with_reducible repeat (first | refine blk_drewN ?_ _ | refine blk_drew ?_ | refine blk_alloc ?_ _)); exact BK286.out⟩, ⟨by repeat (first | (with_reducible first | exact HB.out | apply below_alloc | apply pw_below_drewN | apply below_drew1 | refine below_set ?_ GE282.out | refine below_set ?_ GE286.out) | exact HB.out)⟩⟩
                  ·rw [if_neg c55] at H
                   exact absurd H (by simp)
                 ·rw [if_neg c54] at H
                  exact absurd H (by simp)
                ·rw [if_neg c52] at H
                 have c52b0 : (t289.toList == t290.toList) = false := beq_eq_false_iff_ne.mpr c52
                 have c52b1 : (t289.toList != t290.toList) = true := bne_iff_ne.mpr c52
                 have H' := Aside0.mk H
                 clear H
                 try go_wp2
                 have n0_ := Aside0.mk (blk_drew BK282.out)
                 have n1_ := Aside0.mk (blk_drew BK286.out)
                 have n2_ := Aside0.mk (below_drew1 HB.out)
                 clear BK282
                 clear BK286
                 clear HB
                 have BK282 := n0_
                 have BK286 := n1_
                 have HB := n2_
                 clear n0_ n1_ n2_
                 refine start_ (n := 45) (S := fun w' => w'.cell? ⟨gb286, 0, none⟩ = some (.string t283) ∧ w'.cell? ⟨gb286, 1, none⟩ = some (.string t284) ∧ w'.cell? ⟨gb286, 2, none⟩ = some (.int .i64 t285) ∧ w'.cell? ⟨gb282, 0, none⟩ = some (.bool t279) ∧ w'.cell? ⟨gb282, 1, none⟩ = some (.string t280) ∧ w'.cell? ⟨gb282, 2, none⟩ = some (.string x283002_2)) (ds := []) #[false, false, false, false, false, false, false, false, false, false, false, false, false, false, false, false, false, false, false, false, false, false, false, false, false, false, false, false, false, false, false, false, false, false, false, false, false, false, false, false, false, false, false, false, false] (by kernel_rfl) rfl rfl ⟨(blk_cell BK286.out 0).trans rfl, (blk_cell BK286.out 1).trans rfl, (blk_cell BK286.out 2).trans rfl, (blk_cell BK282.out 0).trans rfl, (blk_cell BK282.out 1).trans rfl, (blk_cell BK282.out 2).trans rfl⟩ (fun hHeld => ?_); refine with_tabW florinlaw05_OperandParts.tab20 florinlaw05_OperandParts.bits20 (fun HT_ HW_ => ?_)
                 generalize wr.drew = w80 at BK282 BK286 HB hHeld ⊢
                 refine pure_ (i := 2) (N := some 74) (v := ?_) (a' := ?_) (bm_ 45 4) rfl rfl (any_of HT_.out (by kernel_rfl)) (fun _ _ _ h => h) (Or.inl ⟨by rfl, ?_⟩) ?_ ?_
                 rotate_left; ·intro w'; go_simp; with_reducible rfl
                 rotate_left; ·simp only [Act.put, List.setIfInBounds_toArray, List.set_cons_zero, List.set_cons_succ, i64_w, i32_w]; rfl
                 refine pure_ (i := 3) (N := some 75) (v := ?_) (a' := ?_) (bm_ 45 12) rfl rfl (any_of HT_.out (by kernel_rfl)) (fun _ _ _ h => h) (Or.inl ⟨by rfl, ?_⟩) ?_ ?_
                 rotate_left; ·intro w'; go_simp; with_reducible rfl
                 rotate_left; ·simp only [Act.put, List.setIfInBounds_toArray, List.set_cons_zero, List.set_cons_succ, i64_w, i32_w]; rfl
                 refine pure_ (i := 4) (N := some 76) (v := ?_) (a' := ?_) (bm_ 45 28) rfl rfl (any_of HT_.out (by kernel_rfl)) (fun _ _ _ h => h) (Or.inl ⟨by rfl, ?_⟩) ?_ ?_
                 rotate_left; ·intro w'; go_simp; with_reducible rfl
                 rotate_left; ·simp only [Act.put, List.setIfInBounds_toArray, List.set_cons_zero, List.set_cons_succ, i64_w, i32_w]; rfl
                 refine pure_ (i := 5) (N := some 77) (v := ?_) (a' := ?_) (bm_ 45 60) rfl rfl (any_of HT_.out (by kernel_rfl)) (fun _ _ _ h => h) (Or.inl ⟨by rfl, ?_⟩) ?_ ?_
                 rotate_left; ·intro w'; go_simp; with_reducible rfl
                 rotate_left; ·simp only [Act.put, List.setIfInBounds_toArray, List.set_cons_zero, List.set_cons_succ, i64_w, i32_w]; rfl
                 refine take_ (i := 0) (N := some 72) (v := ?_) (a' := ?_) (bm_ 45 61) rfl rfl (take_ofW HT_.out HW_.out (by kernel_rfl)) (fun _ _ _ h => h) (Or.inl ⟨by rfl, ?_⟩) hHeld ?_ ?_
                 rotate_left; ·rintro w' ⟨s0, s1, s2, s3, s4, s5⟩; go_simp; with_reducible rfl
                 rotate_left; ·simp only [Act.put, List.setIfInBounds_toArray, List.set_cons_zero, List.set_cons_succ, i64_w, i32_w]; rfl
                 refine one_ (i := 1) (N := some 73) (bm_ 45 63) rfl rfl (one_of HT_.out (by kernel_rfl)) (by decide) (fun K hK => ?_)
                 refine goes_ Tryd.func18 (by kernel_rfl) rfl #[.agg #[.string t283, .string t284, .int .i64 t285]] (by rfl) rfl rfl (by (try simp only [List.map_toArray, List.map_cons, List.map_nil]); first | done | rfl | (simp only [List.length_drop, List.length_take]; rfl) | (have z_ : ∀ s_ : ByteArray, s_.size ≤ 9223372036854775807 → -(s_.size : Int) = wrap64 (-(s_.size : Int)) := (fun s_ h_ => by unfold wrap64; omega); rw [← z_ _ (by omega)]; rfl)) ?_
                 with_reducible refine (operand_Ops_V.calls t283 t284 t285 t287 _ A46.out).mono ?_
                 rintro e w81 ⟨rfl, hb⟩
                 refine ⟨_, rfl, ?_⟩
                 have n0_ := bb_ BK282 hb
                 have n1_ := bb_ BK286 hb
                 have n2_ := Aside0.mk (below_step (by repeat (first | (with_reducible first | exact HB.out | apply below_alloc | apply pw_below_drewN | apply below_drew1 | refine below_set ?_ GE282.out | refine below_set ?_ GE286.out) | exact HB.out)) hb)
                 clear BK282
                 clear BK286
                 clear HB
                 have BK282 := n0_
                 have BK286 := n1_
                 have HB := n2_
                 clear n0_ n1_ n2_
                 (try clear hb)
                 (try clear hb2)
                 (try clear hk)
                 (try clear hi)
                 refine hK.out _ _ ⟨(blk_cell BK286.out 0).trans rfl, (blk_cell BK286.out 1).trans rfl, (blk_cell BK286.out 2).trans rfl, (blk_cell BK282.out 0).trans rfl, (blk_cell BK282.out 1).trans rfl, (blk_cell BK282.out 2).trans rfl⟩ (fun hHeld => ?_)
                 clear hK K
                 refine norm_ (a' := ?_) ?_ ?_
                 rotate_left
                 ·show Act.put _ (some 73) _ = _
                  simp only [Act.put, List.setIfInBounds_toArray, List.set_cons_zero, List.set_cons_succ, i64_w, i32_w]
                  rfl
                 refine pure_ (i := 6) (N := some 78) (v := ?_) (a' := ?_) (bm_ 45 127) rfl rfl (any_of HT_.out (by kernel_rfl)) (fun _ _ _ h => h) (Or.inl ⟨by rfl, ?_⟩) ?_ ?_
                 rotate_left; ·intro w'; go_simp; with_reducible rfl
                 rotate_left; ·simp only [Act.put, List.setIfInBounds_toArray, List.set_cons_zero, List.set_cons_succ, i64_w, i32_w]; rfl
                 refine pure_ (i := 7) (N := some 79) (v := ?_) (a' := ?_) (bm_ 45 255) rfl rfl (any_of HT_.out (by kernel_rfl)) (fun _ _ _ h => h) (Or.inl ⟨by rfl, ?_⟩) ?_ ?_
                 rotate_left; ·intro w'; go_simp; with_reducible rfl
                 rotate_left; ·simp only [Act.put, List.setIfInBounds_toArray, List.set_cons_zero, List.set_cons_succ, i64_w, i32_w]; rfl
                 refine pure_ (i := 10) (N := some 82) (v := ?_) (a' := ?_) (bm_ 45 1279) rfl rfl (any_of HT_.out (by kernel_rfl)) (fun _ _ _ h => h) (Or.inl ⟨by rfl, ?_⟩) ?_ ?_
                 rotate_left; ·intro w'; go_simp; with_reducible rfl
                 rotate_left; ·simp only [Act.put, List.setIfInBounds_toArray, List.set_cons_zero, List.set_cons_succ, i64_w, i32_w]; rfl
                 refine take_ (i := 8) (N := some 80) (v := ?_) (a' := ?_) (bm_ 45 1535) rfl rfl (take_ofW HT_.out HW_.out (by kernel_rfl)) (fun _ _ _ h => h) (Or.inl ⟨by rfl, ?_⟩) hHeld ?_ ?_
                 rotate_left; ·rintro w' ⟨s0, s1, s2, s3, s4, s5⟩; go_simp; with_reducible rfl
                 rotate_left; ·simp only [Act.put, List.setIfInBounds_toArray, List.set_cons_zero, List.set_cons_succ, i64_w, i32_w]; rfl
                 refine one_ (i := 9) (N := some 81) (bm_ 45 2047) rfl rfl (one_of HT_.out (by kernel_rfl)) (by decide) (fun K hK => ?_)
                 refine goes_ Tryd.func23 (by kernel_rfl) rfl #[.agg #[.string t283, .string t284, .int .i64 t285]] (by rfl) rfl rfl (by (try simp only [List.map_toArray, List.map_cons, List.map_nil]); first | done | rfl | (simp only [List.length_drop, List.length_take]; rfl) | (have z_ : ∀ s_ : ByteArray, s_.size ≤ 9223372036854775807 → -(s_.size : Int) = wrap64 (-(s_.size : Int)) := (fun s_ h_ => by unfold wrap64; omega); rw [← z_ _ (by omega)]; rfl)) ?_
                 with_reducible refine (operand_Ops_W.calls t283 t284 t285 t288 _ A48.out).mono ?_
                 rintro e w82 ⟨rfl, hb⟩
                 refine ⟨_, rfl, ?_⟩
                 have n0_ := bb_ BK282 hb
                 have n1_ := bb_ BK286 hb
                 have n2_ := Aside0.mk (below_step (by repeat (first | (with_reducible first | exact HB.out | apply below_alloc | apply pw_below_drewN | apply below_drew1 | refine below_set ?_ GE282.out | refine below_set ?_ GE286.out) | exact HB.out)) hb)
                 clear BK282
                 clear BK286
                 clear HB
                 have BK282 := n0_
                 have BK286 := n1_
                 have HB := n2_
                 clear n0_ n1_ n2_
                 (try clear hb)
                 (try clear hb2)
                 (try clear hk)
                 (try clear hi)
                 refine hK.out _ _ ⟨(blk_cell BK286.out 0).trans rfl, (blk_cell BK286.out 1).trans rfl, (blk_cell BK286.out 2).trans rfl, (blk_cell BK282.out 0).trans rfl, (blk_cell BK282.out 1).trans rfl, (blk_cell BK282.out 2).trans rfl⟩ (fun hHeld => ?_)
                 clear hK K
                 refine norm_ (a' := ?_) ?_ ?_
                 rotate_left
                 ·show Act.put _ (some 81) _ = _
                  simp only [Act.put, List.setIfInBounds_toArray, List.set_cons_zero, List.set_cons_succ, i64_w, i32_w]
                  rfl
                 refine pure_ (i := 11) (N := some 83) (v := ?_) (a' := ?_) (bm_ 45 4095) rfl rfl (any_of HT_.out (by kernel_rfl)) (fun _ _ _ h => h) (Or.inl ⟨by rfl, ?_⟩) ?_ ?_
                 rotate_left; ·intro w'; go_simp; with_reducible rfl
                 rotate_left; ·simp only [Act.put, List.setIfInBounds_toArray, List.set_cons_zero, List.set_cons_succ, i64_w, i32_w]; rfl
                 refine pure_ (i := 12) (N := some 84) (v := ?_) (a' := ?_) (bm_ 45 8191) rfl rfl (any_of HT_.out (by kernel_rfl)) (fun _ _ _ h => h) (Or.inl ⟨by rfl, ?_⟩) ?_ ?_
                 rotate_left; ·intro w'; go_simp; with_reducible rfl
                 rotate_left; ·simp only [Act.put, List.setIfInBounds_toArray, List.set_cons_zero, List.set_cons_succ, i64_w, i32_w]; rfl
                 refine pure_ (i := 13) (N := some 85) (v := ?_) (a' := ?_) (bm_ 45 16383) rfl rfl (any_of HT_.out (by kernel_rfl)) (fun _ _ _ h => h) (Or.inl ⟨by rfl, ?_⟩) ?_ ?_
                 rotate_left; ·intro w'; go_simp; with_reducible rfl
                 rotate_left; ·simp only [Act.put, List.setIfInBounds_toArray, List.set_cons_zero, List.set_cons_succ, i64_w, i32_w]; rfl
                 refine pure_ (i := 16) (N := some 88) (v := ?_) (a' := ?_) (bm_ 45 81919) rfl rfl (any_of HT_.out (by kernel_rfl)) (fun _ _ _ h => h) (Or.inl ⟨by rfl, ?_⟩) ?_ ?_
                 rotate_left; ·intro w'; go_simp; with_reducible rfl
                 rotate_left; ·simp only [Act.put, List.setIfInBounds_toArray, List.set_cons_zero, List.set_cons_succ, i64_w, i32_w]; rfl
                 refine take_ (i := 14) (N := some 86) (v := ?_) (a' := ?_) (bm_ 45 98303) rfl rfl (take_ofW HT_.out HW_.out (by kernel_rfl)) (fun _ _ _ h => h) (Or.inl ⟨by rfl, ?_⟩) hHeld ?_ ?_
                 rotate_left; ·rintro w' ⟨s0, s1, s2, s3, s4, s5⟩; go_simp; with_reducible rfl
                 rotate_left; ·simp only [Act.put, List.setIfInBounds_toArray, List.set_cons_zero, List.set_cons_succ, i64_w, i32_w]; rfl
                 refine take_ (i := 17) (N := some 89) (v := ?_) (a' := ?_) (bm_ 45 229375) rfl rfl (take_ofW HT_.out HW_.out (by kernel_rfl)) (fun _ _ _ h => h) (Or.inl ⟨by rfl, ?_⟩) hHeld ?_ ?_
                 rotate_left; ·rintro w' ⟨s0, s1, s2, s3, s4, s5⟩; go_simp; with_reducible rfl
                 rotate_left; ·simp only [Act.put, List.setIfInBounds_toArray, List.set_cons_zero, List.set_cons_succ, i64_w, i32_w]; rfl
                 refine one_ (i := 15) (N := some 87) (bm_ 45 262143) rfl rfl (one_of HT_.out (by kernel_rfl)) (by decide) (fun K hK => ?_)
                 refine goes_ Tryd.func24 (by kernel_rfl) rfl #[.agg #[.string t283, .string t284, .int .i64 t285]] (by rfl) rfl rfl (by (try simp only [List.map_toArray, List.map_cons, List.map_nil]); first | done | rfl | (simp only [List.length_drop, List.length_take]; rfl) | (have z_ : ∀ s_ : ByteArray, s_.size ≤ 9223372036854775807 → -(s_.size : Int) = wrap64 (-(s_.size : Int)) := (fun s_ h_ => by unfold wrap64; omega); rw [← z_ _ (by omega)]; rfl)) ?_
                 with_reducible refine (operand_Ops_F.calls k4 t283 t284 t285 t289 _ A50.out).mono ?_
                 rintro e w83 ⟨rfl, hb⟩
                 refine ⟨_, rfl, ?_⟩
                 have n0_ := bb_ BK282 hb
                 have n1_ := bb_ BK286 hb
                 have n2_ := Aside0.mk (below_step (by repeat (first | (with_reducible first | exact HB.out | apply below_alloc | apply pw_below_drewN | apply below_drew1 | refine below_set ?_ GE282.out | refine below_set ?_ GE286.out) | exact HB.out)) hb)
                 clear BK282
                 clear BK286
                 clear HB
                 have BK282 := n0_
                 have BK286 := n1_
                 have HB := n2_
                 clear n0_ n1_ n2_
                 (try clear hb)
                 (try clear hb2)
                 (try clear hk)
                 (try clear hi)
                 refine hK.out _ _ ⟨(blk_cell BK286.out 0).trans rfl, (blk_cell BK286.out 1).trans rfl, (blk_cell BK286.out 2).trans rfl, (blk_cell BK282.out 0).trans rfl, (blk_cell BK282.out 1).trans rfl, (blk_cell BK282.out 2).trans rfl⟩ (fun hHeld => ?_)
                 clear hK K
                 refine norm_ (a' := ?_) ?_ ?_
                 rotate_left
                 ·show Act.put _ (some 87) _ = _
                  simp only [Act.put, List.setIfInBounds_toArray, List.set_cons_zero, List.set_cons_succ, i64_w, i32_w]
                  rfl
                 refine one_ (i := 18) (N := some 90) (bm_ 45 524287) rfl rfl (one_of HT_.out (by kernel_rfl)) (by decide) (fun K hK => ?_)
                 refine goes_ Tryd.func16 (by kernel_rfl) rfl #[.string x283002_2] (by rfl) rfl rfl (by (try simp only [List.map_toArray, List.map_cons, List.map_nil]); first | done | rfl | (simp only [List.length_drop, List.length_take]; rfl) | (have z_ : ∀ s_ : ByteArray, s_.size ≤ 9223372036854775807 → -(s_.size : Int) = wrap64 (-(s_.size : Int)) := (fun s_ h_ => by unfold wrap64; omega); rw [← z_ _ (by omega)]; rfl)) ?_
                 with_reducible refine (num_Trim.calls k4 x283002_2 t290 _ A51.out).mono ?_
                 rintro e w' ⟨rfl, ⟨nd, rfl⟩⟩
                 refine ⟨_, rfl, ?_⟩
                 refine hK.out _ _ ⟨(blk_cell BK286.out 0).trans rfl, (blk_cell BK286.out 1).trans rfl, (blk_cell BK286.out 2).trans rfl, (blk_cell BK282.out 0).trans rfl, (blk_cell BK282.out 1).trans rfl, (blk_cell BK282.out 2).trans rfl⟩ (fun hHeld => ?_)
                 clear hK K
                 refine norm_ (a' := ?_) ?_ ?_
                 rotate_left
                 ·show Act.put _ (some 90) _ = _
                  simp only [Act.put, List.setIfInBounds_toArray, List.set_cons_zero, List.set_cons_succ, i64_w, i32_w]
                  rfl
                 refine pure_ (i := 19) (N := some 91) (v := ?_) (a' := ?_) (bm_ 45 1048575) rfl rfl (any_of HT_.out (by kernel_rfl)) (fun _ _ _ h => h) (Or.inl ⟨by rfl, ?_⟩) ?_ ?_
                 rotate_left; ·intro w'; go_simp; with_reducible rfl
                 rotate_left; ·simp only [Act.put, List.setIfInBounds_toArray, List.set_cons_zero, List.set_cons_succ, i64_w, i32_w]; rfl
                 refine pure_ (i := 20) (N := some 92) (v := ?_) (a' := ?_) (bm_ 45 2097151) rfl rfl (any_of HT_.out (by kernel_rfl)) (fun _ _ _ h => h) (Or.inl ⟨by rfl, ?_⟩) ?_ ?_
                 rotate_left; ·intro w'; go_simp; with_reducible rfl
                 rotate_left; ·simp only [Act.put, List.setIfInBounds_toArray, List.set_cons_zero, List.set_cons_succ, i64_w, i32_w]; rfl
                 refine pure_ (i := 21) (N := some 93) (v := ?_) (a' := ?_) (bm_ 45 4194303) rfl rfl (any_of HT_.out (by kernel_rfl)) (fun _ _ _ h => h) (Or.inl ⟨by rfl, ?_⟩) ?_ ?_
                 rotate_left; ·intro w'; go_simp; with_reducible rfl
                 rotate_left; ·simp only [Act.put, List.setIfInBounds_toArray, List.set_cons_zero, List.set_cons_succ, i64_w, i32_w]; rfl
                 refine pure_ (i := 22) (N := some 94) (v := undef) (a' := ?_) (bm_ 45 8388607) rfl rfl (any_of HT_.out (by kernel_rfl)) (fun _ _ _ h => h) (Or.inr ⟨by rfl, rfl⟩) ?_ ?_
                 rotate_left; ·simp only [Act.put, List.setIfInBounds_toArray, List.set_cons_zero, List.set_cons_succ, i64_w, i32_w]; rfl
                 refine pure_ (i := 23) (N := some 95) (v := undef) (a' := ?_) (bm_ 45 16777215) rfl rfl (any_of HT_.out (by kernel_rfl)) (fun _ _ _ h => h) (Or.inr ⟨by rfl, rfl⟩) ?_ ?_
                 rotate_left; ·simp only [Act.put, List.setIfInBounds_toArray, List.set_cons_zero, List.set_cons_succ, i64_w, i32_w]; rfl
                 refine pure_ (i := 24) (N := some 96) (v := undef) (a' := ?_) (bm_ 45 33554431) rfl rfl (any_of HT_.out (by kernel_rfl)) (fun _ _ _ h => h) (Or.inr ⟨by rfl, rfl⟩) ?_ ?_
                 rotate_left; ·simp only [Act.put, List.setIfInBounds_toArray, List.set_cons_zero, List.set_cons_succ, i64_w, i32_w]; rfl
                 refine pure_ (i := 25) (N := some 97) (v := undef) (a' := ?_) (bm_ 45 67108863) rfl rfl (any_of HT_.out (by kernel_rfl)) (fun _ _ _ h => h) (Or.inr ⟨by rfl, rfl⟩) ?_ ?_
                 rotate_left; ·simp only [Act.put, List.setIfInBounds_toArray, List.set_cons_zero, List.set_cons_succ, i64_w, i32_w]; rfl
                 refine pure_ (i := 26) (N := some 98) (v := undef) (a' := ?_) (bm_ 45 134217727) rfl rfl (any_of HT_.out (by kernel_rfl)) (fun _ _ _ h => h) (Or.inr ⟨by rfl, rfl⟩) ?_ ?_
                 rotate_left; ·simp only [Act.put, List.setIfInBounds_toArray, List.set_cons_zero, List.set_cons_succ, i64_w, i32_w]; rfl
                 refine pure_ (i := 27) (N := some 99) (v := undef) (a' := ?_) (bm_ 45 268435455) rfl rfl (any_of HT_.out (by kernel_rfl)) (fun _ _ _ h => h) (Or.inr ⟨by rfl, rfl⟩) ?_ ?_
                 rotate_left; ·simp only [Act.put, List.setIfInBounds_toArray, List.set_cons_zero, List.set_cons_succ, i64_w, i32_w]; rfl
                 refine pure_ (i := 28) (N := some 100) (v := undef) (a' := ?_) (bm_ 45 536870911) rfl rfl (any_of HT_.out (by kernel_rfl)) (fun _ _ _ h => h) (Or.inr ⟨by rfl, rfl⟩) ?_ ?_
                 rotate_left; ·simp only [Act.put, List.setIfInBounds_toArray, List.set_cons_zero, List.set_cons_succ, i64_w, i32_w]; rfl
                 refine pure_ (i := 29) (N := some 101) (v := undef) (a' := ?_) (bm_ 45 1073741823) rfl rfl (any_of HT_.out (by kernel_rfl)) (fun _ _ _ h => h) (Or.inr ⟨by rfl, rfl⟩) ?_ ?_
                 rotate_left; ·simp only [Act.put, List.setIfInBounds_toArray, List.set_cons_zero, List.set_cons_succ, i64_w, i32_w]; rfl
                 refine pure_ (i := 30) (N := some 102) (v := ?_) (a' := ?_) (bm_ 45 2147483647) rfl rfl (any_of HT_.out (by kernel_rfl)) (fun _ _ _ h => h) (Or.inl ⟨by rfl, ?_⟩) ?_ ?_
                 rotate_left; ·intro w'; go_simp; with_reducible rfl
                 rotate_left; ·simp only [Act.put, List.setIfInBounds_toArray, List.set_cons_zero, List.set_cons_succ, i64_w, i32_w]; rfl
                 refine pure_ (i := 31) (N := some 103) (v := ?_) (a' := ?_) (bm_ 45 4294967295) rfl rfl (any_of HT_.out (by kernel_rfl)) (fun _ _ _ h => h) (Or.inl ⟨by rfl, ?_⟩) ?_ ?_
                 rotate_left; ·intro w'; go_simp; with_reducible rfl
                 rotate_left; ·simp only [Act.put, List.setIfInBounds_toArray, List.set_cons_zero, List.set_cons_succ, i64_w, i32_w]; rfl
                 refine pure_ (i := 32) (N := some 104) (v := undef) (a' := ?_) (bm_ 45 8589934591) rfl rfl (any_of HT_.out (by kernel_rfl)) (fun _ _ _ h => h) (Or.inr ⟨by rfl, rfl⟩) ?_ ?_
                 rotate_left; ·simp only [Act.put, List.setIfInBounds_toArray, List.set_cons_zero, List.set_cons_succ, i64_w, i32_w]; rfl
                 refine pure_ (i := 33) (N := some 105) (v := undef) (a' := ?_) (bm_ 45 17179869183) rfl rfl (any_of HT_.out (by kernel_rfl)) (fun _ _ _ h => h) (Or.inr ⟨by rfl, rfl⟩) ?_ ?_
                 rotate_left; ·simp only [Act.put, List.setIfInBounds_toArray, List.set_cons_zero, List.set_cons_succ, i64_w, i32_w]; rfl
                 refine pure_ (i := 34) (N := some 106) (v := undef) (a' := ?_) (bm_ 45 34359738367) rfl rfl (any_of HT_.out (by kernel_rfl)) (fun _ _ _ h => h) (Or.inr ⟨by rfl, rfl⟩) ?_ ?_
                 rotate_left; ·simp only [Act.put, List.setIfInBounds_toArray, List.set_cons_zero, List.set_cons_succ, i64_w, i32_w]; rfl
                 refine pure_ (i := 35) (N := some 107) (v := undef) (a' := ?_) (bm_ 45 68719476735) rfl rfl (any_of HT_.out (by kernel_rfl)) (fun _ _ _ h => h) (Or.inr ⟨by rfl, rfl⟩) ?_ ?_
                 rotate_left; ·simp only [Act.put, List.setIfInBounds_toArray, List.set_cons_zero, List.set_cons_succ, i64_w, i32_w]; rfl
                 refine pure_ (i := 36) (N := some 108) (v := ?_) (a' := ?_) (bm_ 45 137438953471) rfl rfl (any_of HT_.out (by kernel_rfl)) (fun _ _ _ h => h) (Or.inl ⟨by rfl, ?_⟩) ?_ ?_
                 rotate_left; ·intro w'; go_simp; with_reducible rfl
                 rotate_left; ·simp only [Act.put, List.setIfInBounds_toArray, List.set_cons_zero, List.set_cons_succ, i64_w, i32_w]; rfl
                 refine pure_ (i := 37) (N := some 109) (v := ?_) (a' := ?_) (bm_ 45 274877906943) rfl rfl (any_of HT_.out (by kernel_rfl)) (fun _ _ _ h => h) (Or.inl ⟨by rfl, ?_⟩) ?_ ?_
                 rotate_left; ·intro w'; go_simp; with_reducible rfl
                 rotate_left; ·simp only [Act.put, List.setIfInBounds_toArray, List.set_cons_zero, List.set_cons_succ, i64_w, i32_w]; rfl
                 refine pure_ (i := 38) (N := some 110) (v := undef) (a' := ?_) (bm_ 45 549755813887) rfl rfl (any_of HT_.out (by kernel_rfl)) (fun _ _ _ h => h) (Or.inr ⟨by rfl, rfl⟩) ?_ ?_
                 rotate_left; ·simp only [Act.put, List.setIfInBounds_toArray, List.set_cons_zero, List.set_cons_succ, i64_w, i32_w]; rfl
                 refine pure_ (i := 39) (N := some 111) (v := undef) (a' := ?_) (bm_ 45 1099511627775) rfl rfl (any_of HT_.out (by kernel_rfl)) (fun _ _ _ h => h) (Or.inr ⟨by rfl, rfl⟩) ?_ ?_
                 rotate_left; ·simp only [Act.put, List.setIfInBounds_toArray, List.set_cons_zero, List.set_cons_succ, i64_w, i32_w]; rfl
                 refine pure_ (i := 40) (N := some 112) (v := undef) (a' := ?_) (bm_ 45 2199023255551) rfl rfl (any_of HT_.out (by kernel_rfl)) (fun _ _ _ h => h) (Or.inr ⟨by rfl, rfl⟩) ?_ ?_
                 rotate_left; ·simp only [Act.put, List.setIfInBounds_toArray, List.set_cons_zero, List.set_cons_succ, i64_w, i32_w]; rfl
                 refine pure_ (i := 41) (N := some 113) (v := undef) (a' := ?_) (bm_ 45 4398046511103) rfl rfl (any_of HT_.out (by kernel_rfl)) (fun _ _ _ h => h) (Or.inr ⟨by rfl, rfl⟩) ?_ ?_
                 rotate_left; ·simp only [Act.put, List.setIfInBounds_toArray, List.set_cons_zero, List.set_cons_succ, i64_w, i32_w]; rfl
                 refine pure_ (i := 42) (N := some 114) (v := undef) (a' := ?_) (bm_ 45 8796093022207) rfl rfl (any_of HT_.out (by kernel_rfl)) (fun _ _ _ h => h) (Or.inr ⟨by rfl, rfl⟩) ?_ ?_
                 rotate_left; ·simp only [Act.put, List.setIfInBounds_toArray, List.set_cons_zero, List.set_cons_succ, i64_w, i32_w]; rfl
                 refine pure_ (i := 43) (N := some 115) (v := undef) (a' := ?_) (bm_ 45 17592186044415) rfl rfl (any_of HT_.out (by kernel_rfl)) (fun _ _ _ h => h) (Or.inr ⟨by rfl, rfl⟩) ?_ ?_
                 rotate_left; ·simp only [Act.put, List.setIfInBounds_toArray, List.set_cons_zero, List.set_cons_succ, i64_w, i32_w]; rfl
                 refine pure_ (i := 44) (N := some 116) (v := ?_) (a' := ?_) (bm_ 45 35184372088831) rfl rfl (any_of HT_.out (by kernel_rfl)) (fun _ _ _ h => h) (Or.inl ⟨by rfl, ?_⟩) ?_ ?_
                 rotate_left; ·intro w'; go_simp; with_reducible rfl
                 rotate_left; ·simp only [Act.put, List.setIfInBounds_toArray, List.set_cons_zero, List.set_cons_succ, i64_w, i32_w]; rfl
                 refine done_ (done_of HT_.out (by kernel_rfl)) ?_
                 try go_wp2
                 go_meet
                 case rel => exact ⟨_, (true), (by first | rfl | (simp; done) | (simp [*]; done) | (simp; first | exact given_isEmpty _ | exact (given_isEmpty _).symm) | (unfold wrap64; omega) | (congr 1; unfold wrap64; omega)), H', ⟨by have := HJ5.out; have := HK2.out; have := HJ17.out; have := HK4.out; first | omega | exact Nat.le_refl _⟩, ⟨by (with_reducible repeat (first | refine blk_drewN ?_ _ | refine blk_drew ?_ | refine blk_alloc ?_ _)); exact BK282.out⟩, ⟨by (with_reducible repeat (first | refine blk_drewN ?_ _ | refine blk_drew ?_ | refine blk_alloc ?_ _)); exact BK286.out⟩, ⟨by repeat (first | (with_reducible first | exact HB.out | apply below_alloc | apply pw_below_drewN | apply below_drew1 | refine below_set ?_ GE282.out | refine below_set ?_ GE286.out) | exact HB.out)⟩⟩
               ·rw [if_neg c49] at H
                have c49b0 : (t288 == x11_17) = false := beq_eq_false_iff_ne.mpr c49
                have c49b1 : (t288 != x11_17) = true := bne_iff_ne.mpr c49
                have H' := Aside0.mk H
                clear H
                try go_wp2
                have n0_ := Aside0.mk (blk_drew BK282.out)
                have n1_ := Aside0.mk (blk_drew BK286.out)
                have n2_ := Aside0.mk (below_drew1 HB.out)
                clear BK282
                clear BK286
                clear HB
                have BK282 := n0_
                have BK286 := n1_
                have HB := n2_
                clear n0_ n1_ n2_
                refine start_ (n := 45) (S := fun w' => w'.cell? ⟨gb286, 0, none⟩ = some (.string t283) ∧ w'.cell? ⟨gb286, 1, none⟩ = some (.string t284) ∧ w'.cell? ⟨gb286, 2, none⟩ = some (.int .i64 t285)) (ds := []) #[false, false, false, false, false, false, false, false, false, false, false, false, false, false, false, false, false, false, false, false, false, false, false, false, false, false, false, false, false, false, false, false, false, false, false, false, false, false, false, false, false, false, false, false, false] (by kernel_rfl) rfl rfl ⟨(blk_cell BK286.out 0).trans rfl, (blk_cell BK286.out 1).trans rfl, (blk_cell BK286.out 2).trans rfl⟩ (fun hHeld => ?_); refine with_tabW florinlaw05_OperandParts.tab20 florinlaw05_OperandParts.bits20 (fun HT_ HW_ => ?_)
                generalize wr.drew = w84 at BK282 BK286 HB hHeld ⊢
                refine pure_ (i := 2) (N := some 74) (v := ?_) (a' := ?_) (bm_ 45 4) rfl rfl (any_of HT_.out (by kernel_rfl)) (fun _ _ _ h => h) (Or.inl ⟨by rfl, ?_⟩) ?_ ?_
                rotate_left; ·intro w'; go_simp; with_reducible rfl
                rotate_left; ·simp only [Act.put, List.setIfInBounds_toArray, List.set_cons_zero, List.set_cons_succ, i64_w, i32_w]; rfl
                refine pure_ (i := 3) (N := some 75) (v := ?_) (a' := ?_) (bm_ 45 12) rfl rfl (any_of HT_.out (by kernel_rfl)) (fun _ _ _ h => h) (Or.inl ⟨by rfl, ?_⟩) ?_ ?_
                rotate_left; ·intro w'; go_simp; with_reducible rfl
                rotate_left; ·simp only [Act.put, List.setIfInBounds_toArray, List.set_cons_zero, List.set_cons_succ, i64_w, i32_w]; rfl
                refine pure_ (i := 4) (N := some 76) (v := ?_) (a' := ?_) (bm_ 45 28) rfl rfl (any_of HT_.out (by kernel_rfl)) (fun _ _ _ h => h) (Or.inl ⟨by rfl, ?_⟩) ?_ ?_
                rotate_left; ·intro w'; go_simp; with_reducible rfl
                rotate_left; ·simp only [Act.put, List.setIfInBounds_toArray, List.set_cons_zero, List.set_cons_succ, i64_w, i32_w]; rfl
                refine pure_ (i := 5) (N := some 77) (v := ?_) (a' := ?_) (bm_ 45 60) rfl rfl (any_of HT_.out (by kernel_rfl)) (fun _ _ _ h => h) (Or.inl ⟨by rfl, ?_⟩) ?_ ?_
                rotate_left; ·intro w'; go_simp; with_reducible rfl
                rotate_left; ·simp only [Act.put, List.setIfInBounds_toArray, List.set_cons_zero, List.set_cons_succ, i64_w, i32_w]; rfl
                refine take_ (i := 0) (N := some 72) (v := ?_) (a' := ?_) (bm_ 45 61) rfl rfl (take_ofW HT_.out HW_.out (by kernel_rfl)) (fun _ _ _ h => h) (Or.inl ⟨by rfl, ?_⟩) hHeld ?_ ?_
                rotate_left; ·rintro w' ⟨s0, s1, s2⟩; go_simp; with_reducible rfl
                rotate_left; ·simp only [Act.put, List.setIfInBounds_toArray, List.set_cons_zero, List.set_cons_succ, i64_w, i32_w]; rfl
                refine one_ (i := 1) (N := some 73) (bm_ 45 63) rfl rfl (one_of HT_.out (by kernel_rfl)) (by decide) (fun K hK => ?_)
                refine goes_ Tryd.func18 (by kernel_rfl) rfl #[.agg #[.string t283, .string t284, .int .i64 t285]] (by rfl) rfl rfl (by (try simp only [List.map_toArray, List.map_cons, List.map_nil]); first | done | rfl | (simp only [List.length_drop, List.length_take]; rfl) | (have z_ : ∀ s_ : ByteArray, s_.size ≤ 9223372036854775807 → -(s_.size : Int) = wrap64 (-(s_.size : Int)) := (fun s_ h_ => by unfold wrap64; omega); rw [← z_ _ (by omega)]; rfl)) ?_
                with_reducible refine (operand_Ops_V.calls t283 t284 t285 t287 _ A46.out).mono ?_
                rintro e w85 ⟨rfl, hb⟩
                refine ⟨_, rfl, ?_⟩
                have n0_ := bb_ BK282 hb
                have n1_ := bb_ BK286 hb
                have n2_ := Aside0.mk (below_step (by repeat (first | (with_reducible first | exact HB.out | apply below_alloc | apply pw_below_drewN | apply below_drew1 | refine below_set ?_ GE282.out | refine below_set ?_ GE286.out) | exact HB.out)) hb)
                clear BK282
                clear BK286
                clear HB
                have BK282 := n0_
                have BK286 := n1_
                have HB := n2_
                clear n0_ n1_ n2_
                (try clear hb)
                (try clear hb2)
                (try clear hk)
                (try clear hi)
                refine hK.out _ _ ⟨(blk_cell BK286.out 0).trans rfl, (blk_cell BK286.out 1).trans rfl, (blk_cell BK286.out 2).trans rfl⟩ (fun hHeld => ?_)
                clear hK K
                refine norm_ (a' := ?_) ?_ ?_
                rotate_left
                ·show Act.put _ (some 73) _ = _
                 simp only [Act.put, List.setIfInBounds_toArray, List.set_cons_zero, List.set_cons_succ, i64_w, i32_w]
                 rfl
                refine pure_ (i := 6) (N := some 78) (v := ?_) (a' := ?_) (bm_ 45 127) rfl rfl (any_of HT_.out (by kernel_rfl)) (fun _ _ _ h => h) (Or.inl ⟨by rfl, ?_⟩) ?_ ?_
                rotate_left; ·intro w'; go_simp; with_reducible rfl
                rotate_left; ·simp only [Act.put, List.setIfInBounds_toArray, List.set_cons_zero, List.set_cons_succ, i64_w, i32_w]; rfl
                refine pure_ (i := 7) (N := some 79) (v := ?_) (a' := ?_) (bm_ 45 255) rfl rfl (any_of HT_.out (by kernel_rfl)) (fun _ _ _ h => h) (Or.inl ⟨by rfl, ?_⟩) ?_ ?_
                rotate_left; ·intro w'; go_simp; with_reducible rfl
                rotate_left; ·simp only [Act.put, List.setIfInBounds_toArray, List.set_cons_zero, List.set_cons_succ, i64_w, i32_w]; rfl
                refine pure_ (i := 10) (N := some 82) (v := ?_) (a' := ?_) (bm_ 45 1279) rfl rfl (any_of HT_.out (by kernel_rfl)) (fun _ _ _ h => h) (Or.inl ⟨by rfl, ?_⟩) ?_ ?_
                rotate_left; ·intro w'; go_simp; with_reducible rfl
                rotate_left; ·simp only [Act.put, List.setIfInBounds_toArray, List.set_cons_zero, List.set_cons_succ, i64_w, i32_w]; rfl
                refine take_ (i := 8) (N := some 80) (v := ?_) (a' := ?_) (bm_ 45 1535) rfl rfl (take_ofW HT_.out HW_.out (by kernel_rfl)) (fun _ _ _ h => h) (Or.inl ⟨by rfl, ?_⟩) hHeld ?_ ?_
                rotate_left; ·rintro w' ⟨s0, s1, s2⟩; go_simp; with_reducible rfl
                rotate_left; ·simp only [Act.put, List.setIfInBounds_toArray, List.set_cons_zero, List.set_cons_succ, i64_w, i32_w]; rfl
                refine one_ (i := 9) (N := some 81) (bm_ 45 2047) rfl rfl (one_of HT_.out (by kernel_rfl)) (by decide) (fun K hK => ?_)
                refine goes_ Tryd.func23 (by kernel_rfl) rfl #[.agg #[.string t283, .string t284, .int .i64 t285]] (by rfl) rfl rfl (by (try simp only [List.map_toArray, List.map_cons, List.map_nil]); first | done | rfl | (simp only [List.length_drop, List.length_take]; rfl) | (have z_ : ∀ s_ : ByteArray, s_.size ≤ 9223372036854775807 → -(s_.size : Int) = wrap64 (-(s_.size : Int)) := (fun s_ h_ => by unfold wrap64; omega); rw [← z_ _ (by omega)]; rfl)) ?_
                with_reducible refine (operand_Ops_W.calls t283 t284 t285 t288 _ A48.out).mono ?_
                rintro e w86 ⟨rfl, hb⟩
                refine ⟨_, rfl, ?_⟩
                have n0_ := bb_ BK282 hb
                have n1_ := bb_ BK286 hb
                have n2_ := Aside0.mk (below_step (by repeat (first | (with_reducible first | exact HB.out | apply below_alloc | apply pw_below_drewN | apply below_drew1 | refine below_set ?_ GE282.out | refine below_set ?_ GE286.out) | exact HB.out)) hb)
                clear BK282
                clear BK286
                clear HB
                have BK282 := n0_
                have BK286 := n1_
                have HB := n2_
                clear n0_ n1_ n2_
                (try clear hb)
                (try clear hb2)
                (try clear hk)
                (try clear hi)
                refine hK.out _ _ ⟨(blk_cell BK286.out 0).trans rfl, (blk_cell BK286.out 1).trans rfl, (blk_cell BK286.out 2).trans rfl⟩ (fun hHeld => ?_)
                clear hK K
                refine norm_ (a' := ?_) ?_ ?_
                rotate_left
                ·show Act.put _ (some 81) _ = _
                 simp only [Act.put, List.setIfInBounds_toArray, List.set_cons_zero, List.set_cons_succ, i64_w, i32_w]
                 rfl
                refine pure_ (i := 11) (N := some 83) (v := ?_) (a' := ?_) (bm_ 45 4095) rfl rfl (any_of HT_.out (by kernel_rfl)) (fun _ _ _ h => h) (Or.inl ⟨by rfl, ?_⟩) ?_ ?_
                rotate_left; ·intro w'; go_simp; with_reducible rfl
                rotate_left; ·simp only [Act.put, List.setIfInBounds_toArray, List.set_cons_zero, List.set_cons_succ, i64_w, i32_w]; rfl
                refine pure_ (i := 12) (N := some 84) (v := ?_) (a' := ?_) (bm_ 45 8191) rfl rfl (any_of HT_.out (by kernel_rfl)) (fun _ _ _ h => h) (Or.inl ⟨by rfl, ?_⟩) ?_ ?_
                rotate_left; ·intro w'; go_simp; with_reducible rfl
                rotate_left; ·simp only [Act.put, List.setIfInBounds_toArray, List.set_cons_zero, List.set_cons_succ, i64_w, i32_w]; rfl
                refine pure_ (i := 13) (N := some 85) (v := ?_) (a' := ?_) (bm_ 45 16383) rfl rfl (any_of HT_.out (by kernel_rfl)) (fun _ _ _ h => h) (Or.inl ⟨by rfl, ?_⟩) ?_ ?_
                rotate_left; ·intro w'; go_simp; with_reducible rfl
                rotate_left; ·simp only [Act.put, List.setIfInBounds_toArray, List.set_cons_zero, List.set_cons_succ, i64_w, i32_w]; rfl
                refine pure_ (i := 14) (N := some 86) (v := undef) (a' := ?_) (bm_ 45 32767) rfl rfl (any_of HT_.out (by kernel_rfl)) (fun _ _ _ h => h) (Or.inr ⟨by rfl, rfl⟩) ?_ ?_
                rotate_left; ·simp only [Act.put, List.setIfInBounds_toArray, List.set_cons_zero, List.set_cons_succ, i64_w, i32_w]; rfl
                refine pure_ (i := 15) (N := some 87) (v := undef) (a' := ?_) (bm_ 45 65535) rfl rfl (any_of HT_.out (by kernel_rfl)) (fun _ _ _ h => h) (Or.inr ⟨by rfl, rfl⟩) ?_ ?_
                rotate_left; ·simp only [Act.put, List.setIfInBounds_toArray, List.set_cons_zero, List.set_cons_succ, i64_w, i32_w]; rfl
                refine pure_ (i := 16) (N := some 88) (v := undef) (a' := ?_) (bm_ 45 131071) rfl rfl (any_of HT_.out (by kernel_rfl)) (fun _ _ _ h => h) (Or.inr ⟨by rfl, rfl⟩) ?_ ?_
                rotate_left; ·simp only [Act.put, List.setIfInBounds_toArray, List.set_cons_zero, List.set_cons_succ, i64_w, i32_w]; rfl
                refine pure_ (i := 17) (N := some 89) (v := undef) (a' := ?_) (bm_ 45 262143) rfl rfl (any_of HT_.out (by kernel_rfl)) (fun _ _ _ h => h) (Or.inr ⟨by rfl, rfl⟩) ?_ ?_
                rotate_left; ·simp only [Act.put, List.setIfInBounds_toArray, List.set_cons_zero, List.set_cons_succ, i64_w, i32_w]; rfl
                refine pure_ (i := 18) (N := some 90) (v := undef) (a' := ?_) (bm_ 45 524287) rfl rfl (any_of HT_.out (by kernel_rfl)) (fun _ _ _ h => h) (Or.inr ⟨by rfl, rfl⟩) ?_ ?_
                rotate_left; ·simp only [Act.put, List.setIfInBounds_toArray, List.set_cons_zero, List.set_cons_succ, i64_w, i32_w]; rfl
                refine pure_ (i := 19) (N := some 91) (v := undef) (a' := ?_) (bm_ 45 1048575) rfl rfl (any_of HT_.out (by kernel_rfl)) (fun _ _ _ h => h) (Or.inr ⟨by rfl, rfl⟩) ?_ ?_
                rotate_left; ·simp only [Act.put, List.setIfInBounds_toArray, List.set_cons_zero, List.set_cons_succ, i64_w, i32_w]; rfl
                refine pure_ (i := 20) (N := some 92) (v := ?_) (a' := ?_) (bm_ 45 2097151) rfl rfl (any_of HT_.out (by kernel_rfl)) (fun _ _ _ h => h) (Or.inl ⟨by rfl, ?_⟩) ?_ ?_
                rotate_left; ·intro w'; go_simp; with_reducible rfl
                rotate_left; ·simp only [Act.put, List.setIfInBounds_toArray, List.set_cons_zero, List.set_cons_succ, i64_w, i32_w]; rfl
                refine pure_ (i := 21) (N := some 93) (v := ?_) (a' := ?_) (bm_ 45 4194303) rfl rfl (any_of HT_.out (by kernel_rfl)) (fun _ _ _ h => h) (Or.inl ⟨by rfl, ?_⟩) ?_ ?_
                rotate_left; ·intro w'; go_simp; with_reducible rfl
                rotate_left; ·simp only [Act.put, List.setIfInBounds_toArray, List.set_cons_zero, List.set_cons_succ, i64_w, i32_w]; rfl
                refine pure_ (i := 22) (N := some 94) (v := undef) (a' := ?_) (bm_ 45 8388607) rfl rfl (any_of HT_.out (by kernel_rfl)) (fun _ _ _ h => h) (Or.inr ⟨by rfl, rfl⟩) ?_ ?_
                rotate_left; ·simp only [Act.put, List.setIfInBounds_toArray, List.set_cons_zero, List.set_cons_succ, i64_w, i32_w]; rfl
                refine pure_ (i := 23) (N := some 95) (v := undef) (a' := ?_) (bm_ 45 16777215) rfl rfl (any_of HT_.out (by kernel_rfl)) (fun _ _ _ h => h) (Or.inr ⟨by rfl, rfl⟩) ?_ ?_
                rotate_left; ·simp only [Act.put, List.setIfInBounds_toArray, List.set_cons_zero, List.set_cons_succ, i64_w, i32_w]; rfl
                refine pure_ (i := 24) (N := some 96) (v := undef) (a' := ?_) (bm_ 45 33554431) rfl rfl (any_of HT_.out (by kernel_rfl)) (fun _ _ _ h => h) (Or.inr ⟨by rfl, rfl⟩) ?_ ?_
                rotate_left; ·simp only [Act.put, List.setIfInBounds_toArray, List.set_cons_zero, List.set_cons_succ, i64_w, i32_w]; rfl
                refine pure_ (i := 25) (N := some 97) (v := undef) (a' := ?_) (bm_ 45 67108863) rfl rfl (any_of HT_.out (by kernel_rfl)) (fun _ _ _ h => h) (Or.inr ⟨by rfl, rfl⟩) ?_ ?_
                rotate_left; ·simp only [Act.put, List.setIfInBounds_toArray, List.set_cons_zero, List.set_cons_succ, i64_w, i32_w]; rfl
                refine pure_ (i := 26) (N := some 98) (v := undef) (a' := ?_) (bm_ 45 134217727) rfl rfl (any_of HT_.out (by kernel_rfl)) (fun _ _ _ h => h) (Or.inr ⟨by rfl, rfl⟩) ?_ ?_
                rotate_left; ·simp only [Act.put, List.setIfInBounds_toArray, List.set_cons_zero, List.set_cons_succ, i64_w, i32_w]; rfl
                refine pure_ (i := 27) (N := some 99) (v := undef) (a' := ?_) (bm_ 45 268435455) rfl rfl (any_of HT_.out (by kernel_rfl)) (fun _ _ _ h => h) (Or.inr ⟨by rfl, rfl⟩) ?_ ?_
                rotate_left; ·simp only [Act.put, List.setIfInBounds_toArray, List.set_cons_zero, List.set_cons_succ, i64_w, i32_w]; rfl
                refine pure_ (i := 28) (N := some 100) (v := undef) (a' := ?_) (bm_ 45 536870911) rfl rfl (any_of HT_.out (by kernel_rfl)) (fun _ _ _ h => h) (Or.inr ⟨by rfl, rfl⟩) ?_ ?_
                rotate_left; ·simp only [Act.put, List.setIfInBounds_toArray, List.set_cons_zero, List.set_cons_succ, i64_w, i32_w]; rfl
                refine pure_ (i := 29) (N := some 101) (v := undef) (a' := ?_) (bm_ 45 1073741823) rfl rfl (any_of HT_.out (by kernel_rfl)) (fun _ _ _ h => h) (Or.inr ⟨by rfl, rfl⟩) ?_ ?_
                rotate_left; ·simp only [Act.put, List.setIfInBounds_toArray, List.set_cons_zero, List.set_cons_succ, i64_w, i32_w]; rfl
                refine pure_ (i := 30) (N := some 102) (v := ?_) (a' := ?_) (bm_ 45 2147483647) rfl rfl (any_of HT_.out (by kernel_rfl)) (fun _ _ _ h => h) (Or.inl ⟨by rfl, ?_⟩) ?_ ?_
                rotate_left; ·intro w'; go_simp; with_reducible rfl
                rotate_left; ·simp only [Act.put, List.setIfInBounds_toArray, List.set_cons_zero, List.set_cons_succ, i64_w, i32_w]; rfl
                refine pure_ (i := 31) (N := some 103) (v := ?_) (a' := ?_) (bm_ 45 4294967295) rfl rfl (any_of HT_.out (by kernel_rfl)) (fun _ _ _ h => h) (Or.inl ⟨by rfl, ?_⟩) ?_ ?_
                rotate_left; ·intro w'; go_simp; with_reducible rfl
                rotate_left; ·simp only [Act.put, List.setIfInBounds_toArray, List.set_cons_zero, List.set_cons_succ, i64_w, i32_w]; rfl
                refine pure_ (i := 32) (N := some 104) (v := undef) (a' := ?_) (bm_ 45 8589934591) rfl rfl (any_of HT_.out (by kernel_rfl)) (fun _ _ _ h => h) (Or.inr ⟨by rfl, rfl⟩) ?_ ?_
                rotate_left; ·simp only [Act.put, List.setIfInBounds_toArray, List.set_cons_zero, List.set_cons_succ, i64_w, i32_w]; rfl
                refine pure_ (i := 33) (N := some 105) (v := undef) (a' := ?_) (bm_ 45 17179869183) rfl rfl (any_of HT_.out (by kernel_rfl)) (fun _ _ _ h => h) (Or.inr ⟨by rfl, rfl⟩) ?_ ?_
                rotate_left; ·simp only [Act.put, List.setIfInBounds_toArray, List.set_cons_zero, List.set_cons_succ, i64_w, i32_w]; rfl
                refine pure_ (i := 34) (N := some 106) (v := undef) (a' := ?_) (bm_ 45 34359738367) rfl rfl (any_of HT_.out (by kernel_rfl)) (fun _ _ _ h => h) (Or.inr ⟨by rfl, rfl⟩) ?_ ?_
                rotate_left; ·simp only [Act.put, List.setIfInBounds_toArray, List.set_cons_zero, List.set_cons_succ, i64_w, i32_w]; rfl
                refine pure_ (i := 35) (N := some 107) (v := undef) (a' := ?_) (bm_ 45 68719476735) rfl rfl (any_of HT_.out (by kernel_rfl)) (fun _ _ _ h => h) (Or.inr ⟨by rfl, rfl⟩) ?_ ?_
                rotate_left; ·simp only [Act.put, List.setIfInBounds_toArray, List.set_cons_zero, List.set_cons_succ, i64_w, i32_w]; rfl
                refine pure_ (i := 36) (N := some 108) (v := ?_) (a' := ?_) (bm_ 45 137438953471) rfl rfl (any_of HT_.out (by kernel_rfl)) (fun _ _ _ h => h) (Or.inl ⟨by rfl, ?_⟩) ?_ ?_
                rotate_left; ·intro w'; go_simp; with_reducible rfl
                rotate_left; ·simp only [Act.put, List.setIfInBounds_toArray, List.set_cons_zero, List.set_cons_succ, i64_w, i32_w]; rfl
                refine pure_ (i := 37) (N := some 109) (v := ?_) (a' := ?_) (bm_ 45 274877906943) rfl rfl (any_of HT_.out (by kernel_rfl)) (fun _ _ _ h => h) (Or.inl ⟨by rfl, ?_⟩) ?_ ?_
                rotate_left; ·intro w'; go_simp; with_reducible rfl
                rotate_left; ·simp only [Act.put, List.setIfInBounds_toArray, List.set_cons_zero, List.set_cons_succ, i64_w, i32_w]; rfl
                refine pure_ (i := 38) (N := some 110) (v := undef) (a' := ?_) (bm_ 45 549755813887) rfl rfl (any_of HT_.out (by kernel_rfl)) (fun _ _ _ h => h) (Or.inr ⟨by rfl, rfl⟩) ?_ ?_
                rotate_left; ·simp only [Act.put, List.setIfInBounds_toArray, List.set_cons_zero, List.set_cons_succ, i64_w, i32_w]; rfl
                refine pure_ (i := 39) (N := some 111) (v := undef) (a' := ?_) (bm_ 45 1099511627775) rfl rfl (any_of HT_.out (by kernel_rfl)) (fun _ _ _ h => h) (Or.inr ⟨by rfl, rfl⟩) ?_ ?_
                rotate_left; ·simp only [Act.put, List.setIfInBounds_toArray, List.set_cons_zero, List.set_cons_succ, i64_w, i32_w]; rfl
                refine pure_ (i := 40) (N := some 112) (v := undef) (a' := ?_) (bm_ 45 2199023255551) rfl rfl (any_of HT_.out (by kernel_rfl)) (fun _ _ _ h => h) (Or.inr ⟨by rfl, rfl⟩) ?_ ?_
                rotate_left; ·simp only [Act.put, List.setIfInBounds_toArray, List.set_cons_zero, List.set_cons_succ, i64_w, i32_w]; rfl
                refine pure_ (i := 41) (N := some 113) (v := undef) (a' := ?_) (bm_ 45 4398046511103) rfl rfl (any_of HT_.out (by kernel_rfl)) (fun _ _ _ h => h) (Or.inr ⟨by rfl, rfl⟩) ?_ ?_
                rotate_left; ·simp only [Act.put, List.setIfInBounds_toArray, List.set_cons_zero, List.set_cons_succ, i64_w, i32_w]; rfl
                refine pure_ (i := 42) (N := some 114) (v := undef) (a' := ?_) (bm_ 45 8796093022207) rfl rfl (any_of HT_.out (by kernel_rfl)) (fun _ _ _ h => h) (Or.inr ⟨by rfl, rfl⟩) ?_ ?_
                rotate_left; ·simp only [Act.put, List.setIfInBounds_toArray, List.set_cons_zero, List.set_cons_succ, i64_w, i32_w]; rfl
                refine pure_ (i := 43) (N := some 115) (v := undef) (a' := ?_) (bm_ 45 17592186044415) rfl rfl (any_of HT_.out (by kernel_rfl)) (fun _ _ _ h => h) (Or.inr ⟨by rfl, rfl⟩) ?_ ?_
                rotate_left; ·simp only [Act.put, List.setIfInBounds_toArray, List.set_cons_zero, List.set_cons_succ, i64_w, i32_w]; rfl
                refine pure_ (i := 44) (N := some 116) (v := ?_) (a' := ?_) (bm_ 45 35184372088831) rfl rfl (any_of HT_.out (by kernel_rfl)) (fun _ _ _ h => h) (Or.inl ⟨by rfl, ?_⟩) ?_ ?_
                rotate_left; ·intro w'; go_simp; with_reducible rfl
                rotate_left; ·simp only [Act.put, List.setIfInBounds_toArray, List.set_cons_zero, List.set_cons_succ, i64_w, i32_w]; rfl
                refine done_ (done_of HT_.out (by kernel_rfl)) ?_
                try go_wp2
                go_meet
                case rel => exact ⟨_, (true), (by first | rfl | (simp; done) | (simp [*]; done) | (simp; first | exact given_isEmpty _ | exact (given_isEmpty _).symm) | (unfold wrap64; omega) | (congr 1; unfold wrap64; omega)), H', ⟨by have := HJ5.out; have := HK2.out; have := HJ17.out; have := HK4.out; first | omega | exact Nat.le_refl _⟩, ⟨by (with_reducible repeat (first | refine blk_drewN ?_ _ | refine blk_drew ?_ | refine blk_alloc ?_ _)); exact BK282.out⟩, ⟨by (with_reducible repeat (first | refine blk_drewN ?_ _ | refine blk_drew ?_ | refine blk_alloc ?_ _)); exact BK286.out⟩, ⟨by repeat (first | (with_reducible first | exact HB.out | apply below_alloc | apply pw_below_drewN | apply below_drew1 | refine below_set ?_ GE282.out | refine below_set ?_ GE286.out) | exact HB.out)⟩⟩
              ·rw [if_neg c47] at H
               have c47b0 : (t287 == (wrap64 ((l1.length : Int) + (Go.bits .and .i64 a2 7)))) = false := beq_eq_false_iff_ne.mpr c47
               have c47b1 : (t287 != (wrap64 ((l1.length : Int) + (Go.bits .and .i64 a2 7)))) = true := bne_iff_ne.mpr c47
               (first | rw [c47b0] | (simp only [i64_w, i32_w]; rw [c47b0]) | skip)
               have H' := Aside0.mk H
               clear H
               try go_wp2
               have n0_ := Aside0.mk (blk_drew BK282.out)
               have n1_ := Aside0.mk (blk_drew BK286.out)
               have n2_ := Aside0.mk (below_drew1 HB.out)
               clear BK282
               clear BK286
               clear HB
               have BK282 := n0_
               have BK286 := n1_
               have HB := n2_
               clear n0_ n1_ n2_
               refine start_ (n := 45) (S := fun w' => w'.cell? ⟨gb286, 0, none⟩ = some (.string t283) ∧ w'.cell? ⟨gb286, 1, none⟩ = some (.string t284) ∧ w'.cell? ⟨gb286, 2, none⟩ = some (.int .i64 t285)) (ds := []) #[false, false, false, false, false, false, false, false, false, false, false, false, false, false, false, false, false, false, false, false, false, false, false, false, false, false, false, false, false, false, false, false, false, false, false, false, false, false, false, false, false, false, false, false, false] (by kernel_rfl) rfl rfl ⟨(blk_cell BK286.out 0).trans rfl, (blk_cell BK286.out 1).trans rfl, (blk_cell BK286.out 2).trans rfl⟩ (fun hHeld => ?_); refine with_tabW florinlaw05_OperandParts.tab20 florinlaw05_OperandParts.bits20 (fun HT_ HW_ => ?_)
               generalize wr.drew = w87 at BK282 BK286 HB hHeld ⊢
               refine pure_ (i := 2) (N := some 74) (v := ?_) (a' := ?_) (bm_ 45 4) rfl rfl (any_of HT_.out (by kernel_rfl)) (fun _ _ _ h => h) (Or.inl ⟨by rfl, ?_⟩) ?_ ?_
               rotate_left; ·intro w'; go_simp; with_reducible rfl
               rotate_left; ·simp only [Act.put, List.setIfInBounds_toArray, List.set_cons_zero, List.set_cons_succ, i64_w, i32_w]; rfl
               refine pure_ (i := 3) (N := some 75) (v := ?_) (a' := ?_) (bm_ 45 12) rfl rfl (any_of HT_.out (by kernel_rfl)) (fun _ _ _ h => h) (Or.inl ⟨by rfl, ?_⟩) ?_ ?_
               rotate_left; ·intro w'; go_simp; with_reducible rfl
               rotate_left; ·simp only [Act.put, List.setIfInBounds_toArray, List.set_cons_zero, List.set_cons_succ, i64_w, i32_w]; rfl
               refine pure_ (i := 4) (N := some 76) (v := ?_) (a' := ?_) (bm_ 45 28) rfl rfl (any_of HT_.out (by kernel_rfl)) (fun _ _ _ h => h) (Or.inl ⟨by rfl, ?_⟩) ?_ ?_
               rotate_left; ·intro w'; go_simp; with_reducible rfl
               rotate_left; ·simp only [Act.put, List.setIfInBounds_toArray, List.set_cons_zero, List.set_cons_succ, i64_w, i32_w]; rfl
               refine pure_ (i := 5) (N := some 77) (v := ?_) (a' := ?_) (bm_ 45 60) rfl rfl (any_of HT_.out (by kernel_rfl)) (fun _ _ _ h => h) (Or.inl ⟨by rfl, ?_⟩) ?_ ?_
               rotate_left; ·intro w'; go_simp; with_reducible rfl
               rotate_left; ·simp only [Act.put, List.setIfInBounds_toArray, List.set_cons_zero, List.set_cons_succ, i64_w, i32_w]; rfl
               refine take_ (i := 0) (N := some 72) (v := ?_) (a' := ?_) (bm_ 45 61) rfl rfl (take_ofW HT_.out HW_.out (by kernel_rfl)) (fun _ _ _ h => h) (Or.inl ⟨by rfl, ?_⟩) hHeld ?_ ?_
               rotate_left; ·rintro w' ⟨s0, s1, s2⟩; go_simp; with_reducible rfl
               rotate_left; ·simp only [Act.put, List.setIfInBounds_toArray, List.set_cons_zero, List.set_cons_succ, i64_w, i32_w]; rfl
               refine one_ (i := 1) (N := some 73) (bm_ 45 63) rfl rfl (one_of HT_.out (by kernel_rfl)) (by decide) (fun K hK => ?_)
               refine goes_ Tryd.func18 (by kernel_rfl) rfl #[.agg #[.string t283, .string t284, .int .i64 t285]] (by rfl) rfl rfl (by (try simp only [List.map_toArray, List.map_cons, List.map_nil]); first | done | rfl | (simp only [List.length_drop, List.length_take]; rfl) | (have z_ : ∀ s_ : ByteArray, s_.size ≤ 9223372036854775807 → -(s_.size : Int) = wrap64 (-(s_.size : Int)) := (fun s_ h_ => by unfold wrap64; omega); rw [← z_ _ (by omega)]; rfl)) ?_
               with_reducible refine (operand_Ops_V.calls t283 t284 t285 t287 _ A46.out).mono ?_
               rintro e w88 ⟨rfl, hb⟩
               refine ⟨_, rfl, ?_⟩
               have n0_ := bb_ BK282 hb
               have n1_ := bb_ BK286 hb
               have n2_ := Aside0.mk (below_step (by repeat (first | (with_reducible first | exact HB.out | apply below_alloc | apply pw_below_drewN | apply below_drew1 | refine below_set ?_ GE282.out | refine below_set ?_ GE286.out) | exact HB.out)) hb)
               clear BK282
               clear BK286
               clear HB
               have BK282 := n0_
               have BK286 := n1_
               have HB := n2_
               clear n0_ n1_ n2_
               (try clear hb)
               (try clear hb2)
               (try clear hk)
               (try clear hi)
               refine hK.out _ _ ⟨(blk_cell BK286.out 0).trans rfl, (blk_cell BK286.out 1).trans rfl, (blk_cell BK286.out 2).trans rfl⟩ (fun hHeld => ?_)
               clear hK K
               refine norm_ (a' := ?_) ?_ ?_
               rotate_left
               ·show Act.put _ (some 73) _ = _
                simp only [Act.put, List.setIfInBounds_toArray, List.set_cons_zero, List.set_cons_succ, i64_w, i32_w]
                rfl
               refine pure_ (i := 6) (N := some 78) (v := ?_) (a' := ?_) (bm_ 45 127) rfl rfl (any_of HT_.out (by kernel_rfl)) (fun _ _ _ h => h) (Or.inl ⟨by rfl, ?_⟩) ?_ ?_
               rotate_left; ·intro w'; go_simp; with_reducible rfl
               rotate_left; ·simp only [Act.put, List.setIfInBounds_toArray, List.set_cons_zero, List.set_cons_succ, i64_w, i32_w]; rfl
               refine pure_ (i := 7) (N := some 79) (v := ?_) (a' := ?_) (bm_ 45 255) rfl rfl (any_of HT_.out (by kernel_rfl)) (fun _ _ _ h => h) (Or.inl ⟨by rfl, ?_⟩) ?_ ?_
               rotate_left; ·intro w'; go_simp; with_reducible rfl
               rotate_left; ·simp only [Act.put, List.setIfInBounds_toArray, List.set_cons_zero, List.set_cons_succ, i64_w, i32_w]; rfl
               refine pure_ (i := 8) (N := some 80) (v := undef) (a' := ?_) (bm_ 45 511) rfl rfl (any_of HT_.out (by kernel_rfl)) (fun _ _ _ h => h) (Or.inr ⟨by rfl, rfl⟩) ?_ ?_
               rotate_left; ·simp only [Act.put, List.setIfInBounds_toArray, List.set_cons_zero, List.set_cons_succ, i64_w, i32_w]; rfl
               refine pure_ (i := 9) (N := some 81) (v := undef) (a' := ?_) (bm_ 45 1023) rfl rfl (any_of HT_.out (by kernel_rfl)) (fun _ _ _ h => h) (Or.inr ⟨by rfl, rfl⟩) ?_ ?_
               rotate_left; ·simp only [Act.put, List.setIfInBounds_toArray, List.set_cons_zero, List.set_cons_succ, i64_w, i32_w]; rfl
               refine pure_ (i := 10) (N := some 82) (v := undef) (a' := ?_) (bm_ 45 2047) rfl rfl (any_of HT_.out (by kernel_rfl)) (fun _ _ _ h => h) (Or.inr ⟨by rfl, rfl⟩) ?_ ?_
               rotate_left; ·simp only [Act.put, List.setIfInBounds_toArray, List.set_cons_zero, List.set_cons_succ, i64_w, i32_w]; rfl
               refine pure_ (i := 11) (N := some 83) (v := undef) (a' := ?_) (bm_ 45 4095) rfl rfl (any_of HT_.out (by kernel_rfl)) (fun _ _ _ h => h) (Or.inr ⟨by rfl, rfl⟩) ?_ ?_
               rotate_left; ·simp only [Act.put, List.setIfInBounds_toArray, List.set_cons_zero, List.set_cons_succ, i64_w, i32_w]; rfl
               refine pure_ (i := 12) (N := some 84) (v := ?_) (a' := ?_) (bm_ 45 8191) rfl rfl (any_of HT_.out (by kernel_rfl)) (fun _ _ _ h => h) (Or.inl ⟨by rfl, ?_⟩) ?_ ?_
               rotate_left; ·intro w'; go_simp; with_reducible rfl
               rotate_left; ·simp only [Act.put, List.setIfInBounds_toArray, List.set_cons_zero, List.set_cons_succ, i64_w, i32_w]; rfl
               refine pure_ (i := 13) (N := some 85) (v := ?_) (a' := ?_) (bm_ 45 16383) rfl rfl (any_of HT_.out (by kernel_rfl)) (fun _ _ _ h => h) (Or.inl ⟨by rfl, ?_⟩) ?_ ?_
               rotate_left; ·intro w'; go_simp; with_reducible rfl
               rotate_left; ·simp only [Act.put, List.setIfInBounds_toArray, List.set_cons_zero, List.set_cons_succ, i64_w, i32_w]; rfl
               refine pure_ (i := 14) (N := some 86) (v := undef) (a' := ?_) (bm_ 45 32767) rfl rfl (any_of HT_.out (by kernel_rfl)) (fun _ _ _ h => h) (Or.inr ⟨by rfl, rfl⟩) ?_ ?_
               rotate_left; ·simp only [Act.put, List.setIfInBounds_toArray, List.set_cons_zero, List.set_cons_succ, i64_w, i32_w]; rfl
               refine pure_ (i := 15) (N := some 87) (v := undef) (a' := ?_) (bm_ 45 65535) rfl rfl (any_of HT_.out (by kernel_rfl)) (fun _ _ _ h => h) (Or.inr ⟨by rfl, rfl⟩) ?_ ?_
               rotate_left; ·simp only [Act.put, List.setIfInBounds_toArray, List.set_cons_zero, List.set_cons_succ, i64_w, i32_w]; rfl
               refine pure_ (i := 16) (N := some 88) (v := undef) (a' := ?_) (bm_ 45 131071) rfl rfl (any_of HT_.out (by kernel_rfl)) (fun _ _ _ h => h) (Or.inr ⟨by rfl, rfl⟩) ?_ ?_
               rotate_left; ·simp only [Act.put, List.setIfInBounds_toArray, List.set_cons_zero, List.set_cons_succ, i64_w, i32_w]; rfl
               refine pure_ (i := 17) (N := some 89) (v := undef) (a' := ?_) (bm_ 45 262143) rfl rfl (any_of HT_.out (by kernel_rfl)) (fun _ _ _ h => h) (Or.inr ⟨by rfl, rfl⟩) ?_ ?_
               rotate_left; ·simp only [Act.put, List.setIfInBounds_toArray, List.set_cons_zero, List.set_cons_succ, i64_w, i32_w]; rfl
               refine pure_ (i := 18) (N := some 90) (v := undef) (a' := ?_) (bm_ 45 524287) rfl rfl (any_of HT_.out (by kernel_rfl)) (fun _ _ _ h => h) (Or.inr ⟨by rfl, rfl⟩) ?_ ?_
               rotate_left; ·simp only [Act.put, List.setIfInBounds_toArray, List.set_cons_zero, List.set_cons_succ, i64_w, i32_w]; rfl
               refine pure_ (i := 19) (N := some 91) (v := undef) (a' := ?_) (bm_ 45 1048575) rfl rfl (any_of HT_.out (by kernel_rfl)) (fun _ _ _ h => h) (Or.inr ⟨by rfl, rfl⟩) ?_ ?_
               rotate_left; ·simp only [Act.put, List.setIfInBounds_toArray, List.set_cons_zero, List.set_cons_succ, i64_w, i32_w]; rfl
               refine pure_ (i := 20) (N := some 92) (v := ?_) (a' := ?_) (bm_ 45 2097151) rfl rfl (any_of HT_.out (by kernel_rfl)) (fun _ _ _ h => h) (Or.inl ⟨by rfl, ?_⟩) ?_ ?_
               rotate_left; ·intro w'; go_simp; with_reducible rfl
               rotate_left; ·simp only [Act.put, List.setIfInBounds_toArray, List.set_cons_zero, List.set_cons_succ, i64_w, i32_w]; rfl
               refine pure_ (i := 21) (N := some 93) (v := ?_) (a' := ?_) (bm_ 45 4194303) rfl rfl (any_of HT_.out (by kernel_rfl)) (fun _ _ _ h => h) (Or.inl ⟨by rfl, ?_⟩) ?_ ?_
               rotate_left; ·intro w'; go_simp; with_reducible rfl
               rotate_left; ·simp only [Act.put, List.setIfInBounds_toArray, List.set_cons_zero, List.set_cons_succ, i64_w, i32_w]; rfl
               refine pure_ (i := 22) (N := some 94) (v := undef) (a' := ?_) (bm_ 45 8388607) rfl rfl (any_of HT_.out (by kernel_rfl)) (fun _ _ _ h => h) (Or.inr ⟨by rfl, rfl⟩) ?_ ?_
               rotate_left; ·simp only [Act.put, List.setIfInBounds_toArray, List.set_cons_zero, List.set_cons_succ, i64_w, i32_w]; rfl
               refine pure_ (i := 23) (N := some 95) (v := undef) (a' := ?_) (bm_ 45 16777215) rfl rfl (any_of HT_.out (by kernel_rfl)) (fun _ _ _ h => h) (Or.inr ⟨by rfl, rfl⟩) ?_ ?_
               rotate_left; ·simp only [Act.put, List.setIfInBounds_toArray, List.set_cons_zero, List.set_cons_succ, i64_w, i32_w]; rfl
               refine pure_ (i := 24) (N := some 96) (v := undef) (a' := ?_) (bm_ 45 33554431) rfl rfl (any_of HT_.out (by kernel_rfl)) (fun _ _ _ h => h) (Or.inr ⟨by rfl, rfl⟩) ?_ ?_
               rotate_left; ·simp only [Act.put, List.setIfInBounds_toArray, List.set_cons_zero, List.set_cons_succ, i64_w, i32_w]; rfl
               refine pure_ (i := 25) (N := some 97) (v := undef) (a' := ?_) (bm_ 45 67108863) rfl rfl (any_of HT_.out (by kernel_rfl)) (fun _ _ _ h => h) (Or.inr ⟨by rfl, rfl⟩) ?_ ?_
               rotate_left; ·simp only [Act.put, List.setIfInBounds_toArray, List.set_cons_zero, List.set_cons_succ, i64_w, i32_w]; rfl
               refine pure_ (i := 26) (N := some 98) (v := undef) (a' := ?_) (bm_ 45 134217727) rfl rfl (any_of HT_.out (by kernel_rfl)) (fun _ _ _ h => h) (Or.inr ⟨by rfl, rfl⟩) ?_ ?_
               rotate_left; ·simp only [Act.put, List.setIfInBounds_toArray, List.set_cons_zero, List.set_cons_succ, i64_w, i32_w]; rfl
               refine pure_ (i := 27) (N := some 99) (v := undef) (a' := ?_) (bm_ 45 268435455) rfl rfl (any_of HT_.out (by kernel_rfl)) (fun _ _ _ h => h) (Or.inr ⟨by rfl, rfl⟩) ?_ ?_
               rotate_left; ·simp only [Act.put, List.setIfInBounds_toArray, List.set_cons_zero, List.set_cons_succ, i64_w, i32_w]; rfl
               refine pure_ (i := 28) (N := some 100) (v := undef) (a' := ?_) (bm_ 45 536870911) rfl rfl (any_of HT_.out (by kernel_rfl)) (fun _ _ _ h => h) (Or.inr ⟨by rfl, rfl⟩) ?_ ?_
               rotate_left; ·simp only [Act.put, List.setIfInBounds_toArray, List.set_cons_zero, List.set_cons_succ, i64_w, i32_w]; rfl
               refine pure_ (i := 29) (N := some 101) (v := undef) (a' := ?_) (bm_ 45 1073741823) rfl rfl (any_of HT_.out (by kernel_rfl)) (fun _ _ _ h => h) (Or.inr ⟨by rfl, rfl⟩) ?_ ?_
               rotate_left; ·simp only [Act.put, List.setIfInBounds_toArray, List.set_cons_zero, List.set_cons_succ, i64_w, i32_w]; rfl
               refine pure_ (i := 30) (N := some 102) (v := ?_) (a' := ?_) (bm_ 45 2147483647) rfl rfl (any_of HT_.out (by kernel_rfl)) (fun _ _ _ h => h) (Or.inl ⟨by rfl, ?_⟩) ?_ ?_
               rotate_left; ·intro w'; go_simp; with_reducible rfl
               rotate_left; ·simp only [Act.put, List.setIfInBounds_toArray, List.set_cons_zero, List.set_cons_succ, i64_w, i32_w]; rfl
               refine pure_ (i := 31) (N := some 103) (v := ?_) (a' := ?_) (bm_ 45 4294967295) rfl rfl (any_of HT_.out (by kernel_rfl)) (fun _ _ _ h => h) (Or.inl ⟨by rfl, ?_⟩) ?_ ?_
               rotate_left; ·intro w'; go_simp; with_reducible rfl
               rotate_left; ·simp only [Act.put, List.setIfInBounds_toArray, List.set_cons_zero, List.set_cons_succ, i64_w, i32_w]; rfl
               refine pure_ (i := 32) (N := some 104) (v := undef) (a' := ?_) (bm_ 45 8589934591) rfl rfl (any_of HT_.out (by kernel_rfl)) (fun _ _ _ h => h) (Or.inr ⟨by rfl, rfl⟩) ?_ ?_
               rotate_left; ·simp only [Act.put, List.setIfInBounds_toArray, List.set_cons_zero, List.set_cons_succ, i64_w, i32_w]; rfl
               refine pure_ (i := 33) (N := some 105) (v := undef) (a' := ?_) (bm_ 45 17179869183) rfl rfl (any_of HT_.out (by kernel_rfl)) (fun _ _ _ h => h) (Or.inr ⟨by rfl, rfl⟩) ?_ ?_
               rotate_left; ·simp only [Act.put, List.setIfInBounds_toArray, List.set_cons_zero, List.set_cons_succ, i64_w, i32_w]; rfl
               refine pure_ (i := 34) (N := some 106) (v := undef) (a' := ?_) (bm_ 45 34359738367) rfl rfl (any_of HT_.out (by kernel_rfl)) (fun _ _ _ h => h) (Or.inr ⟨by rfl, rfl⟩) ?_ ?_
               rotate_left; ·simp only [Act.put, List.setIfInBounds_toArray, List.set_cons_zero, List.set_cons_succ, i64_w, i32_w]; rfl
               refine pure_ (i := 35) (N := some 107) (v := undef) (a' := ?_) (bm_ 45 68719476735) rfl rfl (any_of HT_.out (by kernel_rfl)) (fun _ _ _ h => h) (Or.inr ⟨by rfl, rfl⟩) ?_ ?_
               rotate_left; ·simp only [Act.put, List.setIfInBounds_toArray, List.set_cons_zero, List.set_cons_succ, i64_w, i32_w]; rfl
               refine pure_ (i := 36) (N := some 108) (v := ?_) (a' := ?_) (bm_ 45 137438953471) rfl rfl (any_of HT_.out (by kernel_rfl)) (fun _ _ _ h => h) (Or.inl ⟨by rfl, ?_⟩) ?_ ?_
               rotate_left; ·intro w'; go_simp; with_reducible rfl
               rotate_left; ·simp only [Act.put, List.setIfInBounds_toArray, List.set_cons_zero, List.set_cons_succ, i64_w, i32_w]; rfl
               refine pure_ (i := 37) (N := some 109) (v := ?_) (a' := ?_) (bm_ 45 274877906943) rfl rfl (any_of HT_.out (by kernel_rfl)) (fun _ _ _ h => h) (Or.inl ⟨by rfl, ?_⟩) ?_ ?_
               rotate_left; ·intro w'; go_simp; with_reducible rfl
               rotate_left; ·simp only [Act.put, List.setIfInBounds_toArray, List.set_cons_zero, List.set_cons_succ, i64_w, i32_w]; rfl
               refine pure_ (i := 38) (N := some 110) (v := undef) (a' := ?_) (bm_ 45 549755813887) rfl rfl (any_of HT_.out (by kernel_rfl)) (fun _ _ _ h => h) (Or.inr ⟨by rfl, rfl⟩) ?_ ?_
               rotate_left; ·simp only [Act.put, List.setIfInBounds_toArray, List.set_cons_zero, List.set_cons_succ, i64_w, i32_w]; rfl
               refine pure_ (i := 39) (N := some 111) (v := undef) (a' := ?_) (bm_ 45 1099511627775) rfl rfl (any_of HT_.out (by kernel_rfl)) (fun _ _ _ h => h) (Or.inr ⟨by rfl, rfl⟩) ?_ ?_
               rotate_left; ·simp only [Act.put, List.setIfInBounds_toArray, List.set_cons_zero, List.set_cons_succ, i64_w, i32_w]; rfl
               refine pure_ (i := 40) (N := some 112) (v := undef) (a' := ?_) (bm_ 45 2199023255551) rfl rfl (any_of HT_.out (by kernel_rfl)) (fun _ _ _ h => h) (Or.inr ⟨by rfl, rfl⟩) ?_ ?_
               rotate_left; ·simp only [Act.put, List.setIfInBounds_toArray, List.set_cons_zero, List.set_cons_succ, i64_w, i32_w]; rfl
               refine pure_ (i := 41) (N := some 113) (v := undef) (a' := ?_) (bm_ 45 4398046511103) rfl rfl (any_of HT_.out (by kernel_rfl)) (fun _ _ _ h => h) (Or.inr ⟨by rfl, rfl⟩) ?_ ?_
               rotate_left; ·simp only [Act.put, List.setIfInBounds_toArray, List.set_cons_zero, List.set_cons_succ, i64_w, i32_w]; rfl
               refine pure_ (i := 42) (N := some 114) (v := undef) (a' := ?_) (bm_ 45 8796093022207) rfl rfl (any_of HT_.out (by kernel_rfl)) (fun _ _ _ h => h) (Or.inr ⟨by rfl, rfl⟩) ?_ ?_
               rotate_left; ·simp only [Act.put, List.setIfInBounds_toArray, List.set_cons_zero, List.set_cons_succ, i64_w, i32_w]; rfl
               refine pure_ (i := 43) (N := some 115) (v := undef) (a' := ?_) (bm_ 45 17592186044415) rfl rfl (any_of HT_.out (by kernel_rfl)) (fun _ _ _ h => h) (Or.inr ⟨by rfl, rfl⟩) ?_ ?_
               rotate_left; ·simp only [Act.put, List.setIfInBounds_toArray, List.set_cons_zero, List.set_cons_succ, i64_w, i32_w]; rfl
               refine pure_ (i := 44) (N := some 116) (v := ?_) (a' := ?_) (bm_ 45 35184372088831) rfl rfl (any_of HT_.out (by kernel_rfl)) (fun _ _ _ h => h) (Or.inl ⟨by rfl, ?_⟩) ?_ ?_
               rotate_left; ·intro w'; go_simp; with_reducible rfl
               rotate_left; ·simp only [Act.put, List.setIfInBounds_toArray, List.set_cons_zero, List.set_cons_succ, i64_w, i32_w]; rfl
               refine done_ (done_of HT_.out (by kernel_rfl)) ?_
               try go_wp2
               go_meet
               case rel => exact ⟨_, (true), (by first | rfl | (simp; done) | (simp [*]; done) | (simp; first | exact given_isEmpty _ | exact (given_isEmpty _).symm) | (unfold wrap64; omega) | (congr 1; unfold wrap64; omega)), H', ⟨by have := HJ5.out; have := HK2.out; have := HJ17.out; have := HK4.out; first | omega | exact Nat.le_refl _⟩, ⟨by (with_reducible repeat (first | refine blk_drewN ?_ _ | refine blk_drew ?_ | refine blk_alloc ?_ _)); exact BK282.out⟩, ⟨by (with_reducible repeat (first | refine blk_drewN ?_ _ | refine blk_drew ?_ | refine blk_alloc ?_ _)); exact BK286.out⟩, ⟨by repeat (first | (with_reducible first | exact HB.out | apply below_alloc | apply pw_below_drewN | apply below_drew1 | refine below_set ?_ GE282.out | refine below_set ?_ GE286.out) | exact HB.out)⟩⟩
             case rest =>
              clear HC43
              try clear c1
              try clear c2
              try clear p2
              try clear c4
              try clear p6
              try clear c18
              try clear c23
              try clear c47
              try clear c47b0
              try clear c47b1
              try clear p64
              obtain ⟨kq, x116_42, rfl, HA, HJ42, BK282, BK286, HB⟩ := hcut
              cases kq with
              | zero => exact absurd HA.out (by simp [florinlaw05_OperandParts.j5])
              | succ kj42 =>
               have H := HA.out
               clear HA
               simp only [florinlaw05_OperandParts.j5] at H
               by_cases c89 : x116_42 = true
               ·subst c89
                have H1 : (some false) = some r := by rw [if_pos rfl] at H; exact H
                clear H
                have H := H1
                clear H1
                obtain rfl := Option.some.inj H
                go_wp2
                go_ret
                exact ⟨by first | rfl | (simp [errW_none, errW_some] <;> rfl) | (simp [*, errW_none, errW_some] <;> first | rfl | exact given_isEmpty _ | exact (given_isEmpty _).symm), by repeat (first | (with_reducible first | exact HB.out | apply below_alloc | apply pw_below_drewN | apply below_drew1 | refine below_set ?_ GE282.out | refine below_set ?_ GE286.out) | exact HB.out)⟩
               ·replace c89 := Bool.eq_false_iff.mpr c89
                subst c89
                have H1 : ((operand_Ops_T.f kj42 t283 t284 t285).bind fun t296 => ((operand_Ops_W.f t283 t284 t285).bind fun t297 => (florinlaw05_OperandParts.l3 kj42 t296 t297 t283 t284 t285))) = some r := by rw [if_neg (show ¬ (false = true) by decide)] at H; exact H
                clear H
                have H := H1
                clear H1
                replace H := Option.bind_eq_some_iff.mp H
                obtain ⟨t296, A900, H⟩ := H
                replace H : ((operand_Ops_W.f t283 t284 t285).bind fun t297 => (florinlaw05_OperandParts.l3 kj42 t296 t297 t283 t284 t285)) = some r := H
                have A90 := Aside0.mk A900
                clear A900
                replace H := Option.bind_eq_some_iff.mp H
                obtain ⟨t297, A910, H⟩ := H
                replace H : (florinlaw05_OperandParts.l3 kj42 t296 t297 t283 t284 t285) = some r := H
                have A91 := Aside0.mk A910
                clear A910
                have H' := Aside0.mk H
                clear H
                have hnb92 := NB286_282.out
                have hnc92 := NB282_286.out
                have hcz93_0 : wc.cell? ⟨gb286, 0, none⟩ = some (.string t283) := (blk_cell BK286.out 0).trans rfl
                have hcz93_1 : wc.cell? ⟨gb286, 1, none⟩ = some (.string t284) := (blk_cell BK286.out 1).trans rfl
                have hcz93_2 : wc.cell? ⟨gb286, 2, none⟩ = some (.int .i64 t285) := (blk_cell BK286.out 2).trans rfl
                have hfz93_0 := blk_frozen BK286.out 0
                have hfz93_1 := blk_frozen BK286.out 1
                have hfz93_2 := blk_frozen BK286.out 2
                go_wp2_with (first | ((with_reducible refine gate_callee (f := 25) rfl ?_); refine goesL_ (some 118) rfl rfl Tryd.func25 (by kernel_rfl) rfl #[.agg #[.string t283, .string t284, .int .i64 t285]] rfl (by (try simp only [List.map_toArray, List.map_cons, List.map_nil]); first | done | rfl | (simp only [List.length_drop, List.length_take]; rfl) | (have z_ : ∀ s_ : ByteArray, s_.size ≤ 9223372036854775807 → -(s_.size : Int) = wrap64 (-(s_.size : Int)) := (fun s_ h_ => by unfold wrap64; omega); rw [← z_ _ (by omega)]; rfl)) ?_; (with_reducible refine (operand_Ops_T.calls kj42 t283 t284 t285 t296 _ A90.out).mono ?_); rintro e w94 ⟨rfl, hb⟩; refine ⟨_, rfl, ?_⟩; have n0_ := bb_ BK282 hb; have n1_ := bb_ BK286 hb; have n2_ := Aside0.mk (below_step (by repeat (first | (with_reducible first | exact HB.out | apply below_alloc | apply pw_below_drewN | apply below_drew1 | refine below_set ?_ GE282.out | refine below_set ?_ GE286.out) | exact HB.out)) hb); clear BK282; clear BK286; clear HB; have BK282 := n0_; have BK286 := n1_; have HB := n2_; clear n0_ n1_ n2_; (try clear hb); (try clear hb2); (try clear hk); (try clear hi); have hcz95_0 : w94.cell? ⟨gb286, 0, none⟩ = some (.string t283) := (blk_cell BK286.out 0).trans rfl; have hcz95_1 : w94.cell? ⟨gb286, 1, none⟩ = some (.string t284) := (blk_cell BK286.out 1).trans rfl; have hcz95_2 : w94.cell? ⟨gb286, 2, none⟩ = some (.int .i64 t285) := (blk_cell BK286.out 2).trans rfl; have hfz95_0 := blk_frozen BK286.out 0; have hfz95_1 := blk_frozen BK286.out 1; have hfz95_2 := blk_frozen BK286.out 2) | ((with_reducible refine gate_callee (f := 23) rfl ?_); refine goesL_ (some 120) rfl rfl Tryd.func23 (by kernel_rfl) rfl #[.agg #[.string t283, .string t284, .int .i64 t285]] rfl (by (try simp only [List.map_toArray, List.map_cons, List.map_nil]); first | done | rfl | (simp only [List.length_drop, List.length_take]; rfl) | (have z_ : ∀ s_ : ByteArray, s_.size ≤ 9223372036854775807 → -(s_.size : Int) = wrap64 (-(s_.size : Int)) := (fun s_ h_ => by unfold wrap64; omega); rw [← z_ _ (by omega)]; rfl)) ?_; (with_reducible refine (operand_Ops_W.calls t283 t284 t285 t297 _ A91.out).mono ?_); rintro e w96 ⟨rfl, hb⟩; refine ⟨_, rfl, ?_⟩; have n0_ := bb_ BK282 hb; have n1_ := bb_ BK286 hb; have n2_ := Aside0.mk (below_step (by repeat (first | (with_reducible first | exact HB.out | apply below_alloc | apply pw_below_drewN | apply below_drew1 | refine below_set ?_ GE282.out | refine below_set ?_ GE286.out) | exact HB.out)) hb); clear BK282; clear BK286; clear HB; have BK282 := n0_; have BK286 := n1_; have HB := n2_; clear n0_ n1_ n2_; (try clear hb); (try clear hb2); (try clear hk); (try clear hi)))
                go_loopg [14, 15] kj42 (fun kq v14 v15 w' => ∃ (x14_6 : ByteArray) (x15_6 : Int), v14 = .string x14_6 ∧ v15 = .int .i64 x15_6 ∧ Aside0 (florinlaw05_OperandParts.l3 kq x14_6 x15_6 t283 t284 t285 = some r) ∧ Aside0 (kq ≤ kj42) ∧ Aside0 (w'.heap[gb282]? = some (.cells #[.bool t279, .string t280, .string x283002_2] 31 (0, 0))) ∧ Aside0 (w'.heap[gb286]? = some (.cells #[.string t283, .string t284, .int .i64 t285] 24 (0, 0))) ∧ Aside0 (Below w.heap.size w w'))
                case atStart => exact ⟨(t296), (t297), (by first | rfl | (simp; done) | (simp [*]; done) | (simp; first | exact given_isEmpty _ | exact (given_isEmpty _).symm) | (unfold wrap64; omega) | (congr 1; unfold wrap64; omega)), (by first | rfl | (simp; done) | (simp [*]; done) | (simp; first | exact given_isEmpty _ | exact (given_isEmpty _).symm) | (unfold wrap64; omega) | (congr 1; unfold wrap64; omega)), H', ⟨Nat.le_refl _⟩, ⟨by (with_reducible repeat (first | refine blk_drewN ?_ _ | refine blk_drew ?_ | refine blk_alloc ?_ _)); exact BK282.out⟩, ⟨by (with_reducible repeat (first | refine blk_drewN ?_ _ | refine blk_drew ?_ | refine blk_alloc ?_ _)); exact BK286.out⟩, ⟨by repeat (first | (with_reducible first | exact HB.out | apply below_alloc | apply pw_below_drewN | apply below_drew1 | refine below_set ?_ GE282.out | refine below_set ?_ GE286.out) | exact HB.out)⟩⟩
                case round =>
                 clear H'
                 try clear c1
                 try clear c2
                 try clear p2
                 try clear c4
                 try clear p6
                 try clear c8
                 try clear c9
                 try clear c18
                 try clear c23
                 try clear c25
                 try clear c47
                 try clear c47b0
                 try clear c47b1
                 try clear p64
                 try clear c89
                 try clear c92
                 try clear hcz93_0
                 try clear hcz93_1
                 try clear hcz93_2
                 try clear hcz95_0
                 try clear hcz95_1
                 try clear hcz95_2
                 try clear hfz93_0
                 try clear hfz93_1
                 try clear hfz93_2
                 try clear hfz95_0
                 try clear hfz95_1
                 try clear hfz95_2
                 try clear p2
                 try clear p6
                 try clear p64
                 obtain ⟨x14_6, x15_6, rfl, rfl, HA, HK6, BK282, BK286, HB⟩ := hrel
                 cases gk with
                 | zero => exact absurd HA.out (by simp [florinlaw05_OperandParts.l3])
                 | succ k6 =>
                  have H := HA.out
                  clear HA
                  simp only [florinlaw05_OperandParts.l3] at H
                  replace H := Option.bind_eq_some_iff.mp H
                  obtain ⟨t298, A970, H⟩ := H
                  replace H : (if x15_6 < t298 then ((num_Times.f k6 x14_6 10).bind fun t299 => (florinlaw05_OperandParts.l3 k6 t299 (wrap64 (x15_6 + 1)) t283 t284 t285)) else ((operand_Ops_F.f k6 t283 t284 t285).bind fun t300 => (some (x14_6.toList == t300.toList)))) = some r := H
                  have A97 := Aside0.mk A970
                  clear A970
                  by_cases c98 : x15_6 < t298
                  ·rw [if_pos c98] at H
                   have c98b0 : decide (x15_6 < t298) = true := decide_eq_true c98
                   clear c98
                   replace H := Option.bind_eq_some_iff.mp H
                   obtain ⟨t299, A990, H⟩ := H
                   replace H : (florinlaw05_OperandParts.l3 k6 t299 (wrap64 (x15_6 + 1)) t283 t284 t285) = some r := H
                   have A99 := Aside0.mk A990
                   clear A990
                   have H' := Aside0.mk H
                   clear H
                   have hnb100 := NB286_282.out
                   have hnc100 := NB282_286.out
                   have hcz101_0 : wr.cell? ⟨gb286, 0, none⟩ = some (.string t283) := (blk_cell BK286.out 0).trans rfl
                   have hcz101_1 : wr.cell? ⟨gb286, 1, none⟩ = some (.string t284) := (blk_cell BK286.out 1).trans rfl
                   have hcz101_2 : wr.cell? ⟨gb286, 2, none⟩ = some (.int .i64 t285) := (blk_cell BK286.out 2).trans rfl
                   have hfz101_0 := blk_frozen BK286.out 0
                   have hfz101_1 := blk_frozen BK286.out 1
                   have hfz101_2 := blk_frozen BK286.out 2
                   go_wp2_with (first | ((with_reducible refine gate_callee (f := 18) rfl ?_); refine goesL_ (some 123) rfl rfl Tryd.func18 (by kernel_rfl) rfl #[.agg #[.string t283, .string t284, .int .i64 t285]] rfl (by (try simp only [List.map_toArray, List.map_cons, List.map_nil]); first | done | rfl | (simp only [List.length_drop, List.length_take]; rfl) | (have z_ : ∀ s_ : ByteArray, s_.size ≤ 9223372036854775807 → -(s_.size : Int) = wrap64 (-(s_.size : Int)) := (fun s_ h_ => by unfold wrap64; omega); rw [← z_ _ (by omega)]; rfl)) ?_; (with_reducible refine (operand_Ops_V.calls t283 t284 t285 t298 _ A97.out).mono ?_); rintro e w102 ⟨rfl, hb⟩; refine ⟨_, rfl, ?_⟩; have n0_ := bb_ BK282 hb; have n1_ := bb_ BK286 hb; have n2_ := Aside0.mk (below_step (by repeat (first | (with_reducible first | exact HB.out | apply below_alloc | apply pw_below_drewN | apply below_drew1 | refine below_set ?_ GE282.out | refine below_set ?_ GE286.out) | exact HB.out)) hb); clear BK282; clear BK286; clear HB; have BK282 := n0_; have BK286 := n1_; have HB := n2_; clear n0_ n1_ n2_; (try clear hb); (try clear hb2); (try clear hk); (try clear hi)) | ((with_reducible refine gate_callee (f := 27) rfl ?_); refine goesL_ (some 128) rfl rfl Tryd.func27 (by kernel_rfl) rfl #[.string x14_6, .int .i64 10] rfl (by (try simp only [List.map_toArray, List.map_cons, List.map_nil]); first | done | rfl | (simp only [List.length_drop, List.length_take]; rfl) | (have z_ : ∀ s_ : ByteArray, s_.size ≤ 9223372036854775807 → -(s_.size : Int) = wrap64 (-(s_.size : Int)) := (fun s_ h_ => by unfold wrap64; omega); rw [← z_ _ (by omega)]; rfl)) ?_; (with_reducible refine (num_Times.calls k6 x14_6 10 t299 _ A99.out).mono ?_); rintro e w103 ⟨rfl, hb⟩; refine ⟨_, rfl, ?_⟩; have n0_ := bb_ BK282 hb; have n1_ := bb_ BK286 hb; have n2_ := Aside0.mk (below_step (by repeat (first | (with_reducible first | exact HB.out | apply below_alloc | apply pw_below_drewN | apply below_drew1 | refine below_set ?_ GE282.out | refine below_set ?_ GE286.out) | exact HB.out)) hb); clear BK282; clear BK286; clear HB; have BK282 := n0_; have BK286 := n1_; have HB := n2_; clear n0_ n1_ n2_; (try clear hb); (try clear hb2); (try clear hk); (try clear hi)))
                   go_roundg k6
                   case measure => have := HJ5.out; have := HK2.out; have := HJ17.out; have := HK4.out; have := HJ42.out; have := HK6.out; omega
                   case rel => exact ⟨(t299), (wrap64 (x15_6 + 1)), (by first | rfl | (simp; done) | (simp [*]; done) | (simp; first | exact given_isEmpty _ | exact (given_isEmpty _).symm) | (unfold wrap64; omega) | (congr 1; unfold wrap64; omega)), (by first | rfl | (simp; done) | (simp [*]; done) | (simp; first | exact given_isEmpty _ | exact (given_isEmpty _).symm) | (unfold wrap64; omega) | (congr 1; unfold wrap64; omega)), H', ⟨by have := HJ5.out; have := HK2.out; have := HJ17.out; have := HK4.out; have := HJ42.out; have := HK6.out; omega⟩, ⟨by (with_reducible repeat (first | refine blk_drewN ?_ _ | refine blk_drew ?_ | refine blk_alloc ?_ _)); exact BK282.out⟩, ⟨by (with_reducible repeat (first | refine blk_drewN ?_ _ | refine blk_drew ?_ | refine blk_alloc ?_ _)); exact BK286.out⟩, ⟨by repeat (first | (with_reducible first | exact HB.out | apply below_alloc | apply pw_below_drewN | apply below_drew1 | refine below_set ?_ GE282.out | refine below_set ?_ GE286.out) | exact HB.out)⟩⟩
                  ·rw [if_neg c98] at H
                   have c98b0 : decide (x15_6 < t298) = false := decide_eq_false c98
                   clear c98
                   replace H := Option.bind_eq_some_iff.mp H
                   obtain ⟨t300, A1040, H⟩ := H
                   replace H : (some (x14_6.toList == t300.toList)) = some r := H
                   have A104 := Aside0.mk A1040
                   clear A1040
                   obtain rfl := Option.some.inj H
                   have hnb105 := NB286_282.out
                   have hnc105 := NB282_286.out
                   have hcz106_0 : wr.cell? ⟨gb286, 0, none⟩ = some (.string t283) := (blk_cell BK286.out 0).trans rfl
                   have hcz106_1 : wr.cell? ⟨gb286, 1, none⟩ = some (.string t284) := (blk_cell BK286.out 1).trans rfl
                   have hcz106_2 : wr.cell? ⟨gb286, 2, none⟩ = some (.int .i64 t285) := (blk_cell BK286.out 2).trans rfl
                   have hfz106_0 := blk_frozen BK286.out 0
                   have hfz106_1 := blk_frozen BK286.out 1
                   have hfz106_2 := blk_frozen BK286.out 2
                   go_wp2_with (first | ((with_reducible refine gate_callee (f := 18) rfl ?_); refine goesL_ (some 123) rfl rfl Tryd.func18 (by kernel_rfl) rfl #[.agg #[.string t283, .string t284, .int .i64 t285]] rfl (by (try simp only [List.map_toArray, List.map_cons, List.map_nil]); first | done | rfl | (simp only [List.length_drop, List.length_take]; rfl) | (have z_ : ∀ s_ : ByteArray, s_.size ≤ 9223372036854775807 → -(s_.size : Int) = wrap64 (-(s_.size : Int)) := (fun s_ h_ => by unfold wrap64; omega); rw [← z_ _ (by omega)]; rfl)) ?_; (with_reducible refine (operand_Ops_V.calls t283 t284 t285 t298 _ A97.out).mono ?_); rintro e w107 ⟨rfl, hb⟩; refine ⟨_, rfl, ?_⟩; have n0_ := bb_ BK282 hb; have n1_ := bb_ BK286 hb; have n2_ := Aside0.mk (below_step (by repeat (first | (with_reducible first | exact HB.out | apply below_alloc | apply pw_below_drewN | apply below_drew1 | refine below_set ?_ GE282.out | refine below_set ?_ GE286.out) | exact HB.out)) hb); clear BK282; clear BK286; clear HB; have BK282 := n0_; have BK286 := n1_; have HB := n2_; clear n0_ n1_ n2_; (try clear hb); (try clear hb2); (try clear hk); (try clear hi); have hcz108_0 : w107.cell? ⟨gb286, 0, none⟩ = some (.string t283) := (blk_cell BK286.out 0).trans rfl; have hcz108_1 : w107.cell? ⟨gb286, 1, none⟩ = some (.string t284) := (blk_cell BK286.out 1).trans rfl; have hcz108_2 : w107.cell? ⟨gb286, 2, none⟩ = some (.int .i64 t285) := (blk_cell BK286.out 2).trans rfl; have hfz108_0 := blk_frozen BK286.out 0; have hfz108_1 := blk_frozen BK286.out 1; have hfz108_2 := blk_frozen BK286.out 2) | ((with_reducible refine gate_callee (f := 24) rfl ?_); refine goesL_ (some 131) rfl rfl Tryd.func24 (by kernel_rfl) rfl #[.agg #[.string t283, .string t284, .int .i64 t285]] rfl (by (try simp only [List.map_toArray, List.map_cons, List.map_nil]); first | done | rfl | (simp only [List.length_drop, List.length_take]; rfl) | (have z_ : ∀ s_ : ByteArray, s_.size ≤ 9223372036854775807 → -(s_.size : Int) = wrap64 (-(s_.size : Int)) := (fun s_ h_ => by unfold wrap64; omega); rw [← z_ _ (by omega)]; rfl)) ?_; (with_reducible refine (operand_Ops_F.calls k6 t283 t284 t285 t300 _ A104.out).mono ?_); rintro e w109 ⟨rfl, hb⟩; refine ⟨_, rfl, ?_⟩; have n0_ := bb_ BK282 hb; have n1_ := bb_ BK286 hb; have n2_ := Aside0.mk (below_step (by repeat (first | (with_reducible first | exact HB.out | apply below_alloc | apply pw_below_drewN | apply below_drew1 | refine below_set ?_ GE282.out | refine below_set ?_ GE286.out) | exact HB.out)) hb); clear BK282; clear BK286; clear HB; have BK282 := n0_; have BK286 := n1_; have HB := n2_; clear n0_ n1_ n2_; (try clear hb); (try clear hb2); (try clear hk); (try clear hi)))
                   go_ret
                   exact ⟨by first | rfl | (simp [errW_none, errW_some] <;> rfl) | (simp [*, errW_none, errW_some] <;> first | rfl | exact given_isEmpty _ | exact (given_isEmpty _).symm), by repeat (first | (with_reducible first | exact HB.out | apply below_alloc | apply pw_below_drewN | apply below_drew1 | refine below_set ?_ GE282.out | refine below_set ?_ GE286.out) | exact HB.out)⟩
 ·replace c5 := Bool.eq_false_iff.mpr c5
  subst c5
  have H1 : (some false) = some r := by rw [if_neg (show ¬ (false = true) by decide)] at H; exact H
  clear H
  have H := H1
  clear H1
  obtain rfl := Option.some.inj H
  go_enter Tryd.func7, Tryd.ntmps7
  go_wp2_with (first | ((with_reducible refine gate_callee (f := 8) rfl ?_); refine goesL_ (some 16) rfl rfl Tryd.func8 (by kernel_rfl) rfl #[] rfl (by (try simp only [List.map_toArray, List.map_cons, List.map_nil]); first | done | rfl | (simp only [List.length_drop, List.length_take]; rfl) | (have z_ : ∀ s_ : ByteArray, s_.size ≤ 9223372036854775807 → -(s_.size : Int) = wrap64 (-(s_.size : Int)) := (fun s_ h_ => by unfold wrap64; omega); rw [← z_ _ (by omega)]; rfl)) ?_; (with_reducible refine (florinlaw05_head.calls k  false _ A4.out).mono ?_); rintro e w110 ⟨rfl, hb⟩; refine ⟨_, rfl, ?_⟩; have n0_ := Aside0.mk (below_step (by repeat (first | (with_reducible first | exact HB.out | apply below_alloc | apply pw_below_drewN | apply below_drew1) | exact HB.out)) hb); clear HB; have HB := n0_; clear n0_; (try clear hb); (try clear hb2); (try clear hk); (try clear hi)))
  go_ret
  exact ⟨by first | rfl | (simp [errW_none, errW_some] <;> rfl) | (simp [*, errW_none, errW_some] <;> first | rfl | exact given_isEmpty _ | exact (given_isEmpty _).symm), by repeat (first | (with_reducible first | exact HB.out | apply below_alloc | apply pw_below_drewN | apply below_drew1) | exact HB.out)⟩

/-- THE ONE PURE STATEMENT of florinlaw05_OperandParts: yours. -/
def florinlaw05_OperandParts.Pure : Prop := ∀ (l0 : List Int) (l1 : List Int) (a2 : Int), l0.length ≤ maxLen → l0.length * 1 ≤ 140737488351232 → (∀ x ∈ l0, (Lit.int .u8 x).wf = true) → l1.length ≤ maxLen → l1.length * 1 ≤ 140737488351232 → (∀ x ∈ l1, (Lit.int .u8 x).wf = true) → (Lit.int .i64 a2).wf = true → ∃ k, florinlaw05_OperandParts.f k l0 l1 a2 = some true
theorem florinlaw05_OperandParts.walk (P : florinlaw05_OperandParts.Pure) (a0 : Option Addr) (len0 cap0 : Nat) (z0 : List Int) (a1 : Option Addr) (len1 cap1 : Nat) (z1 : List Int) (a2 : Int) (w : World) (w0 : (a0 = none ∧ len0 = 0 ∧ cap0 = 0 ∧ z0 = []) ∨ ∃ x, a0 = some x ∧ len0 ≤ cap0 ∧ cap0 ≤ maxLen ∧ z0.length = cap0 ∧ (∀ i, i < z0.length → w.cell? (x.add i) = some (.int .u8 (z0.getD i 0))) ∧ ∀ n ∈ z0, (Lit.int .u8 n).wf = true) (y0 : len0 * 1 ≤ 140737488351232) (w1 : (a1 = none ∧ len1 = 0 ∧ cap1 = 0 ∧ z1 = []) ∨ ∃ x, a1 = some x ∧ len1 ≤ cap1 ∧ cap1 ≤ maxLen ∧ z1.length = cap1 ∧ (∀ i, i < z1.length → w.cell? (x.add i) = some (.int .u8 (z1.getD i 0))) ∧ ∀ n ∈ z1, (Lit.int .u8 n).wf = true) (y1 : len1 * 1 ≤ 140737488351232) (w2 : (Lit.int .i64 a2).wf = true) :
  Calls Tryd.prog 7 #[.slice a0 len0 cap0, .slice a1 len1 cap1, .int .i64 a2] w fun e w' => e = .returned (.bool true) ∧ Below w.heap.size w w' := by
 obtain ⟨l0, rfl, hr0, hm0, hw0, hc0⟩ := ReadsInt.ofRowC w0
 obtain ⟨l1, rfl, hr1, hm1, hw1, hc1⟩ := ReadsInt.ofRowC w1
 obtain ⟨k, h⟩ := P l0 l1 a2 hm0 y0 hw0 hm1 y1 hw1 w2
 refine (florinlaw05_OperandParts.calls k _ _ l0 _ _ l1 a2 true w (Kd.C_of_reads (d := (0 : Int)) (h1 := fun _ => rfl) hr0) hc0 (Kd.C_of_reads (d := (0 : Int)) (h1 := fun _ => rfl) hr1) hc1 h).mono ?_
 rintro e w' ⟨rfl, hd⟩
 exact ⟨rfl, hd⟩

end Go.Proofs.YtaifmgdhdnmjiaaDoor.P
