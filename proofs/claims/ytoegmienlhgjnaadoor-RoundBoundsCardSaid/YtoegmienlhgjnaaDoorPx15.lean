-- written by a program of this session (wip/p2)
import Derived.Test.YtoegmienlhgjnaaDoorPx0
import Derived.Test.YtoegmienlhgjnaaDoorPx1
import Derived.Test.YtoegmienlhgjnaaDoorPx2
import Derived.Test.YtoegmienlhgjnaaDoorPx4
import Derived.Test.YtoegmienlhgjnaaDoorPx5
import Derived.Test.YtoegmienlhgjnaaDoorPx7
import Derived.Test.YtoegmienlhgjnaaDoorPx13
import Derived.Test.YtoegmienlhgjnaaDoorPx14
namespace Go.Proofs.YtoegmienlhgjnaaDoor.P
open Go.RowKit Go.Proofs.YtoegmienlhgjnaaDoorW.PrintWords Go.Proofs.YtoegmienlhgjnaaDoorW.PrintLast Go.Proofs.YtoegmienlhgjnaaDoorW.PrintMore
attribute [local go_sem] max2_int min2_int max_two min_two max_three min_three max_four min_four   -- for this text's walks alone
set_option linter.unusedVariables false
set_option linter.unusedSimpArgs false

attribute [local go_sem high] eqA30
/-! ### florinlaw03_RoundBounds: function 5 -/
def florinlaw03_RoundBounds.j0 : Nat → Int → Int → Bool → Bool → ByteArray → Int → Bool → ByteArray → Int → Bool → ByteArray → Int → Option (Bool)
 | 0, _, _, _, _, _, _, _, _, _, _, _, _ => none
 | k + 1, x2, x9, x31, x424000, x424001, x424002, x428000, x428001, x428002, x432000, x432001, x432002 => if x31 = true then (some false) else ((round_Mode_Valid.f x9).bind fun t433 => (if t433 = true then ((round_At.f k x424000 x424001 x424002 x2 x9).bind fun bt443 => ((round_At.f k x424000 x424001 x424002 (mn (mx x2 (-30000)) 30000) x9).bind fun bt446 => (if (bt443.1 == bt446.1 && (bt443.2.1.toList == bt446.2.1.toList && (bt443.2.2 == bt446.2.2))) = true then ((round_Step.f k x424000 x424001 x424002 false (⟨#[]⟩ : ByteArray) 0 x9).bind fun bt449 => (if (bt449.1 == x428000 && (bt449.2.1.toList == x428001.toList && (bt449.2.2 == x428002))) = true then ((dec_Dec_Minus.f k x432000 x432001 x432002).bind fun bt452 => ((round_Step.f k x424000 x424001 x424002 bt452.1 bt452.2.1 bt452.2.2 x9).bind fun bt455 => (if (bt455.1 == x428000 && (bt455.2.1.toList == x428001.toList && (bt455.2.2 == x428002))) = true then ((dec_Made.f k false (⟨#[49, 48, 48, 48, 48, 48, 48, 48, 48, 49]⟩ : ByteArray) 0).bind fun bt458 => ((round_Step.f k x424000 x424001 x424002 bt458.1 bt458.2.1 bt458.2.2 x9).bind fun bt461 => (if (bt461.1 == x428000 && (bt461.2.1.toList == x428001.toList && (bt461.2.2 == x428002))) = true then ((round_Step.f k x424000 x424001 x424002 x432000 x432001 x432002 x9).bind fun bt464 => ((round_At.f k x424000 x424001 x424002 0 x9).bind fun bt467 => (if (bt464.1 == bt467.1 && (bt464.2.1.toList == bt467.2.1.toList && (bt464.2.2 == bt467.2.2))) = true then ((round_At.f k x424000 x424001 x424002 (-50) x9).bind fun bt470 => (some (bt470.1 == x428000 && (bt470.2.1.toList == x428001.toList && (bt470.2.2 == x428002))))) else (some false)))) else (some false)))) else (some false)))) else (some false))) else (some false)))) else ((round_At.f k x424000 x424001 x424002 x2 x9).bind fun bt434 => (if (bt434.1 == x428000 && (bt434.2.1.toList == x428001.toList && (bt434.2.2 == x428002))) = true then ((round_Sig.f k x424000 x424001 x424002 x2 x9).bind fun bt437 => (if (bt437.1 == x428000 && (bt437.2.1.toList == x428001.toList && (bt437.2.2 == x428002))) = true then ((round_Step.f k x424000 x424001 x424002 x432000 x432001 x432002 x9).bind fun bt440 => (some (bt440.1 == x428000 && (bt440.2.1.toList == x428001.toList && (bt440.2.2 == x428002))))) else (some false))) else (some false)))))
def florinlaw03_RoundBounds.f (k : Nat) (a0_0 : Bool) (l0_1 : List Int) (a0_2 : Int) (a1 : Int) (a2 : Int) : Option (Bool) := (florinlaw03_head.f k).bind fun t418 => (if t418 = true then ((florinlaw02_Raw_Few.f a0_0 l0_1 a0_2 40).bind fun t419 => (if t419 = true then ((florinlaw02_Raw_Make.f k a0_0 l0_1 a0_2).bind fun bt420 => ((dec_Dec_Norm.f k bt420.1 bt420.2.1 bt420.2.2).bind fun bt424 => ((dec_Made.f k false (⟨#[49]⟩ : ByteArray) 0).bind fun bt428 => ((round_Mode_Valid.f a1).bind fun t432 => (if a1 ≥ 0 then (florinlaw03_RoundBounds.j0 k a2 a1 (t432 != (decide (a1 ≤ 6))) bt420.1 bt420.2.1 bt420.2.2 bt424.1 bt424.2.1 bt424.2.2 bt428.1 bt428.2.1 bt428.2.2) else (florinlaw03_RoundBounds.j0 k a2 a1 (t432 != false) bt420.1 bt420.2.1 bt420.2.2 bt424.1 bt424.2.1 bt424.2.2 bt428.1 bt428.2.1 bt428.2.2)))))) else (some true))) else (some false))
theorem florinlaw03_RoundBounds.mono_l : ∀ k, (∀ y0 y1 y2 y3 y4 y5 y6 y7 y8 y9 y10 y11, LeO (florinlaw03_RoundBounds.j0 k y0 y1 y2 y3 y4 y5 y6 y7 y8 y9 y10 y11) (florinlaw03_RoundBounds.j0 (k + 1) y0 y1 y2 y3 y4 y5 y6 y7 y8 y9 y10 y11))
 | 0 => fun _ _ _ _ _ _ _ _ _ _ _ _ r h => by simp [florinlaw03_RoundBounds.j0] at h
 | k + 1 => by
  have ih0 := florinlaw03_RoundBounds.mono_l k
  ·intro y0 y1 y2 y3 y4 y5 y6 y7 y8 y9 y10 y11
   unfold florinlaw03_RoundBounds.j0
   repeat' first
   | (with_reducible exact ih0 _ _ _ _ _ _ _ _ _ _ _ _)
   | (with_reducible exact dec_Dec_Minus.mono _ _ _ _)
   | (with_reducible exact dec_Dec_Norm.mono _ _ _ _)
   | (with_reducible exact dec_Made.mono _ _ _ _)
   | (with_reducible exact florinlaw02_Raw_Make.mono _ _ _ _)
   | (with_reducible exact florinlaw03_head.mono _)
   | (with_reducible exact round_At.mono _ _ _ _ _ _)
   | (with_reducible exact round_Sig.mono _ _ _ _ _ _)
   | (with_reducible exact round_Step.mono _ _ _ _ _ _ _ _)
   | (with_reducible exact LeO.refl _)
   | (with_reducible exact LeO.none _)
   | (with_reducible refine LeO.ite ?_ ?_)
   | (with_reducible refine LeO.bind ?_ (fun _ => ?_))
   | exact ih0 _ _ _ _ _ _ _ _ _ _ _ _
   | exact dec_Dec_Minus.mono _ _ _ _
   | exact dec_Dec_Norm.mono _ _ _ _
   | exact dec_Made.mono _ _ _ _
   | exact florinlaw02_Raw_Make.mono _ _ _ _
   | exact florinlaw03_head.mono _
   | exact round_At.mono _ _ _ _ _ _
   | exact round_Sig.mono _ _ _ _ _ _
   | exact round_Step.mono _ _ _ _ _ _ _ _
   | exact LeO.none _
   | refine LeO.ite ?_ ?_
   | refine LeO.bind ?_ (fun _ => ?_)
theorem florinlaw03_RoundBounds.mono : ∀ a0 a1 a2 a3 a4 k, LeO (florinlaw03_RoundBounds.f k a0 a1 a2 a3 a4) (florinlaw03_RoundBounds.f (k + 1) a0 a1 a2 a3 a4) := by
 intro a0 a1 a2 a3 a4 k
 have ih0 := florinlaw03_RoundBounds.mono_l k
 unfold florinlaw03_RoundBounds.f
 repeat' first
   | (with_reducible exact ih0 _ _ _ _ _ _ _ _ _ _ _ _)
   | (with_reducible exact dec_Dec_Minus.mono _ _ _ _)
   | (with_reducible exact dec_Dec_Norm.mono _ _ _ _)
   | (with_reducible exact dec_Made.mono _ _ _ _)
   | (with_reducible exact florinlaw02_Raw_Make.mono _ _ _ _)
   | (with_reducible exact florinlaw03_head.mono _)
   | (with_reducible exact round_At.mono _ _ _ _ _ _)
   | (with_reducible exact round_Sig.mono _ _ _ _ _ _)
   | (with_reducible exact round_Step.mono _ _ _ _ _ _ _ _)
   | (with_reducible exact LeO.refl _)
   | (with_reducible exact LeO.none _)
   | (with_reducible refine LeO.ite ?_ ?_)
   | (with_reducible refine LeO.bind ?_ (fun _ => ?_))
   | exact ih0 _ _ _ _ _ _ _ _ _ _ _ _
   | exact dec_Dec_Minus.mono _ _ _ _
   | exact dec_Dec_Norm.mono _ _ _ _
   | exact dec_Made.mono _ _ _ _
   | exact florinlaw02_Raw_Make.mono _ _ _ _
   | exact florinlaw03_head.mono _
   | exact round_At.mono _ _ _ _ _ _
   | exact round_Sig.mono _ _ _ _ _ _
   | exact round_Step.mono _ _ _ _ _ _ _ _
   | exact LeO.none _
   | refine LeO.ite ?_ ?_
   | refine LeO.bind ?_ (fun _ => ?_)
def florinlaw03_RoundBounds.T12 : Bool × List (List Nat × List Nat) := (true, [([], []), ([], []), ([], []), ([0, 1, 2], [0, 1, 2]), ([], []), ([3, 4], [3, 4]), ([5, 3], [5]), ([6], [6]), ([6], [6]), ([6], [6]), ([7, 8, 9, 6, 6], [6, 7, 8, 9]), ([6], [6]), ([10, 11, 6], [6, 10, 11]), ([6, 12], [6, 12]), ([13, 10], [13]), ([14], [14]), ([14], [14]), ([14], [14]), ([15, 16, 17, 14, 14], [14, 15, 16, 17]), ([14], [14]), ([18, 19, 14], [14, 18, 19]), ([14, 20], [14, 20]), ([21, 18, 0, 1, 2, 3, 4, 5, 6, 7, 8, 9, 10, 11, 12, 13, 14, 15, 16, 17, 18, 19, 20, 21], [21])])
def florinlaw03_RoundBounds.B12 : List Nat := [0, 0, 0, 7, 0, 31, 63, 127, 127, 127, 1023, 127, 4095, 8191, 16383, 32767, 32767, 32767, 262143, 32767, 1048575, 2097151, 4194303]
theorem florinlaw03_RoundBounds.tab12 : rtab .any (opsOf Tryd.f5 12) = florinlaw03_RoundBounds.T12 := by kernel_rfl
theorem florinlaw03_RoundBounds.bits12 : waitsOk florinlaw03_RoundBounds.T12.2 florinlaw03_RoundBounds.B12 = true := by kernel_rfl
def florinlaw03_RoundBounds.T14 : Bool × List (List Nat × List Nat) := (true, [([], []), ([], []), ([], []), ([0, 1, 2], [0, 1, 2]), ([], []), ([], []), ([], []), ([4, 5, 6, 3], [4, 5, 6]), ([3, 7], [3, 7]), ([8, 7], [8]), ([9], [9]), ([9], [9]), ([9], [9]), ([10, 11, 12, 9, 9], [9, 10, 11, 12]), ([9], [9]), ([13, 14, 9], [9, 13, 14]), ([9, 15], [9, 15]), ([16, 13], [16]), ([17], [17]), ([17], [17]), ([19, 17, 17], [17, 19]), ([17], [17]), ([18, 20, 21, 20, 17], [17, 18, 20, 21]), ([17], [17]), ([22, 23, 17], [17, 22, 23]), ([17, 24], [17, 24]), ([25, 22], [25]), ([26], [26]), ([26, 26], [26]), ([26], [26]), ([27, 28, 29, 28, 26], [26, 27, 28, 29]), ([26], [26]), ([30, 31, 26], [26, 30, 31]), ([26, 32], [26, 32]), ([33, 30], [33]), ([34], [34]), ([34], [34]), ([34], [34]), ([35, 36, 37, 34, 34], [34, 35, 36, 37]), ([34], [34]), ([34], [34]), ([39, 40, 38, 34], [34, 39, 40]), ([38, 41, 34], [34, 38, 41]), ([34, 42], [34, 42]), ([43, 41], [43]), ([44], [44]), ([44], [44]), ([45, 46, 44, 44], [44, 45, 46]), ([44], [44]), ([47, 48, 44], [44, 47, 48]), ([44, 49], [44, 49]), ([50, 47, 0, 1, 2, 3, 4, 5, 6, 7, 8, 9, 10, 11, 12, 13, 14, 15, 16, 17, 18, 19, 20, 21, 22, 23, 24, 25, 26, 27, 28, 29, 30, 31, 32, 33, 34, 35, 36, 37, 38, 39, 40, 41, 42, 43, 44, 45, 46, 47, 48, 49, 50], [50])])
def florinlaw03_RoundBounds.B14 : List Nat := [0, 0, 0, 7, 0, 0, 0, 127, 255, 511, 1023, 1023, 1023, 8191, 1023, 32767, 65535, 131071, 262143, 262143, 786431, 262143, 4194303, 262143, 16777215, 33554431, 67108863, 134217727, 134217727, 134217727, 1073741823, 134217727, 4294967295, 8589934591, 17179869183, 34359738367, 34359738367, 34359738367, 274877906943, 34359738367, 34359738367, 2199023255551, 4398046511103, 8796093022207, 17592186044415, 35184372088831, 35184372088831, 140737488355327, 35184372088831, 562949953421311, 1125899906842623, 2251799813685247]
theorem florinlaw03_RoundBounds.tab14 : rtab .any (opsOf Tryd.f5 14) = florinlaw03_RoundBounds.T14 := by kernel_rfl
theorem florinlaw03_RoundBounds.bits14 : waitsOk florinlaw03_RoundBounds.T14.2 florinlaw03_RoundBounds.B14 = true := by kernel_rfl
set_option maxHeartbeats 8000000 in
set_option maxRecDepth 100000 in
theorem florinlaw03_RoundBounds.calls (k : Nat) (a0_0 : Bool) (A0_1 : Option Addr) (c0_1 : Nat) (l0_1 : List Int) (a0_2 : Int) (a1 : Int) (a2 : Int) (r : Bool) (w : World) (hr0_1 : Kd.C (Kd.int .u8) w A0_1 l0_1.length l0_1) (hc0_1 : l0_1.length ≤ c0_1) (h : florinlaw03_RoundBounds.f k a0_0 l0_1 a0_2 a1 a2 = some r) :
  Calls Tryd.prog 5 #[.agg #[.bool a0_0, .slice A0_1 l0_1.length c0_1, .int .i64 a0_2], .int .i64 a1, .int .i64 a2] w fun e w' => e = .returned (.bool r) ∧ Below w.heap.size w w' := by
 have hu24 := Tryd.underlying24
 have hu30 := Tryd.underlying30
 have HR0_1 := Aside0.mk hr0_1
 have HC0_1 := Aside0.mk hc0_1
 clear hr0_1 hc0_1
 have HB := Aside0.mk (Below.refl w.heap.size w)
 have H : ((florinlaw03_head.f k).bind fun t418 => (if t418 = true then ((florinlaw02_Raw_Few.f a0_0 l0_1 a0_2 40).bind fun t419 => (if t419 = true then ((florinlaw02_Raw_Make.f k a0_0 l0_1 a0_2).bind fun bt420 => ((dec_Dec_Norm.f k bt420.1 bt420.2.1 bt420.2.2).bind fun bt424 => ((dec_Made.f k false (⟨#[49]⟩ : ByteArray) 0).bind fun bt428 => ((round_Mode_Valid.f a1).bind fun t432 => (if a1 ≥ 0 then (florinlaw03_RoundBounds.j0 k a2 a1 (t432 != (decide (a1 ≤ 6))) bt420.1 bt420.2.1 bt420.2.2 bt424.1 bt424.2.1 bt424.2.2 bt428.1 bt428.2.1 bt428.2.2) else (florinlaw03_RoundBounds.j0 k a2 a1 (t432 != false) bt420.1 bt420.2.1 bt420.2.2 bt424.1 bt424.2.1 bt424.2.2 bt428.1 bt428.2.1 bt428.2.2)))))) else (some true))) else (some false))) = some r := h
 clear h
 replace H := Option.bind_eq_some_iff.mp H
 obtain ⟨t418, A40, H⟩ := H
 replace H : (if t418 = true then ((florinlaw02_Raw_Few.f a0_0 l0_1 a0_2 40).bind fun t419 => (if t419 = true then ((florinlaw02_Raw_Make.f k a0_0 l0_1 a0_2).bind fun bt420 => ((dec_Dec_Norm.f k bt420.1 bt420.2.1 bt420.2.2).bind fun bt424 => ((dec_Made.f k false (⟨#[49]⟩ : ByteArray) 0).bind fun bt428 => ((round_Mode_Valid.f a1).bind fun t432 => (if a1 ≥ 0 then (florinlaw03_RoundBounds.j0 k a2 a1 (t432 != (decide (a1 ≤ 6))) bt420.1 bt420.2.1 bt420.2.2 bt424.1 bt424.2.1 bt424.2.2 bt428.1 bt428.2.1 bt428.2.2) else (florinlaw03_RoundBounds.j0 k a2 a1 (t432 != false) bt420.1 bt420.2.1 bt420.2.2 bt424.1 bt424.2.1 bt424.2.2 bt428.1 bt428.2.1 bt428.2.2)))))) else (some true))) else (some false)) = some r := H
 have A4 := Aside0.mk A40
 clear A40
 by_cases c5 : t418 = true
 ·subst c5
  have H1 : ((florinlaw02_Raw_Few.f a0_0 l0_1 a0_2 40).bind fun t419 => (if t419 = true then ((florinlaw02_Raw_Make.f k a0_0 l0_1 a0_2).bind fun bt420 => ((dec_Dec_Norm.f k bt420.1 bt420.2.1 bt420.2.2).bind fun bt424 => ((dec_Made.f k false (⟨#[49]⟩ : ByteArray) 0).bind fun bt428 => ((round_Mode_Valid.f a1).bind fun t432 => (if a1 ≥ 0 then (florinlaw03_RoundBounds.j0 k a2 a1 (t432 != (decide (a1 ≤ 6))) bt420.1 bt420.2.1 bt420.2.2 bt424.1 bt424.2.1 bt424.2.2 bt428.1 bt428.2.1 bt428.2.2) else (florinlaw03_RoundBounds.j0 k a2 a1 (t432 != false) bt420.1 bt420.2.1 bt420.2.2 bt424.1 bt424.2.1 bt424.2.2 bt428.1 bt428.2.1 bt428.2.2)))))) else (some true))) = some r := by rw [if_pos rfl] at H; exact H
  clear H
  have H := H1
  clear H1
  replace H := Option.bind_eq_some_iff.mp H
  obtain ⟨t419, A60, H⟩ := H
  replace H : (if t419 = true then ((florinlaw02_Raw_Make.f k a0_0 l0_1 a0_2).bind fun bt420 => ((dec_Dec_Norm.f k bt420.1 bt420.2.1 bt420.2.2).bind fun bt424 => ((dec_Made.f k false (⟨#[49]⟩ : ByteArray) 0).bind fun bt428 => ((round_Mode_Valid.f a1).bind fun t432 => (if a1 ≥ 0 then (florinlaw03_RoundBounds.j0 k a2 a1 (t432 != (decide (a1 ≤ 6))) bt420.1 bt420.2.1 bt420.2.2 bt424.1 bt424.2.1 bt424.2.2 bt428.1 bt428.2.1 bt428.2.2) else (florinlaw03_RoundBounds.j0 k a2 a1 (t432 != false) bt420.1 bt420.2.1 bt420.2.2 bt424.1 bt424.2.1 bt424.2.2 bt428.1 bt428.2.1 bt428.2.2)))))) else (some true)) = some r := H
  have A6 := Aside0.mk A60
  clear A60
  by_cases c7 : t419 = true
  ·subst c7
   have H1 : ((florinlaw02_Raw_Make.f k a0_0 l0_1 a0_2).bind fun bt420 => ((dec_Dec_Norm.f k bt420.1 bt420.2.1 bt420.2.2).bind fun bt424 => ((dec_Made.f k false (⟨#[49]⟩ : ByteArray) 0).bind fun bt428 => ((round_Mode_Valid.f a1).bind fun t432 => (if a1 ≥ 0 then (florinlaw03_RoundBounds.j0 k a2 a1 (t432 != (decide (a1 ≤ 6))) bt420.1 bt420.2.1 bt420.2.2 bt424.1 bt424.2.1 bt424.2.2 bt428.1 bt428.2.1 bt428.2.2) else (florinlaw03_RoundBounds.j0 k a2 a1 (t432 != false) bt420.1 bt420.2.1 bt420.2.2 bt424.1 bt424.2.1 bt424.2.2 bt428.1 bt428.2.1 bt428.2.2)))))) = some r := by rw [if_pos rfl] at H; exact H
   clear H
   have H := H1
   clear H1
   replace H := Option.bind_eq_some_iff.mp H
   obtain ⟨⟨t420, t421, t422⟩, A80, H⟩ := H
   replace H : ((dec_Dec_Norm.f k t420 t421 t422).bind fun bt424 => ((dec_Made.f k false (⟨#[49]⟩ : ByteArray) 0).bind fun bt428 => ((round_Mode_Valid.f a1).bind fun t432 => (if a1 ≥ 0 then (florinlaw03_RoundBounds.j0 k a2 a1 (t432 != (decide (a1 ≤ 6))) t420 t421 t422 bt424.1 bt424.2.1 bt424.2.2 bt428.1 bt428.2.1 bt428.2.2) else (florinlaw03_RoundBounds.j0 k a2 a1 (t432 != false) t420 t421 t422 bt424.1 bt424.2.1 bt424.2.2 bt428.1 bt428.2.1 bt428.2.2))))) = some r := H
   have A8 := Aside0.mk A80
   clear A80
   replace H := Option.bind_eq_some_iff.mp H
   obtain ⟨⟨t424, t425, t426⟩, A90, H⟩ := H
   replace H : ((dec_Made.f k false (⟨#[49]⟩ : ByteArray) 0).bind fun bt428 => ((round_Mode_Valid.f a1).bind fun t432 => (if a1 ≥ 0 then (florinlaw03_RoundBounds.j0 k a2 a1 (t432 != (decide (a1 ≤ 6))) t420 t421 t422 t424 t425 t426 bt428.1 bt428.2.1 bt428.2.2) else (florinlaw03_RoundBounds.j0 k a2 a1 (t432 != false) t420 t421 t422 t424 t425 t426 bt428.1 bt428.2.1 bt428.2.2)))) = some r := H
   have A9 := Aside0.mk A90
   clear A90
   replace H := Option.bind_eq_some_iff.mp H
   obtain ⟨⟨t428, t429, t430⟩, A100, H⟩ := H
   replace H : ((round_Mode_Valid.f a1).bind fun t432 => (if a1 ≥ 0 then (florinlaw03_RoundBounds.j0 k a2 a1 (t432 != (decide (a1 ≤ 6))) t420 t421 t422 t424 t425 t426 t428 t429 t430) else (florinlaw03_RoundBounds.j0 k a2 a1 (t432 != false) t420 t421 t422 t424 t425 t426 t428 t429 t430))) = some r := H
   have A10 := Aside0.mk A100
   clear A100
   have HC11 := Aside0.mk H
   clear H
   go_enter Tryd.func5, Tryd.ntmps5
   go_upto_region 9 with (first | ((with_reducible refine gate_dst (N := 3) rfl ?_); refine box_event ?hg (N := 3) ?hd (cs := #[.bool a0_0, .slice A0_1 l0_1.length c0_1, .int .i64 a0_2]) (t := 24) ?hr ?_; (case hd => rfl); (case hg => rfl); (case hr => first | (go_simp; done) | (go_simp; rfl)); intro gb417 hg w12 hbox hb; have n0_ := Aside0.mk (below_step (bl_ HB).out hb); have n1_ := Aside0.mk (hbox); have n2_ := Aside0.mk ((by rw [hg]; exact (below_size (bl_ HB).out) : w.heap.size ≤ gb417)); have n3_ := Aside0.mk ((by rw [hg]; exact (below_size (bl_ HB).out) : w.heap.size ≤ gb417)); clear HB; have HB := n0_; have BK417 := n1_; have GW417 := n2_; have GE417 := n3_; clear n0_ n1_ n2_ n3_; clear hb hbox hg) | ((with_reducible refine gate_callee (f := 10) rfl ?_); refine goesL_ (some 12) rfl rfl Tryd.func10 (by kernel_rfl) rfl #[] rfl (by (try simp only [List.map_toArray, List.map_cons, List.map_nil]); first | done | rfl | (simp only [List.length_drop, List.length_take]; rfl) | (have z_ : ∀ s_ : ByteArray, s_.size ≤ 9223372036854775807 → -(s_.size : Int) = wrap64 (-(s_.size : Int)) := (fun s_ h_ => by unfold wrap64; omega); rw [← z_ _ (by omega)]; rfl) | (simp only [ByteArray.size_append]; rfl)) ?_; (with_reducible refine (florinlaw03_head.calls k  true _ A4.out).mono ?_); rintro e w13 ⟨rfl, hb⟩; refine ⟨_, rfl, ?_⟩; have n0_ := bb_ BK417 hb; have n1_ := Aside0.mk (below_step (bl_ HB).out hb); clear BK417; clear HB; have BK417 := n0_; have HB := n1_; clear n0_ n1_; (try clear hb); (try clear hb2); (try clear hk); (try clear hi); have hcz14_0 : w13.cell? ⟨gb417, 0, none⟩ = some (.bool a0_0) := bc_ BK417 0; have hcz14_1 : w13.cell? ⟨gb417, 1, none⟩ = some (.slice A0_1 l0_1.length c0_1) := bc_ BK417 1; have hcz14_2 : w13.cell? ⟨gb417, 2, none⟩ = some (.int .i64 a0_2) := bc_ BK417 2; have hfz14_0 := blk_frozen BK417.out 0; have hfz14_1 := blk_frozen BK417.out 1; have hfz14_2 := blk_frozen BK417.out 2) | ((with_reducible refine gate_callee (f := 11) rfl ?_); refine goesL_ (some 15) rfl rfl Tryd.func11 (by kernel_rfl) rfl #[.agg #[.bool a0_0, .slice A0_1 l0_1.length c0_1, .int .i64 a0_2], .int .i64 40] rfl (by (try simp only [List.map_toArray, List.map_cons, List.map_nil]); first | done | rfl | (simp only [List.length_drop, List.length_take]; rfl) | (have z_ : ∀ s_ : ByteArray, s_.size ≤ 9223372036854775807 → -(s_.size : Int) = wrap64 (-(s_.size : Int)) := (fun s_ h_ => by unfold wrap64; omega); rw [← z_ _ (by omega)]; rfl) | (simp only [ByteArray.size_append]; rfl)) ?_; (with_reducible refine (florinlaw02_Raw_Few.calls a0_0 _ _ l0_1 a0_2 40 true _ ?side1 ?side2 A6.out).mono ?_); (case side1 => repeat (first | exact (Kd.C_below HR0_1.out HB.out) | (with_reducible refine Kd.C_alloc ?_ _) | (with_reducible refine Kd.C_drewN ?_ _) | (with_reducible refine Kd.C_drew ?_))); (case side2 => exact HC0_1.out); rintro e w15 ⟨rfl, hb⟩; refine ⟨_, rfl, ?_⟩; have n0_ := bb_ BK417 hb; have n1_ := Aside0.mk (below_step (bl_ HB).out hb); clear BK417; clear HB; have BK417 := n0_; have HB := n1_; clear n0_ n1_; (try clear hb); (try clear hb2); (try clear hk); (try clear hi); have hcz16_0 : w15.cell? ⟨gb417, 0, none⟩ = some (.bool a0_0) := bc_ BK417 0; have hcz16_1 : w15.cell? ⟨gb417, 1, none⟩ = some (.slice A0_1 l0_1.length c0_1) := bc_ BK417 1; have hcz16_2 : w15.cell? ⟨gb417, 2, none⟩ = some (.int .i64 a0_2) := bc_ BK417 2; have hfz16_0 := blk_frozen BK417.out 0; have hfz16_1 := blk_frozen BK417.out 1; have hfz16_2 := blk_frozen BK417.out 2) | ((with_reducible refine gate_callee (f := 12) rfl ?_); refine goesL_ (some 18) rfl rfl Tryd.func12 (by kernel_rfl) rfl #[.agg #[.bool a0_0, .slice A0_1 l0_1.length c0_1, .int .i64 a0_2]] rfl (by (try simp only [List.map_toArray, List.map_cons, List.map_nil]); first | done | rfl | (simp only [List.length_drop, List.length_take]; rfl) | (have z_ : ∀ s_ : ByteArray, s_.size ≤ 9223372036854775807 → -(s_.size : Int) = wrap64 (-(s_.size : Int)) := (fun s_ h_ => by unfold wrap64; omega); rw [← z_ _ (by omega)]; rfl) | (simp only [ByteArray.size_append]; rfl)) ?_; (with_reducible refine (florinlaw02_Raw_Make.calls k a0_0 _ _ l0_1 a0_2 t420 t421 t422 _ ?side1 ?side2 A8.out).mono ?_); (case side1 => repeat (first | exact (Kd.C_below HR0_1.out HB.out) | (with_reducible refine Kd.C_alloc ?_ _) | (with_reducible refine Kd.C_drewN ?_ _) | (with_reducible refine Kd.C_drew ?_))); (case side2 => exact HC0_1.out); rintro e w17 ⟨rfl, hb⟩; refine ⟨_, rfl, ?_⟩; have n0_ := bb_ BK417 hb; have n1_ := Aside0.mk (below_step (bl_ HB).out hb); clear BK417; clear HB; have BK417 := n0_; have HB := n1_; clear n0_ n1_; (try clear hb); (try clear hb2); (try clear hk); (try clear hi)) | ((with_reducible refine gate_dst (N := 7) rfl ?_); refine box_event ?hg (N := 7) ?hd (cs := #[.bool false, .string (⟨#[]⟩ : ByteArray), .int .i64 0]) (t := 30) ?hr ?_; (case hd => rfl); (case hg => rfl); (case hr => first | (go_simp; done) | (go_simp; rfl)); intro gb423 hg w18 hbox hb; have n0_ := bb_ BK417 hb; have n1_ := Aside0.mk (below_step (bl_ HB).out hb); have n2_ := Aside0.mk (hbox); have n3_ := Aside0.mk ((by rw [hg]; exact (below_size (bl_ HB).out) : w.heap.size ≤ gb423)); have n4_ := Aside0.mk ((by rw [hg]; exact (below_size (bl_ HB).out) : w.heap.size ≤ gb423)); have n5_ := Aside0.mk ((by rw [hg]; exact Nat.ne_of_lt (blk_lt (g := gb417) (o := .cells #[.bool a0_0, .slice A0_1 l0_1.length c0_1, .int .i64 a0_2] 24 (0, 0)) (by (with_reducible repeat (first | refine blk_drewN ?_ _ | refine blk_drew ?_ | refine blk_alloc ?_ _)); exact BK417.out)) : gb417 ≠ gb423)); have n6_ := Aside0.mk ((by rw [hg]; exact Nat.ne_of_gt (blk_lt (g := gb417) (o := .cells #[.bool a0_0, .slice A0_1 l0_1.length c0_1, .int .i64 a0_2] 24 (0, 0)) (by (with_reducible repeat (first | refine blk_drewN ?_ _ | refine blk_drew ?_ | refine blk_alloc ?_ _)); exact BK417.out)) : gb423 ≠ gb417)); clear BK417; clear HB; have BK417 := n0_; have HB := n1_; have BK423 := n2_; have GW423 := n3_; have GE423 := n4_; have NB417_423 := n5_; have NB423_417 := n6_; clear n0_ n1_ n2_ n3_ n4_ n5_ n6_; clear hb hbox hg; have hnb19 := NB423_417.out; have hnc19 := NB417_423.out; have hcz20_0 : w18.cell? ⟨gb423, 0, none⟩ = some (.bool false) := bc_ BK423 0; have hcz20_1 : w18.cell? ⟨gb423, 1, none⟩ = some (.string (⟨#[]⟩ : ByteArray)) := bc_ BK423 1; have hcz20_2 : w18.cell? ⟨gb423, 2, none⟩ = some (.int .i64 0) := bc_ BK423 2; have hfz20_0 := blk_frozen BK423.out 0; have hfz20_1 := blk_frozen BK423.out 1; have hfz20_2 := blk_frozen BK423.out 2) | ((with_reducible refine gate_callee (f := 22) rfl ?_); refine goesL_ (some 20) rfl rfl Tryd.func22 (by kernel_rfl) rfl #[.agg #[.bool t420, .string t421, .int .i64 t422]] rfl (by (try simp only [List.map_toArray, List.map_cons, List.map_nil]); first | done | rfl | (simp only [List.length_drop, List.length_take]; rfl) | (have z_ : ∀ s_ : ByteArray, s_.size ≤ 9223372036854775807 → -(s_.size : Int) = wrap64 (-(s_.size : Int)) := (fun s_ h_ => by unfold wrap64; omega); rw [← z_ _ (by omega)]; rfl) | (simp only [ByteArray.size_append]; rfl)) ?_; (with_reducible refine (dec_Dec_Norm.calls k t420 t421 t422 t424 t425 t426 _ A9.out).mono ?_); rintro e w21 ⟨rfl, hb⟩; refine ⟨_, rfl, ?_⟩; have n0_ := Aside0.mk (blk_below (g := gb417) (o := .cells #[.bool a0_0, .slice A0_1 l0_1.length c0_1, .int .i64 a0_2] 24 (0, 0)) (by (with_reducible repeat (first | refine blk_drewN ?_ _ | refine blk_drew ?_ | refine blk_alloc ?_ _)); refine blk_far ?_ NB417_423.out _; (with_reducible repeat (first | refine blk_drewN ?_ _ | refine blk_drew ?_ | refine blk_alloc ?_ _)); refine blk_far ?_ NB417_423.out _; (with_reducible repeat (first | refine blk_drewN ?_ _ | refine blk_drew ?_ | refine blk_alloc ?_ _)); refine blk_far ?_ NB417_423.out _; (with_reducible repeat (first | refine blk_drewN ?_ _ | refine blk_drew ?_ | refine blk_alloc ?_ _)); exact BK417.out) hb); have n1_ := Aside0.mk (blk_below (g := gb423) (o := .cells #[.bool t420, .string t421, .int .i64 t422] 30 (0, 0)) (by (with_reducible repeat (first | refine blk_drewN ?_ _ | refine blk_drew ?_ | refine blk_alloc ?_ _)); refine blk_put (cs := #[.bool t420, .string t421, .int .i64 0]) ?_ 2 _ rfl; (with_reducible repeat (first | refine blk_drewN ?_ _ | refine blk_drew ?_ | refine blk_alloc ?_ _)); refine blk_put (cs := #[.bool t420, .string (⟨#[]⟩ : ByteArray), .int .i64 0]) ?_ 1 _ rfl; (with_reducible repeat (first | refine blk_drewN ?_ _ | refine blk_drew ?_ | refine blk_alloc ?_ _)); refine blk_put (cs := #[.bool false, .string (⟨#[]⟩ : ByteArray), .int .i64 0]) ?_ 0 _ rfl; (with_reducible repeat (first | refine blk_drewN ?_ _ | refine blk_drew ?_ | refine blk_alloc ?_ _)); exact BK423.out) hb); have n2_ := Aside0.mk (below_step (bl_ HB).out hb); clear BK417; clear BK423; clear HB; have BK417 := n0_; have BK423 := n1_; have HB := n2_; clear n0_ n1_ n2_; (try clear hb); (try clear hb2); (try clear hk); (try clear hi)) | ((with_reducible refine gate_dst (N := 8) rfl ?_); refine box_event ?hg (N := 8) ?hd (cs := #[.bool false, .string (⟨#[]⟩ : ByteArray), .int .i64 0]) (t := 30) ?hr ?_; (case hd => rfl); (case hg => rfl); (case hr => first | (go_simp; done) | (go_simp; rfl)); intro gb427 hg w22 hbox hb; have n0_ := bb_ BK417 hb; have n1_ := bb_ BK423 hb; have n2_ := Aside0.mk (below_step (bl_ HB).out hb); have n3_ := Aside0.mk (hbox); have n4_ := Aside0.mk ((by rw [hg]; exact (below_size (bl_ HB).out) : w.heap.size ≤ gb427)); have n5_ := Aside0.mk ((by rw [hg]; exact (below_size (bl_ HB).out) : w.heap.size ≤ gb427)); have n6_ := Aside0.mk ((by rw [hg]; exact Nat.ne_of_lt (blk_lt (g := gb417) (o := .cells #[.bool a0_0, .slice A0_1 l0_1.length c0_1, .int .i64 a0_2] 24 (0, 0)) (by (with_reducible repeat (first | refine blk_drewN ?_ _ | refine blk_drew ?_ | refine blk_alloc ?_ _)); exact BK417.out)) : gb417 ≠ gb427)); have n7_ := Aside0.mk ((by rw [hg]; exact Nat.ne_of_gt (blk_lt (g := gb417) (o := .cells #[.bool a0_0, .slice A0_1 l0_1.length c0_1, .int .i64 a0_2] 24 (0, 0)) (by (with_reducible repeat (first | refine blk_drewN ?_ _ | refine blk_drew ?_ | refine blk_alloc ?_ _)); exact BK417.out)) : gb427 ≠ gb417)); have n8_ := Aside0.mk ((by rw [hg]; exact Nat.ne_of_lt (blk_lt (g := gb423) (o := .cells #[.bool t420, .string t421, .int .i64 t422] 30 (0, 0)) (by (with_reducible repeat (first | refine blk_drewN ?_ _ | refine blk_drew ?_ | refine blk_alloc ?_ _)); exact BK423.out)) : gb423 ≠ gb427)); have n9_ := Aside0.mk ((by rw [hg]; exact Nat.ne_of_gt (blk_lt (g := gb423) (o := .cells #[.bool t420, .string t421, .int .i64 t422] 30 (0, 0)) (by (with_reducible repeat (first | refine blk_drewN ?_ _ | refine blk_drew ?_ | refine blk_alloc ?_ _)); exact BK423.out)) : gb427 ≠ gb423)); clear BK417; clear BK423; clear HB; have BK417 := n0_; have BK423 := n1_; have HB := n2_; have BK427 := n3_; have GW427 := n4_; have GE427 := n5_; have NB417_427 := n6_; have NB427_417 := n7_; have NB423_427 := n8_; have NB427_423 := n9_; clear n0_ n1_ n2_ n3_ n4_ n5_ n6_ n7_ n8_ n9_; clear hb hbox hg; have hnb23 := NB427_417.out; have hnc23 := NB417_427.out; have hnb24 := NB427_423.out; have hnc24 := NB423_427.out; have hcz25_0 : w22.cell? ⟨gb427, 0, none⟩ = some (.bool false) := bc_ BK427 0; have hcz25_1 : w22.cell? ⟨gb427, 1, none⟩ = some (.string (⟨#[]⟩ : ByteArray)) := bc_ BK427 1; have hcz25_2 : w22.cell? ⟨gb427, 2, none⟩ = some (.int .i64 0) := bc_ BK427 2; have hfz25_0 := blk_frozen BK427.out 0; have hfz25_1 := blk_frozen BK427.out 1; have hfz25_2 := blk_frozen BK427.out 2) | ((with_reducible refine gate_callee (f := 23) rfl ?_); refine goesL_ (some 22) rfl rfl Tryd.func23 (by kernel_rfl) rfl #[.bool false, .string (⟨#[49]⟩ : ByteArray), .int .i64 0] rfl (by (try simp only [List.map_toArray, List.map_cons, List.map_nil]); first | done | rfl | (simp only [List.length_drop, List.length_take]; rfl) | (have z_ : ∀ s_ : ByteArray, s_.size ≤ 9223372036854775807 → -(s_.size : Int) = wrap64 (-(s_.size : Int)) := (fun s_ h_ => by unfold wrap64; omega); rw [← z_ _ (by omega)]; rfl) | (simp only [ByteArray.size_append]; rfl)) ?_; (with_reducible refine (dec_Made.calls k false (⟨#[49]⟩ : ByteArray) 0 t428 t429 t430 _ A10.out).mono ?_); rintro e w26 ⟨rfl, hb⟩; refine ⟨_, rfl, ?_⟩; have n0_ := Aside0.mk (blk_below (g := gb417) (o := .cells #[.bool a0_0, .slice A0_1 l0_1.length c0_1, .int .i64 a0_2] 24 (0, 0)) (by (with_reducible repeat (first | refine blk_drewN ?_ _ | refine blk_drew ?_ | refine blk_alloc ?_ _)); refine blk_far ?_ NB417_427.out _; (with_reducible repeat (first | refine blk_drewN ?_ _ | refine blk_drew ?_ | refine blk_alloc ?_ _)); refine blk_far ?_ NB417_427.out _; (with_reducible repeat (first | refine blk_drewN ?_ _ | refine blk_drew ?_ | refine blk_alloc ?_ _)); refine blk_far ?_ NB417_427.out _; (with_reducible repeat (first | refine blk_drewN ?_ _ | refine blk_drew ?_ | refine blk_alloc ?_ _)); exact BK417.out) hb); have n1_ := Aside0.mk (blk_below (g := gb423) (o := .cells #[.bool t420, .string t421, .int .i64 t422] 30 (0, 0)) (by (with_reducible repeat (first | refine blk_drewN ?_ _ | refine blk_drew ?_ | refine blk_alloc ?_ _)); refine blk_far ?_ NB423_427.out _; (with_reducible repeat (first | refine blk_drewN ?_ _ | refine blk_drew ?_ | refine blk_alloc ?_ _)); refine blk_far ?_ NB423_427.out _; (with_reducible repeat (first | refine blk_drewN ?_ _ | refine blk_drew ?_ | refine blk_alloc ?_ _)); refine blk_far ?_ NB423_427.out _; (with_reducible repeat (first | refine blk_drewN ?_ _ | refine blk_drew ?_ | refine blk_alloc ?_ _)); exact BK423.out) hb); have n2_ := Aside0.mk (blk_below (g := gb427) (o := .cells #[.bool t424, .string t425, .int .i64 t426] 30 (0, 0)) (by (with_reducible repeat (first | refine blk_drewN ?_ _ | refine blk_drew ?_ | refine blk_alloc ?_ _)); refine blk_put (cs := #[.bool t424, .string t425, .int .i64 0]) ?_ 2 _ rfl; (with_reducible repeat (first | refine blk_drewN ?_ _ | refine blk_drew ?_ | refine blk_alloc ?_ _)); refine blk_put (cs := #[.bool t424, .string (⟨#[]⟩ : ByteArray), .int .i64 0]) ?_ 1 _ rfl; (with_reducible repeat (first | refine blk_drewN ?_ _ | refine blk_drew ?_ | refine blk_alloc ?_ _)); refine blk_put (cs := #[.bool false, .string (⟨#[]⟩ : ByteArray), .int .i64 0]) ?_ 0 _ rfl; (with_reducible repeat (first | refine blk_drewN ?_ _ | refine blk_drew ?_ | refine blk_alloc ?_ _)); exact BK427.out) hb); have n3_ := Aside0.mk (below_step (bl_ HB).out hb); clear BK417; clear BK423; clear BK427; clear HB; have BK417 := n0_; have BK423 := n1_; have BK427 := n2_; have HB := n3_; clear n0_ n1_ n2_ n3_; (try clear hb); (try clear hb2); (try clear hk); (try clear hi)) | ((with_reducible refine gate_dst (N := 10) rfl ?_); refine box_event ?hg (N := 10) ?hd (cs := #[.bool false, .string (⟨#[]⟩ : ByteArray), .int .i64 0]) (t := 30) ?hr ?_; (case hd => rfl); (case hg => rfl); (case hr => first | (go_simp; done) | (go_simp; rfl)); intro gb431 hg w27 hbox hb; have n0_ := bb_ BK417 hb; have n1_ := bb_ BK423 hb; have n2_ := bb_ BK427 hb; have n3_ := Aside0.mk (below_step (bl_ HB).out hb); have n4_ := Aside0.mk (hbox); have n5_ := Aside0.mk ((by rw [hg]; exact (below_size (bl_ HB).out) : w.heap.size ≤ gb431)); have n6_ := Aside0.mk ((by rw [hg]; exact (below_size (bl_ HB).out) : w.heap.size ≤ gb431)); have n7_ := Aside0.mk ((by rw [hg]; exact Nat.ne_of_lt (blk_lt (g := gb417) (o := .cells #[.bool a0_0, .slice A0_1 l0_1.length c0_1, .int .i64 a0_2] 24 (0, 0)) (by (with_reducible repeat (first | refine blk_drewN ?_ _ | refine blk_drew ?_ | refine blk_alloc ?_ _)); exact BK417.out)) : gb417 ≠ gb431)); have n8_ := Aside0.mk ((by rw [hg]; exact Nat.ne_of_gt (blk_lt (g := gb417) (o := .cells #[.bool a0_0, .slice A0_1 l0_1.length c0_1, .int .i64 a0_2] 24 (0, 0)) (by (with_reducible repeat (first | refine blk_drewN ?_ _ | refine blk_drew ?_ | refine blk_alloc ?_ _)); exact BK417.out)) : gb431 ≠ gb417)); have n9_ := Aside0.mk ((by rw [hg]; exact Nat.ne_of_lt (blk_lt (g := gb423) (o := .cells #[.bool t420, .string t421, .int .i64 t422] 30 (0, 0)) (by (with_reducible repeat (first | refine blk_drewN ?_ _ | refine blk_drew ?_ | refine blk_alloc ?_ _)); exact BK423.out)) : gb423 ≠ gb431)); have n10_ := Aside0.mk ((by rw [hg]; exact Nat.ne_of_gt (blk_lt (g := gb423) (o := .cells #[.bool t420, .string t421, .int .i64 t422] 30 (0, 0)) (by (with_reducible repeat (first | refine blk_drewN ?_ _ | refine blk_drew ?_ | refine blk_alloc ?_ _)); exact BK423.out)) : gb431 ≠ gb423)); have n11_ := Aside0.mk ((by rw [hg]; exact Nat.ne_of_lt (blk_lt (g := gb427) (o := .cells #[.bool t424, .string t425, .int .i64 t426] 30 (0, 0)) (by (with_reducible repeat (first | refine blk_drewN ?_ _ | refine blk_drew ?_ | refine blk_alloc ?_ _)); exact BK427.out)) : gb427 ≠ gb431)); have n12_ := Aside0.mk ((by rw [hg]; exact Nat.ne_of_gt (blk_lt (g := gb427) (o := .cells #[.bool t424, .string t425, .int .i64 t426] 30 (0, 0)) (by (with_reducible repeat (first | refine blk_drewN ?_ _ | refine blk_drew ?_ | refine blk_alloc ?_ _)); exact BK427.out)) : gb431 ≠ gb427)); clear BK417; clear BK423; clear BK427; clear HB; have BK417 := n0_; have BK423 := n1_; have BK427 := n2_; have HB := n3_; have BK431 := n4_; have GW431 := n5_; have GE431 := n6_; have NB417_431 := n7_; have NB431_417 := n8_; have NB423_431 := n9_; have NB431_423 := n10_; have NB427_431 := n11_; have NB431_427 := n12_; clear n0_ n1_ n2_ n3_ n4_ n5_ n6_ n7_ n8_ n9_ n10_ n11_ n12_; clear hb hbox hg; have hnb28 := NB431_417.out; have hnc28 := NB417_431.out; have hnb29 := NB431_423.out; have hnc29 := NB423_431.out; have hnb30 := NB431_427.out; have hnc30 := NB427_431.out; have hcz31_0 : w27.cell? ⟨gb431, 0, none⟩ = some (.bool false) := bc_ BK431 0; have hcz31_1 : w27.cell? ⟨gb431, 1, none⟩ = some (.string (⟨#[]⟩ : ByteArray)) := bc_ BK431 1; have hcz31_2 : w27.cell? ⟨gb431, 2, none⟩ = some (.int .i64 0) := bc_ BK431 2; have hfz31_0 := blk_frozen BK431.out 0; have hfz31_1 := blk_frozen BK431.out 1; have hfz31_2 := blk_frozen BK431.out 2))
   (try simp only [Act.put, List.setIfInBounds_toArray, List.set_cons_zero, List.set_cons_succ])
   go_cut [31] (fun v31 wc => ∃ (kq : Nat) (x31_10 : Bool), v31 = .bool x31_10 ∧ Aside0 (florinlaw03_RoundBounds.j0 kq a2 a1 x31_10 t420 t421 t422 t424 t425 t426 t428 t429 t430 = some r) ∧ Aside0 (kq ≤ k) ∧ Aside0 (wc.heap[gb417]? = some (.cells #[.bool a0_0, (.slice A0_1 l0_1.length c0_1), .int .i64 a0_2] 24 (0, 0))) ∧ Aside0 (wc.heap[gb423]? = some (.cells #[.bool t420, .string t421, .int .i64 t422] 30 (0, 0))) ∧ Aside0 (wc.heap[gb427]? = some (.cells #[.bool t424, .string t425, .int .i64 t426] 30 (0, 0))) ∧ Aside0 (wc.heap[gb431]? = some (.cells #[.bool t428, .string t429, .int .i64 t430] 30 (0, 0))) ∧ Aside0 (Below w.heap.size w wc))
   case first =>
    have H := HC11.out
    clear HC11
    replace H := Option.bind_eq_some_iff.mp H
    obtain ⟨t432, A320, H⟩ := H
    replace H : (if a1 ≥ 0 then (florinlaw03_RoundBounds.j0 k a2 a1 (t432 != (decide (a1 ≤ 6))) t420 t421 t422 t424 t425 t426 t428 t429 t430) else (florinlaw03_RoundBounds.j0 k a2 a1 (t432 != false) t420 t421 t422 t424 t425 t426 t428 t429 t430)) = some r := H
    have A32 := Aside0.mk A320
    clear A320
    by_cases c33 : a1 ≥ 0
    ·rw [if_pos c33] at H
     have c33b0 : decide (0 ≤ a1) = true := decide_eq_true c33
     clear c33
     (first | rw [c33b0] | (simp only [i64_w, i32_w]; rw [c33b0]) | skip)
     have H' := Aside0.mk H
     clear H
     go_wp2_with (first | ((with_reducible refine gate_callee (f := 24) rfl ?_); refine goesL_ (some 24) rfl rfl Tryd.func24 (by kernel_rfl) rfl #[.int .i64 a1] rfl (by (try simp only [List.map_toArray, List.map_cons, List.map_nil]); first | done | rfl | (simp only [List.length_drop, List.length_take]; rfl) | (have z_ : ∀ s_ : ByteArray, s_.size ≤ 9223372036854775807 → -(s_.size : Int) = wrap64 (-(s_.size : Int)) := (fun s_ h_ => by unfold wrap64; omega); rw [← z_ _ (by omega)]; rfl) | (simp only [ByteArray.size_append]; rfl)) ?_; (with_reducible refine (round_Mode_Valid.calls a1 t432 _ A32.out).mono ?_); rintro e w' ⟨rfl, ⟨nd, rfl⟩⟩; refine ⟨_, rfl, ?_⟩))
     go_meet
     case rel => exact ⟨_, ((t432 != (decide (a1 ≤ 6)))), eq_, H', ⟨by first | omega | exact Nat.le_refl _⟩, ⟨by (with_reducible repeat (first | refine blk_drewN ?_ _ | refine blk_drew ?_ | refine blk_alloc ?_ _)); refine blk_far ?_ NB417_431.out _; (with_reducible repeat (first | refine blk_drewN ?_ _ | refine blk_drew ?_ | refine blk_alloc ?_ _)); refine blk_far ?_ NB417_431.out _; (with_reducible repeat (first | refine blk_drewN ?_ _ | refine blk_drew ?_ | refine blk_alloc ?_ _)); refine blk_far ?_ NB417_431.out _; (with_reducible repeat (first | refine blk_drewN ?_ _ | refine blk_drew ?_ | refine blk_alloc ?_ _)); exact BK417.out⟩, ⟨by (with_reducible repeat (first | refine blk_drewN ?_ _ | refine blk_drew ?_ | refine blk_alloc ?_ _)); refine blk_far ?_ NB423_431.out _; (with_reducible repeat (first | refine blk_drewN ?_ _ | refine blk_drew ?_ | refine blk_alloc ?_ _)); refine blk_far ?_ NB423_431.out _; (with_reducible repeat (first | refine blk_drewN ?_ _ | refine blk_drew ?_ | refine blk_alloc ?_ _)); refine blk_far ?_ NB423_431.out _; (with_reducible repeat (first | refine blk_drewN ?_ _ | refine blk_drew ?_ | refine blk_alloc ?_ _)); exact BK423.out⟩, ⟨by (with_reducible repeat (first | refine blk_drewN ?_ _ | refine blk_drew ?_ | refine blk_alloc ?_ _)); refine blk_far ?_ NB427_431.out _; (with_reducible repeat (first | refine blk_drewN ?_ _ | refine blk_drew ?_ | refine blk_alloc ?_ _)); refine blk_far ?_ NB427_431.out _; (with_reducible repeat (first | refine blk_drewN ?_ _ | refine blk_drew ?_ | refine blk_alloc ?_ _)); refine blk_far ?_ NB427_431.out _; (with_reducible repeat (first | refine blk_drewN ?_ _ | refine blk_drew ?_ | refine blk_alloc ?_ _)); exact BK427.out⟩, ⟨by (with_reducible repeat (first | refine blk_drewN ?_ _ | refine blk_drew ?_ | refine blk_alloc ?_ _)); refine blk_put (cs := #[.bool t428, .string t429, .int .i64 0]) ?_ 2 _ rfl; (with_reducible repeat (first | refine blk_drewN ?_ _ | refine blk_drew ?_ | refine blk_alloc ?_ _)); refine blk_put (cs := #[.bool t428, .string (⟨#[]⟩ : ByteArray), .int .i64 0]) ?_ 1 _ rfl; (with_reducible repeat (first | refine blk_drewN ?_ _ | refine blk_drew ?_ | refine blk_alloc ?_ _)); refine blk_put (cs := #[.bool false, .string (⟨#[]⟩ : ByteArray), .int .i64 0]) ?_ 0 _ rfl; (with_reducible repeat (first | refine blk_drewN ?_ _ | refine blk_drew ?_ | refine blk_alloc ?_ _)); exact BK431.out⟩, (bl_ HB)⟩
    ·rw [if_neg c33] at H
     have c33b0 : decide (0 ≤ a1) = false := decide_eq_false c33
     clear c33
     (first | rw [c33b0] | (simp only [i64_w, i32_w]; rw [c33b0]) | skip)
     have H' := Aside0.mk H
     clear H
     go_wp2_with (first | ((with_reducible refine gate_callee (f := 24) rfl ?_); refine goesL_ (some 24) rfl rfl Tryd.func24 (by kernel_rfl) rfl #[.int .i64 a1] rfl (by (try simp only [List.map_toArray, List.map_cons, List.map_nil]); first | done | rfl | (simp only [List.length_drop, List.length_take]; rfl) | (have z_ : ∀ s_ : ByteArray, s_.size ≤ 9223372036854775807 → -(s_.size : Int) = wrap64 (-(s_.size : Int)) := (fun s_ h_ => by unfold wrap64; omega); rw [← z_ _ (by omega)]; rfl) | (simp only [ByteArray.size_append]; rfl)) ?_; (with_reducible refine (round_Mode_Valid.calls a1 t432 _ A32.out).mono ?_); rintro e w' ⟨rfl, ⟨nd, rfl⟩⟩; refine ⟨_, rfl, ?_⟩))
     go_meet
     case rel => exact ⟨_, ((t432 != false)), eq_, H', ⟨by first | omega | exact Nat.le_refl _⟩, ⟨by (with_reducible repeat (first | refine blk_drewN ?_ _ | refine blk_drew ?_ | refine blk_alloc ?_ _)); refine blk_far ?_ NB417_431.out _; (with_reducible repeat (first | refine blk_drewN ?_ _ | refine blk_drew ?_ | refine blk_alloc ?_ _)); refine blk_far ?_ NB417_431.out _; (with_reducible repeat (first | refine blk_drewN ?_ _ | refine blk_drew ?_ | refine blk_alloc ?_ _)); refine blk_far ?_ NB417_431.out _; (with_reducible repeat (first | refine blk_drewN ?_ _ | refine blk_drew ?_ | refine blk_alloc ?_ _)); exact BK417.out⟩, ⟨by (with_reducible repeat (first | refine blk_drewN ?_ _ | refine blk_drew ?_ | refine blk_alloc ?_ _)); refine blk_far ?_ NB423_431.out _; (with_reducible repeat (first | refine blk_drewN ?_ _ | refine blk_drew ?_ | refine blk_alloc ?_ _)); refine blk_far ?_ NB423_431.out _; (with_reducible repeat (first | refine blk_drewN ?_ _ | refine blk_drew ?_ | refine blk_alloc ?_ _)); refine blk_far ?_ NB423_431.out _; (with_reducible repeat (first | refine blk_drewN ?_ _ | refine blk_drew ?_ | refine blk_alloc ?_ _)); exact BK423.out⟩, ⟨by (with_reducible repeat (first | refine blk_drewN ?_ _ | refine blk_drew ?_ | refine blk_alloc ?_ _)); refine blk_far ?_ NB427_431.out _; (with_reducible repeat (first | refine blk_drewN ?_ _ | refine blk_drew ?_ | refine blk_alloc ?_ _)); refine blk_far ?_ NB427_431.out _; (with_reducible repeat (first | refine blk_drewN ?_ _ | refine blk_drew ?_ | refine blk_alloc ?_ _)); refine blk_far ?_ NB427_431.out _; (with_reducible repeat (first | refine blk_drewN ?_ _ | refine blk_drew ?_ | refine blk_alloc ?_ _)); exact BK427.out⟩, ⟨by (with_reducible repeat (first | refine blk_drewN ?_ _ | refine blk_drew ?_ | refine blk_alloc ?_ _)); refine blk_put (cs := #[.bool t428, .string t429, .int .i64 0]) ?_ 2 _ rfl; (with_reducible repeat (first | refine blk_drewN ?_ _ | refine blk_drew ?_ | refine blk_alloc ?_ _)); refine blk_put (cs := #[.bool t428, .string (⟨#[]⟩ : ByteArray), .int .i64 0]) ?_ 1 _ rfl; (with_reducible repeat (first | refine blk_drewN ?_ _ | refine blk_drew ?_ | refine blk_alloc ?_ _)); refine blk_put (cs := #[.bool false, .string (⟨#[]⟩ : ByteArray), .int .i64 0]) ?_ 0 _ rfl; (with_reducible repeat (first | refine blk_drewN ?_ _ | refine blk_drew ?_ | refine blk_alloc ?_ _)); exact BK431.out⟩, (bl_ HB)⟩
   case rest =>
    clear HC11
    try clear c1
    try clear c2
    try clear p2
    try clear c3
    try clear c5
    try clear p6
    try clear c7
    try clear c10
    try clear c11
    try clear c12
    try clear c19
    try clear c22
    try clear c23
    try clear c24
    try clear c28
    try clear c29
    try clear c30
    try clear c33
    try clear c33b0
    try clear hcz14_0
    try clear hcz14_1
    try clear hcz14_2
    try clear hcz16_0
    try clear hcz16_1
    try clear hcz16_2
    try clear hcz20_0
    try clear hcz20_1
    try clear hcz20_2
    try clear hcz25_0
    try clear hcz25_1
    try clear hcz25_2
    try clear hcz31_0
    try clear hcz31_1
    try clear hcz31_2
    try clear hfz14_0
    try clear hfz14_1
    try clear hfz14_2
    try clear hfz16_0
    try clear hfz16_1
    try clear hfz16_2
    try clear hfz20_0
    try clear hfz20_1
    try clear hfz20_2
    try clear hfz25_0
    try clear hfz25_1
    try clear hfz25_2
    try clear hfz31_0
    try clear hfz31_1
    try clear hfz31_2
    obtain ⟨kq, x31_10, rfl, HA, HJ10, BK417, BK423, BK427, BK431, HB⟩ := hcut
    cases kq with
    | zero => exact absurd HA.out (by simp [florinlaw03_RoundBounds.j0])
    | succ kj10 =>
     have H := HA.out
     clear HA
     simp only [florinlaw03_RoundBounds.j0] at H
     by_cases c34 : x31_10 = true
     ·subst c34
      have H1 : (some false) = some r := by rw [if_pos rfl] at H; exact H
      clear H
      have H := H1
      clear H1
      obtain rfl := Option.some.inj H
      go_wp2
      go_ret
      exact ⟨by first | rfl | (simp [errW_none, errW_some] <;> rfl) | (simp [*, errW_none, errW_some] <;> first | rfl | exact given_isEmpty _ | exact (given_isEmpty _).symm), by repeat (first | (with_reducible first | exact HB.out | apply below_alloc | apply pw_below_drewN | apply below_drew1 | refine below_set ?_ GE417.out | refine below_set ?_ GE423.out | refine below_set ?_ GE427.out | refine below_set ?_ GE431.out) | exact HB.out)⟩
     ·replace c34 := Bool.eq_false_iff.mpr c34
      subst c34
      have H1 : ((round_Mode_Valid.f a1).bind fun t433 => (if t433 = true then ((round_At.f kj10 t420 t421 t422 a2 a1).bind fun bt443 => ((round_At.f kj10 t420 t421 t422 (mn (mx a2 (-30000)) 30000) a1).bind fun bt446 => (if (bt443.1 == bt446.1 && (bt443.2.1.toList == bt446.2.1.toList && (bt443.2.2 == bt446.2.2))) = true then ((round_Step.f kj10 t420 t421 t422 false (⟨#[]⟩ : ByteArray) 0 a1).bind fun bt449 => (if (bt449.1 == t424 && (bt449.2.1.toList == t425.toList && (bt449.2.2 == t426))) = true then ((dec_Dec_Minus.f kj10 t428 t429 t430).bind fun bt452 => ((round_Step.f kj10 t420 t421 t422 bt452.1 bt452.2.1 bt452.2.2 a1).bind fun bt455 => (if (bt455.1 == t424 && (bt455.2.1.toList == t425.toList && (bt455.2.2 == t426))) = true then ((dec_Made.f kj10 false (⟨#[49, 48, 48, 48, 48, 48, 48, 48, 48, 49]⟩ : ByteArray) 0).bind fun bt458 => ((round_Step.f kj10 t420 t421 t422 bt458.1 bt458.2.1 bt458.2.2 a1).bind fun bt461 => (if (bt461.1 == t424 && (bt461.2.1.toList == t425.toList && (bt461.2.2 == t426))) = true then ((round_Step.f kj10 t420 t421 t422 t428 t429 t430 a1).bind fun bt464 => ((round_At.f kj10 t420 t421 t422 0 a1).bind fun bt467 => (if (bt464.1 == bt467.1 && (bt464.2.1.toList == bt467.2.1.toList && (bt464.2.2 == bt467.2.2))) = true then ((round_At.f kj10 t420 t421 t422 (-50) a1).bind fun bt470 => (some (bt470.1 == t424 && (bt470.2.1.toList == t425.toList && (bt470.2.2 == t426))))) else (some false)))) else (some false)))) else (some false)))) else (some false))) else (some false)))) else ((round_At.f kj10 t420 t421 t422 a2 a1).bind fun bt434 => (if (bt434.1 == t424 && (bt434.2.1.toList == t425.toList && (bt434.2.2 == t426))) = true then ((round_Sig.f kj10 t420 t421 t422 a2 a1).bind fun bt437 => (if (bt437.1 == t424 && (bt437.2.1.toList == t425.toList && (bt437.2.2 == t426))) = true then ((round_Step.f kj10 t420 t421 t422 t428 t429 t430 a1).bind fun bt440 => (some (bt440.1 == t424 && (bt440.2.1.toList == t425.toList && (bt440.2.2 == t426))))) else (some false))) else (some false))))) = some r := by rw [if_neg (show ¬ (false = true) by decide)] at H; exact H
      clear H
      have H := H1
      clear H1
      replace H := Option.bind_eq_some_iff.mp H
      obtain ⟨t433, A350, H⟩ := H
      replace H : (if t433 = true then ((round_At.f kj10 t420 t421 t422 a2 a1).bind fun bt443 => ((round_At.f kj10 t420 t421 t422 (mn (mx a2 (-30000)) 30000) a1).bind fun bt446 => (if (bt443.1 == bt446.1 && (bt443.2.1.toList == bt446.2.1.toList && (bt443.2.2 == bt446.2.2))) = true then ((round_Step.f kj10 t420 t421 t422 false (⟨#[]⟩ : ByteArray) 0 a1).bind fun bt449 => (if (bt449.1 == t424 && (bt449.2.1.toList == t425.toList && (bt449.2.2 == t426))) = true then ((dec_Dec_Minus.f kj10 t428 t429 t430).bind fun bt452 => ((round_Step.f kj10 t420 t421 t422 bt452.1 bt452.2.1 bt452.2.2 a1).bind fun bt455 => (if (bt455.1 == t424 && (bt455.2.1.toList == t425.toList && (bt455.2.2 == t426))) = true then ((dec_Made.f kj10 false (⟨#[49, 48, 48, 48, 48, 48, 48, 48, 48, 49]⟩ : ByteArray) 0).bind fun bt458 => ((round_Step.f kj10 t420 t421 t422 bt458.1 bt458.2.1 bt458.2.2 a1).bind fun bt461 => (if (bt461.1 == t424 && (bt461.2.1.toList == t425.toList && (bt461.2.2 == t426))) = true then ((round_Step.f kj10 t420 t421 t422 t428 t429 t430 a1).bind fun bt464 => ((round_At.f kj10 t420 t421 t422 0 a1).bind fun bt467 => (if (bt464.1 == bt467.1 && (bt464.2.1.toList == bt467.2.1.toList && (bt464.2.2 == bt467.2.2))) = true then ((round_At.f kj10 t420 t421 t422 (-50) a1).bind fun bt470 => (some (bt470.1 == t424 && (bt470.2.1.toList == t425.toList && (bt470.2.2 == t426))))) else (some false)))) else (some false)))) else (some false)))) else (some false))) else (some false)))) else ((round_At.f kj10 t420 t421 t422 a2 a1).bind fun bt434 => (if (bt434.1 == t424 && (bt434.2.1.toList == t425.toList && (bt434.2.2 == t426))) = true then ((round_Sig.f kj10 t420 t421 t422 a2 a1).bind fun bt437 => (if (bt437.1 == t424 && (bt437.2.1.toList == t425.toList && (bt437.2.2 == t426))) = true then ((round_Step.f kj10 t420 t421 t422 t428 t429 t430 a1).bind fun bt440 => (some (bt440.1 == t424 && (bt440.2.1.toList == t425.toList && (bt440.2.2 == t426))))) else (some false))) else (some false)))) = some r := H
      have A35 := Aside0.mk A350
      clear A350
      by_cases c36 : t433 = true
      ·subst c36
       have H1 : ((round_At.f kj10 t420 t421 t422 a2 a1).bind fun bt443 => ((round_At.f kj10 t420 t421 t422 (mn (mx a2 (-30000)) 30000) a1).bind fun bt446 => (if (bt443.1 == bt446.1 && (bt443.2.1.toList == bt446.2.1.toList && (bt443.2.2 == bt446.2.2))) = true then ((round_Step.f kj10 t420 t421 t422 false (⟨#[]⟩ : ByteArray) 0 a1).bind fun bt449 => (if (bt449.1 == t424 && (bt449.2.1.toList == t425.toList && (bt449.2.2 == t426))) = true then ((dec_Dec_Minus.f kj10 t428 t429 t430).bind fun bt452 => ((round_Step.f kj10 t420 t421 t422 bt452.1 bt452.2.1 bt452.2.2 a1).bind fun bt455 => (if (bt455.1 == t424 && (bt455.2.1.toList == t425.toList && (bt455.2.2 == t426))) = true then ((dec_Made.f kj10 false (⟨#[49, 48, 48, 48, 48, 48, 48, 48, 48, 49]⟩ : ByteArray) 0).bind fun bt458 => ((round_Step.f kj10 t420 t421 t422 bt458.1 bt458.2.1 bt458.2.2 a1).bind fun bt461 => (if (bt461.1 == t424 && (bt461.2.1.toList == t425.toList && (bt461.2.2 == t426))) = true then ((round_Step.f kj10 t420 t421 t422 t428 t429 t430 a1).bind fun bt464 => ((round_At.f kj10 t420 t421 t422 0 a1).bind fun bt467 => (if (bt464.1 == bt467.1 && (bt464.2.1.toList == bt467.2.1.toList && (bt464.2.2 == bt467.2.2))) = true then ((round_At.f kj10 t420 t421 t422 (-50) a1).bind fun bt470 => (some (bt470.1 == t424 && (bt470.2.1.toList == t425.toList && (bt470.2.2 == t426))))) else (some false)))) else (some false)))) else (some false)))) else (some false))) else (some false)))) = some r := by rw [if_pos rfl] at H; exact H
       clear H
       have H := H1
       clear H1
       obtain ⟨ji37, hji37⟩ : ∃ j_ : Int, (mx a2 (-30000)) = j_ := ⟨_, rfl⟩
       replace H : ((round_At.f kj10 t420 t421 t422 a2 a1).bind fun bt443 => ((round_At.f kj10 t420 t421 t422 (mn (ji37) 30000) a1).bind fun bt446 => (if (bt443.1 == bt446.1 && (bt443.2.1.toList == bt446.2.1.toList && (bt443.2.2 == bt446.2.2))) = true then ((round_Step.f kj10 t420 t421 t422 false (⟨#[]⟩ : ByteArray) 0 a1).bind fun bt449 => (if (bt449.1 == t424 && (bt449.2.1.toList == t425.toList && (bt449.2.2 == t426))) = true then ((dec_Dec_Minus.f kj10 t428 t429 t430).bind fun bt452 => ((round_Step.f kj10 t420 t421 t422 bt452.1 bt452.2.1 bt452.2.2 a1).bind fun bt455 => (if (bt455.1 == t424 && (bt455.2.1.toList == t425.toList && (bt455.2.2 == t426))) = true then ((dec_Made.f kj10 false (⟨#[49, 48, 48, 48, 48, 48, 48, 48, 48, 49]⟩ : ByteArray) 0).bind fun bt458 => ((round_Step.f kj10 t420 t421 t422 bt458.1 bt458.2.1 bt458.2.2 a1).bind fun bt461 => (if (bt461.1 == t424 && (bt461.2.1.toList == t425.toList && (bt461.2.2 == t426))) = true then ((round_Step.f kj10 t420 t421 t422 t428 t429 t430 a1).bind fun bt464 => ((round_At.f kj10 t420 t421 t422 0 a1).bind fun bt467 => (if (bt464.1 == bt467.1 && (bt464.2.1.toList == bt467.2.1.toList && (bt464.2.2 == bt467.2.2))) = true then ((round_At.f kj10 t420 t421 t422 (-50) a1).bind fun bt470 => (some (bt470.1 == t424 && (bt470.2.1.toList == t425.toList && (bt470.2.2 == t426))))) else (some false)))) else (some false)))) else (some false)))) else (some false))) else (some false)))) = some r := by first | (rw [hji37] at H; exact H) | (simp only [hji37] at H ⊢; exact H)
       (try rw [hji37] at A35)
       have hji37_ : (if a2 < (-30000) then (-30000) else a2) = ji37 := hji37
       obtain ⟨ji38, hji38⟩ : ∃ j_ : Int, (mn (ji37) 30000) = j_ := ⟨_, rfl⟩
       replace H : ((round_At.f kj10 t420 t421 t422 a2 a1).bind fun bt443 => ((round_At.f kj10 t420 t421 t422 (ji38) a1).bind fun bt446 => (if (bt443.1 == bt446.1 && (bt443.2.1.toList == bt446.2.1.toList && (bt443.2.2 == bt446.2.2))) = true then ((round_Step.f kj10 t420 t421 t422 false (⟨#[]⟩ : ByteArray) 0 a1).bind fun bt449 => (if (bt449.1 == t424 && (bt449.2.1.toList == t425.toList && (bt449.2.2 == t426))) = true then ((dec_Dec_Minus.f kj10 t428 t429 t430).bind fun bt452 => ((round_Step.f kj10 t420 t421 t422 bt452.1 bt452.2.1 bt452.2.2 a1).bind fun bt455 => (if (bt455.1 == t424 && (bt455.2.1.toList == t425.toList && (bt455.2.2 == t426))) = true then ((dec_Made.f kj10 false (⟨#[49, 48, 48, 48, 48, 48, 48, 48, 48, 49]⟩ : ByteArray) 0).bind fun bt458 => ((round_Step.f kj10 t420 t421 t422 bt458.1 bt458.2.1 bt458.2.2 a1).bind fun bt461 => (if (bt461.1 == t424 && (bt461.2.1.toList == t425.toList && (bt461.2.2 == t426))) = true then ((round_Step.f kj10 t420 t421 t422 t428 t429 t430 a1).bind fun bt464 => ((round_At.f kj10 t420 t421 t422 0 a1).bind fun bt467 => (if (bt464.1 == bt467.1 && (bt464.2.1.toList == bt467.2.1.toList && (bt464.2.2 == bt467.2.2))) = true then ((round_At.f kj10 t420 t421 t422 (-50) a1).bind fun bt470 => (some (bt470.1 == t424 && (bt470.2.1.toList == t425.toList && (bt470.2.2 == t426))))) else (some false)))) else (some false)))) else (some false)))) else (some false))) else (some false)))) = some r := by first | (rw [hji38] at H; exact H) | (simp only [hji38] at H ⊢; exact H)
       (try rw [hji38] at A35)
       have hji38_ : (if 30000 < (ji37) then 30000 else (ji37)) = ji38 := hji38
       replace H := Option.bind_eq_some_iff.mp H
       obtain ⟨⟨t443, t444, t445⟩, A390, H⟩ := H
       replace H : ((round_At.f kj10 t420 t421 t422 (ji38) a1).bind fun bt446 => (if (t443 == bt446.1 && (t444.toList == bt446.2.1.toList && (t445 == bt446.2.2))) = true then ((round_Step.f kj10 t420 t421 t422 false (⟨#[]⟩ : ByteArray) 0 a1).bind fun bt449 => (if (bt449.1 == t424 && (bt449.2.1.toList == t425.toList && (bt449.2.2 == t426))) = true then ((dec_Dec_Minus.f kj10 t428 t429 t430).bind fun bt452 => ((round_Step.f kj10 t420 t421 t422 bt452.1 bt452.2.1 bt452.2.2 a1).bind fun bt455 => (if (bt455.1 == t424 && (bt455.2.1.toList == t425.toList && (bt455.2.2 == t426))) = true then ((dec_Made.f kj10 false (⟨#[49, 48, 48, 48, 48, 48, 48, 48, 48, 49]⟩ : ByteArray) 0).bind fun bt458 => ((round_Step.f kj10 t420 t421 t422 bt458.1 bt458.2.1 bt458.2.2 a1).bind fun bt461 => (if (bt461.1 == t424 && (bt461.2.1.toList == t425.toList && (bt461.2.2 == t426))) = true then ((round_Step.f kj10 t420 t421 t422 t428 t429 t430 a1).bind fun bt464 => ((round_At.f kj10 t420 t421 t422 0 a1).bind fun bt467 => (if (bt464.1 == bt467.1 && (bt464.2.1.toList == bt467.2.1.toList && (bt464.2.2 == bt467.2.2))) = true then ((round_At.f kj10 t420 t421 t422 (-50) a1).bind fun bt470 => (some (bt470.1 == t424 && (bt470.2.1.toList == t425.toList && (bt470.2.2 == t426))))) else (some false)))) else (some false)))) else (some false)))) else (some false))) else (some false))) = some r := H
       have A39 := Aside0.mk A390
       clear A390
       replace H := Option.bind_eq_some_iff.mp H
       obtain ⟨⟨t446, t447, t448⟩, A400, H⟩ := H
       replace H : (if (t443 == t446 && (t444.toList == t447.toList && (t445 == t448))) = true then ((round_Step.f kj10 t420 t421 t422 false (⟨#[]⟩ : ByteArray) 0 a1).bind fun bt449 => (if (bt449.1 == t424 && (bt449.2.1.toList == t425.toList && (bt449.2.2 == t426))) = true then ((dec_Dec_Minus.f kj10 t428 t429 t430).bind fun bt452 => ((round_Step.f kj10 t420 t421 t422 bt452.1 bt452.2.1 bt452.2.2 a1).bind fun bt455 => (if (bt455.1 == t424 && (bt455.2.1.toList == t425.toList && (bt455.2.2 == t426))) = true then ((dec_Made.f kj10 false (⟨#[49, 48, 48, 48, 48, 48, 48, 48, 48, 49]⟩ : ByteArray) 0).bind fun bt458 => ((round_Step.f kj10 t420 t421 t422 bt458.1 bt458.2.1 bt458.2.2 a1).bind fun bt461 => (if (bt461.1 == t424 && (bt461.2.1.toList == t425.toList && (bt461.2.2 == t426))) = true then ((round_Step.f kj10 t420 t421 t422 t428 t429 t430 a1).bind fun bt464 => ((round_At.f kj10 t420 t421 t422 0 a1).bind fun bt467 => (if (bt464.1 == bt467.1 && (bt464.2.1.toList == bt467.2.1.toList && (bt464.2.2 == bt467.2.2))) = true then ((round_At.f kj10 t420 t421 t422 (-50) a1).bind fun bt470 => (some (bt470.1 == t424 && (bt470.2.1.toList == t425.toList && (bt470.2.2 == t426))))) else (some false)))) else (some false)))) else (some false)))) else (some false))) else (some false)) = some r := H
       have A40 := Aside0.mk A400
       clear A400
       by_cases c41 : (t443 == t446 && (t444.toList == t447.toList && (t445 == t448))) = true
       ·rw [if_pos c41] at H
        have c41b0 : (t443 == t446 && (t444.toList == t447.toList && (t445 == t448))) = true := c41
        (try (have c41b1 : decide (t443 = t446 && (t444.toList == t447.toList && (t445 == t448))) = true := by simpa using c41))
        (try (have c41b2 : (t443 == t446 && (t444.toList == t447.toList && (t445 == t448))) = true := by simpa using c41))
        clear c41
        replace H := Option.bind_eq_some_iff.mp H
        obtain ⟨⟨t449, t450, t451⟩, A420, H⟩ := H
        replace H : (if (t449 == t424 && (t450.toList == t425.toList && (t451 == t426))) = true then ((dec_Dec_Minus.f kj10 t428 t429 t430).bind fun bt452 => ((round_Step.f kj10 t420 t421 t422 bt452.1 bt452.2.1 bt452.2.2 a1).bind fun bt455 => (if (bt455.1 == t424 && (bt455.2.1.toList == t425.toList && (bt455.2.2 == t426))) = true then ((dec_Made.f kj10 false (⟨#[49, 48, 48, 48, 48, 48, 48, 48, 48, 49]⟩ : ByteArray) 0).bind fun bt458 => ((round_Step.f kj10 t420 t421 t422 bt458.1 bt458.2.1 bt458.2.2 a1).bind fun bt461 => (if (bt461.1 == t424 && (bt461.2.1.toList == t425.toList && (bt461.2.2 == t426))) = true then ((round_Step.f kj10 t420 t421 t422 t428 t429 t430 a1).bind fun bt464 => ((round_At.f kj10 t420 t421 t422 0 a1).bind fun bt467 => (if (bt464.1 == bt467.1 && (bt464.2.1.toList == bt467.2.1.toList && (bt464.2.2 == bt467.2.2))) = true then ((round_At.f kj10 t420 t421 t422 (-50) a1).bind fun bt470 => (some (bt470.1 == t424 && (bt470.2.1.toList == t425.toList && (bt470.2.2 == t426))))) else (some false)))) else (some false)))) else (some false)))) else (some false)) = some r := H
        have A42 := Aside0.mk A420
        clear A420
        by_cases c43 : (t449 == t424 && (t450.toList == t425.toList && (t451 == t426))) = true
        ·rw [if_pos c43] at H
         have c43b0 : (t449 == t424 && (t450.toList == t425.toList && (t451 == t426))) = true := c43
         (try (have c43b1 : decide (t449 = t424 && (t450.toList == t425.toList && (t451 == t426))) = true := by simpa using c43))
         (try (have c43b2 : (t449 == t424 && (t450.toList == t425.toList && (t451 == t426))) = true := by simpa using c43))
         clear c43
         replace H := Option.bind_eq_some_iff.mp H
         obtain ⟨⟨t452, t453, t454⟩, A440, H⟩ := H
         replace H : ((round_Step.f kj10 t420 t421 t422 t452 t453 t454 a1).bind fun bt455 => (if (bt455.1 == t424 && (bt455.2.1.toList == t425.toList && (bt455.2.2 == t426))) = true then ((dec_Made.f kj10 false (⟨#[49, 48, 48, 48, 48, 48, 48, 48, 48, 49]⟩ : ByteArray) 0).bind fun bt458 => ((round_Step.f kj10 t420 t421 t422 bt458.1 bt458.2.1 bt458.2.2 a1).bind fun bt461 => (if (bt461.1 == t424 && (bt461.2.1.toList == t425.toList && (bt461.2.2 == t426))) = true then ((round_Step.f kj10 t420 t421 t422 t428 t429 t430 a1).bind fun bt464 => ((round_At.f kj10 t420 t421 t422 0 a1).bind fun bt467 => (if (bt464.1 == bt467.1 && (bt464.2.1.toList == bt467.2.1.toList && (bt464.2.2 == bt467.2.2))) = true then ((round_At.f kj10 t420 t421 t422 (-50) a1).bind fun bt470 => (some (bt470.1 == t424 && (bt470.2.1.toList == t425.toList && (bt470.2.2 == t426))))) else (some false)))) else (some false)))) else (some false))) = some r := H
         have A44 := Aside0.mk A440
         clear A440
         replace H := Option.bind_eq_some_iff.mp H
         obtain ⟨⟨t455, t456, t457⟩, A450, H⟩ := H
         replace H : (if (t455 == t424 && (t456.toList == t425.toList && (t457 == t426))) = true then ((dec_Made.f kj10 false (⟨#[49, 48, 48, 48, 48, 48, 48, 48, 48, 49]⟩ : ByteArray) 0).bind fun bt458 => ((round_Step.f kj10 t420 t421 t422 bt458.1 bt458.2.1 bt458.2.2 a1).bind fun bt461 => (if (bt461.1 == t424 && (bt461.2.1.toList == t425.toList && (bt461.2.2 == t426))) = true then ((round_Step.f kj10 t420 t421 t422 t428 t429 t430 a1).bind fun bt464 => ((round_At.f kj10 t420 t421 t422 0 a1).bind fun bt467 => (if (bt464.1 == bt467.1 && (bt464.2.1.toList == bt467.2.1.toList && (bt464.2.2 == bt467.2.2))) = true then ((round_At.f kj10 t420 t421 t422 (-50) a1).bind fun bt470 => (some (bt470.1 == t424 && (bt470.2.1.toList == t425.toList && (bt470.2.2 == t426))))) else (some false)))) else (some false)))) else (some false)) = some r := H
         have A45 := Aside0.mk A450
         clear A450
         by_cases c46 : (t455 == t424 && (t456.toList == t425.toList && (t457 == t426))) = true
         ·rw [if_pos c46] at H
          have c46b0 : (t455 == t424 && (t456.toList == t425.toList && (t457 == t426))) = true := c46
          (try (have c46b1 : decide (t455 = t424 && (t456.toList == t425.toList && (t457 == t426))) = true := by simpa using c46))
          (try (have c46b2 : (t455 == t424 && (t456.toList == t425.toList && (t457 == t426))) = true := by simpa using c46))
          clear c46
          replace H := Option.bind_eq_some_iff.mp H
          obtain ⟨⟨t458, t459, t460⟩, A470, H⟩ := H
          replace H : ((round_Step.f kj10 t420 t421 t422 t458 t459 t460 a1).bind fun bt461 => (if (bt461.1 == t424 && (bt461.2.1.toList == t425.toList && (bt461.2.2 == t426))) = true then ((round_Step.f kj10 t420 t421 t422 t428 t429 t430 a1).bind fun bt464 => ((round_At.f kj10 t420 t421 t422 0 a1).bind fun bt467 => (if (bt464.1 == bt467.1 && (bt464.2.1.toList == bt467.2.1.toList && (bt464.2.2 == bt467.2.2))) = true then ((round_At.f kj10 t420 t421 t422 (-50) a1).bind fun bt470 => (some (bt470.1 == t424 && (bt470.2.1.toList == t425.toList && (bt470.2.2 == t426))))) else (some false)))) else (some false))) = some r := H
          have A47 := Aside0.mk A470
          clear A470
          replace H := Option.bind_eq_some_iff.mp H
          obtain ⟨⟨t461, t462, t463⟩, A480, H⟩ := H
          replace H : (if (t461 == t424 && (t462.toList == t425.toList && (t463 == t426))) = true then ((round_Step.f kj10 t420 t421 t422 t428 t429 t430 a1).bind fun bt464 => ((round_At.f kj10 t420 t421 t422 0 a1).bind fun bt467 => (if (bt464.1 == bt467.1 && (bt464.2.1.toList == bt467.2.1.toList && (bt464.2.2 == bt467.2.2))) = true then ((round_At.f kj10 t420 t421 t422 (-50) a1).bind fun bt470 => (some (bt470.1 == t424 && (bt470.2.1.toList == t425.toList && (bt470.2.2 == t426))))) else (some false)))) else (some false)) = some r := H
          have A48 := Aside0.mk A480
          clear A480
          by_cases c49 : (t461 == t424 && (t462.toList == t425.toList && (t463 == t426))) = true
          ·rw [if_pos c49] at H
           have c49b0 : (t461 == t424 && (t462.toList == t425.toList && (t463 == t426))) = true := c49
           (try (have c49b1 : decide (t461 = t424 && (t462.toList == t425.toList && (t463 == t426))) = true := by simpa using c49))
           (try (have c49b2 : (t461 == t424 && (t462.toList == t425.toList && (t463 == t426))) = true := by simpa using c49))
           clear c49
           replace H := Option.bind_eq_some_iff.mp H
           obtain ⟨⟨t464, t465, t466⟩, A500, H⟩ := H
           replace H : ((round_At.f kj10 t420 t421 t422 0 a1).bind fun bt467 => (if (t464 == bt467.1 && (t465.toList == bt467.2.1.toList && (t466 == bt467.2.2))) = true then ((round_At.f kj10 t420 t421 t422 (-50) a1).bind fun bt470 => (some (bt470.1 == t424 && (bt470.2.1.toList == t425.toList && (bt470.2.2 == t426))))) else (some false))) = some r := H
           have A50 := Aside0.mk A500
           clear A500
           replace H := Option.bind_eq_some_iff.mp H
           obtain ⟨⟨t467, t468, t469⟩, A510, H⟩ := H
           replace H : (if (t464 == t467 && (t465.toList == t468.toList && (t466 == t469))) = true then ((round_At.f kj10 t420 t421 t422 (-50) a1).bind fun bt470 => (some (bt470.1 == t424 && (bt470.2.1.toList == t425.toList && (bt470.2.2 == t426))))) else (some false)) = some r := H
           have A51 := Aside0.mk A510
           clear A510
           by_cases c52 : (t464 == t467 && (t465.toList == t468.toList && (t466 == t469))) = true
           ·rw [if_pos c52] at H
            have c52b0 : (t464 == t467 && (t465.toList == t468.toList && (t466 == t469))) = true := c52
            (try (have c52b1 : decide (t464 = t467 && (t465.toList == t468.toList && (t466 == t469))) = true := by simpa using c52))
            (try (have c52b2 : (t464 == t467 && (t465.toList == t468.toList && (t466 == t469))) = true := by simpa using c52))
            clear c52
            replace H := Option.bind_eq_some_iff.mp H
            obtain ⟨⟨t470, t471, t472⟩, A530, H⟩ := H
            replace H : (some (t470 == t424 && (t471.toList == t425.toList && (t472 == t426)))) = some r := H
            have A53 := Aside0.mk A530
            clear A530
            obtain rfl := Option.some.inj H
            try go_wp2_with (first | ((with_reducible refine gate_callee (f := 24) rfl ?_); refine goesL_ (some 33) rfl rfl Tryd.func24 (by kernel_rfl) rfl #[.int .i64 a1] rfl (by (try simp only [List.map_toArray, List.map_cons, List.map_nil]); first | done | rfl | (simp only [List.length_drop, List.length_take]; rfl) | (have z_ : ∀ s_ : ByteArray, s_.size ≤ 9223372036854775807 → -(s_.size : Int) = wrap64 (-(s_.size : Int)) := (fun s_ h_ => by unfold wrap64; omega); rw [← z_ _ (by omega)]; rfl) | (simp only [ByteArray.size_append]; rfl)) ?_; (with_reducible refine (round_Mode_Valid.calls a1 true _ A35.out).mono ?_); rintro e w' ⟨rfl, ⟨nd, rfl⟩⟩; refine ⟨_, rfl, ?_⟩))
            (try (rw [drewN_self wc]; generalize hq_ : World.drewN wc _ = wc; have n0_ : Aside0 (wc.heap[gb417]? = some (.cells #[.bool a0_0, .slice A0_1 l0_1.length c0_1, .int .i64 a0_2] 24 (0, 0))) := ⟨by rw [← hq_]; exact (by (with_reducible repeat (first | refine blk_drewN ?_ _ | refine blk_drew ?_ | refine blk_alloc ?_ _)); exact BK417.out)⟩; have n1_ : Aside0 (wc.heap[gb423]? = some (.cells #[.bool t420, .string t421, .int .i64 t422] 30 (0, 0))) := ⟨by rw [← hq_]; exact (by (with_reducible repeat (first | refine blk_drewN ?_ _ | refine blk_drew ?_ | refine blk_alloc ?_ _)); exact BK423.out)⟩; have n2_ : Aside0 (wc.heap[gb427]? = some (.cells #[.bool t424, .string t425, .int .i64 t426] 30 (0, 0))) := ⟨by rw [← hq_]; exact (by (with_reducible repeat (first | refine blk_drewN ?_ _ | refine blk_drew ?_ | refine blk_alloc ?_ _)); exact BK427.out)⟩; have n3_ : Aside0 (wc.heap[gb431]? = some (.cells #[.bool t428, .string t429, .int .i64 t430] 30 (0, 0))) := ⟨by rw [← hq_]; exact (by (with_reducible repeat (first | refine blk_drewN ?_ _ | refine blk_drew ?_ | refine blk_alloc ?_ _)); exact BK431.out)⟩; have n4_ : Aside0 (Below w.heap.size w wc) := ⟨by rw [← hq_]; exact (bl_ HB).out⟩; clear BK417 BK423 BK427 BK431 HB hq_; have BK417 := n0_; have BK423 := n1_; have BK427 := n2_; have BK431 := n3_; have HB := n4_; clear n0_ n1_ n2_ n3_ n4_))
            replace BK417 := Aside0.mk (blk_drew BK417.out)
            replace BK423 := Aside0.mk (blk_drew BK423.out)
            replace BK427 := Aside0.mk (blk_drew BK427.out)
            replace BK431 := Aside0.mk (blk_drew BK431.out)
            replace HB := Aside0.mk (below_drew1 HB.out)
            refine start_ (n := 52) (S := fun w' => w'.cell? ⟨gb423, 0, none⟩ = some (.bool t420) ∧ w'.cell? ⟨gb423, 1, none⟩ = some (.string t421) ∧ w'.cell? ⟨gb423, 2, none⟩ = some (.int .i64 t422) ∧ w'.cell? ⟨gb427, 0, none⟩ = some (.bool t424) ∧ w'.cell? ⟨gb427, 1, none⟩ = some (.string t425) ∧ w'.cell? ⟨gb427, 2, none⟩ = some (.int .i64 t426) ∧ w'.cell? ⟨gb431, 0, none⟩ = some (.bool t428) ∧ w'.cell? ⟨gb431, 1, none⟩ = some (.string t429) ∧ w'.cell? ⟨gb431, 2, none⟩ = some (.int .i64 t430)) (ds := []) #[false, false, false, false, false, false, false, false, false, false, false, false, false, false, false, false, false, false, false, false, false, false, false, false, false, false, false, false, false, false, false, false, false, false, false, false, false, false, false, false, false, false, false, false, false, false, false, false, false, false, false, false] (by kernel_rfl) rfl rfl ⟨bc_ BK423 0, bc_ BK423 1, bc_ BK423 2, bc_ BK427 0, bc_ BK427 1, bc_ BK427 2, bc_ BK431 0, bc_ BK431 1, bc_ BK431 2⟩ (fun hHeld => ?_); refine with_tabW florinlaw03_RoundBounds.tab14 florinlaw03_RoundBounds.bits14 (fun HT_ HW_ => ?_)
            generalize wc.drew = w54 at BK417 BK423 BK427 BK431 HB hHeld ⊢
            refine pu_ 1 61 (bm_ 52 2) HT_ ?_
            refine pu_ 2 62 (bm_ 52 6) HT_ ?_
            refine pu_ 5 65 (bm_ 52 38) HT_ ?_
            refine pu_ 6 66 (bm_ 52 102) HT_ ?_
            refine tk_ 0 60 (bm_ 52 103) HT_ HW_ hHeld rfl (by rintro w' ⟨s0, s1, s2, s3, s4, s5, s6, s7, s8⟩; go_simp; with_reducible rfl) ?_
            refine tk_ 4 64 (bm_ 52 119) HT_ HW_ hHeld rfl (by rintro w' ⟨s0, s1, s2, s3, s4, s5, s6, s7, s8⟩; go_simp; with_reducible rfl) ?_
            refine one_ (i := 3) (N := some 63) (bm_ 52 127) rfl rfl (one_of HT_.out (by kernel_rfl)) (by decide) (fun K hK => ?_)
            refine gs_ Tryd.func13 #[.agg #[.bool t420, .string t421, .int .i64 t422], .int .i64 a2, .int .i64 a1] ?_
            with_reducible refine (round_At.calls kj10 t420 t421 t422 a2 a1 t443 t444 t445 _ A39.out).mono ?_
            rintro e w55 ⟨rfl, hb⟩
            refine ⟨_, rfl, ?_⟩
            replace BK417 := bb_ BK417 hb
            replace BK423 := bb_ BK423 hb
            replace BK427 := bb_ BK427 hb
            replace BK431 := bb_ BK431 hb
            replace HB := Aside0.mk (below_step (bl_ HB).out hb)
            (try clear hb)
            (try clear hb2)
            (try clear hk)
            (try clear hi)
            refine hK.out _ _ ⟨bc_ BK423 0, bc_ BK423 1, bc_ BK423 2, bc_ BK427 0, bc_ BK427 1, bc_ BK427 2, bc_ BK431 0, bc_ BK431 1, bc_ BK431 2⟩ (fun hHeld => ?_)
            clear hK K
            refine nm_ 63 ?_
            refine one_ (i := 7) (N := some 67) (bm_ 52 255) rfl rfl (one_of HT_.out (by kernel_rfl)) (by decide) (fun K hK => ?_)
            refine goes_ Tryd.func13 (by kernel_rfl) rfl #[.agg #[.bool t420, .string t421, .int .i64 t422], .int .i64 ji38, .int .i64 a1] (by rfl) rfl rfl (by (try simp only [List.map_toArray, List.map_cons, List.map_nil]); first | done | (simp only [hji38]; rfl) | rfl | (simp only [List.length_drop, List.length_take]; rfl) | (have z_ : ∀ s_ : ByteArray, s_.size ≤ 9223372036854775807 → -(s_.size : Int) = wrap64 (-(s_.size : Int)) := (fun s_ h_ => by unfold wrap64; omega); rw [← z_ _ (by omega)]; rfl) | (simp only [ByteArray.size_append]; rfl)) ?_
            with_reducible refine (round_At.calls kj10 t420 t421 t422 ji38 a1 t446 t447 t448 _ A40.out).mono ?_
            rintro e w56 ⟨rfl, hb⟩
            refine ⟨_, rfl, ?_⟩
            replace BK417 := bb_ BK417 hb
            replace BK423 := bb_ BK423 hb
            replace BK427 := bb_ BK427 hb
            replace BK431 := bb_ BK431 hb
            replace HB := Aside0.mk (below_step (bl_ HB).out hb)
            (try clear hb)
            (try clear hb2)
            (try clear hk)
            (try clear hi)
            refine hK.out _ _ ⟨bc_ BK423 0, bc_ BK423 1, bc_ BK423 2, bc_ BK427 0, bc_ BK427 1, bc_ BK427 2, bc_ BK431 0, bc_ BK431 1, bc_ BK431 2⟩ (fun hHeld => ?_)
            clear hK K
            refine nm_ 67 ?_
            refine pu_ 8 68 (bm_ 52 511) HT_ ?_
            refine pu_ 9 69 (bm_ 52 1023) HT_ ?_
            refine pu_ 11 71 (bm_ 52 3071) HT_ ?_
            refine pu_ 12 72 (bm_ 52 7167) HT_ ?_
            refine tk_ 10 70 (bm_ 52 8191) HT_ HW_ hHeld rfl (by rintro w' ⟨s0, s1, s2, s3, s4, s5, s6, s7, s8⟩; go_simp; with_reducible rfl) ?_
            refine tk_ 14 74 (bm_ 52 24575) HT_ HW_ hHeld rfl (by rintro w' ⟨s0, s1, s2, s3, s4, s5, s6, s7, s8⟩; go_simp; with_reducible rfl) ?_
            refine one_ (i := 13) (N := some 73) (bm_ 52 32767) rfl rfl (one_of HT_.out (by kernel_rfl)) (by decide) (fun K hK => ?_)
            refine gs_ Tryd.func26 #[.agg #[.bool t420, .string t421, .int .i64 t422], .agg #[.bool false, .string (⟨#[]⟩ : ByteArray), .int .i64 0], .int .i64 a1] ?_
            with_reducible refine (round_Step.calls kj10 t420 t421 t422 false (⟨#[]⟩ : ByteArray) 0 a1 t449 t450 t451 _ A42.out).mono ?_
            rintro e w57 ⟨rfl, hb⟩
            refine ⟨_, rfl, ?_⟩
            replace BK417 := bb_ BK417 hb
            replace BK423 := bb_ BK423 hb
            replace BK427 := bb_ BK427 hb
            replace BK431 := bb_ BK431 hb
            replace HB := Aside0.mk (below_step (bl_ HB).out hb)
            (try clear hb)
            (try clear hb2)
            (try clear hk)
            (try clear hi)
            refine hK.out _ _ ⟨bc_ BK423 0, bc_ BK423 1, bc_ BK423 2, bc_ BK427 0, bc_ BK427 1, bc_ BK427 2, bc_ BK431 0, bc_ BK431 1, bc_ BK431 2⟩ (fun hHeld => ?_)
            clear hK K
            refine nm_ 73 ?_
            refine pu_ 15 75 (bm_ 52 65535) HT_ ?_
            refine pu_ 16 76 (bm_ 52 131071) HT_ ?_
            refine pu_ 17 77 (bm_ 52 262143) HT_ ?_
            refine pu_ 21 81 (bm_ 52 2359295) HT_ ?_
            refine tk_ 18 78 (bm_ 52 2621439) HT_ HW_ hHeld rfl (by rintro w' ⟨s0, s1, s2, s3, s4, s5, s6, s7, s8⟩; go_simp; with_reducible rfl) ?_
            refine tk_ 19 79 (bm_ 52 3145727) HT_ HW_ hHeld rfl (by rintro w' ⟨s0, s1, s2, s3, s4, s5, s6, s7, s8⟩; go_simp; with_reducible rfl) ?_
            refine tk_ 23 83 (bm_ 52 11534335) HT_ HW_ hHeld rfl (by rintro w' ⟨s0, s1, s2, s3, s4, s5, s6, s7, s8⟩; go_simp; with_reducible rfl) ?_
            refine one_ (i := 20) (N := some 80) (bm_ 52 12582911) rfl rfl (one_of HT_.out (by kernel_rfl)) (by decide) (fun K hK => ?_)
            refine gs_ Tryd.func20 #[.agg #[.bool t428, .string t429, .int .i64 t430]] ?_
            with_reducible refine (dec_Dec_Minus.calls kj10 t428 t429 t430 t452 t453 t454 _ A44.out).mono ?_
            rintro e w58 ⟨rfl, hb⟩
            refine ⟨_, rfl, ?_⟩
            replace BK417 := bb_ BK417 hb
            replace BK423 := bb_ BK423 hb
            replace BK427 := bb_ BK427 hb
            replace BK431 := bb_ BK431 hb
            replace HB := Aside0.mk (below_step (bl_ HB).out hb)
            (try clear hb)
            (try clear hb2)
            (try clear hk)
            (try clear hi)
            refine hK.out _ _ ⟨bc_ BK423 0, bc_ BK423 1, bc_ BK423 2, bc_ BK427 0, bc_ BK427 1, bc_ BK427 2, bc_ BK431 0, bc_ BK431 1, bc_ BK431 2⟩ (fun hHeld => ?_)
            clear hK K
            refine nm_ 80 ?_
            refine one_ (i := 22) (N := some 82) (bm_ 52 16777215) rfl rfl (one_of HT_.out (by kernel_rfl)) (by decide) (fun K hK => ?_)
            refine gs_ Tryd.func26 #[.agg #[.bool t420, .string t421, .int .i64 t422], .agg #[.bool t452, .string t453, .int .i64 t454], .int .i64 a1] ?_
            with_reducible refine (round_Step.calls kj10 t420 t421 t422 t452 t453 t454 a1 t455 t456 t457 _ A45.out).mono ?_
            rintro e w59 ⟨rfl, hb⟩
            refine ⟨_, rfl, ?_⟩
            replace BK417 := bb_ BK417 hb
            replace BK423 := bb_ BK423 hb
            replace BK427 := bb_ BK427 hb
            replace BK431 := bb_ BK431 hb
            replace HB := Aside0.mk (below_step (bl_ HB).out hb)
            (try clear hb)
            (try clear hb2)
            (try clear hk)
            (try clear hi)
            refine hK.out _ _ ⟨bc_ BK423 0, bc_ BK423 1, bc_ BK423 2, bc_ BK427 0, bc_ BK427 1, bc_ BK427 2, bc_ BK431 0, bc_ BK431 1, bc_ BK431 2⟩ (fun hHeld => ?_)
            clear hK K
            refine nm_ 82 ?_
            refine pu_ 24 84 (bm_ 52 33554431) HT_ ?_
            refine pu_ 25 85 (bm_ 52 67108863) HT_ ?_
            refine pu_ 26 86 (bm_ 52 134217727) HT_ ?_
            refine pu_ 29 89 (bm_ 52 671088639) HT_ ?_
            refine tk_ 27 87 (bm_ 52 805306367) HT_ HW_ hHeld rfl (by rintro w' ⟨s0, s1, s2, s3, s4, s5, s6, s7, s8⟩; go_simp; with_reducible rfl) ?_
            refine tk_ 31 91 (bm_ 52 2952790015) HT_ HW_ hHeld rfl (by rintro w' ⟨s0, s1, s2, s3, s4, s5, s6, s7, s8⟩; go_simp; with_reducible rfl) ?_
            refine one_ (i := 28) (N := some 88) (bm_ 52 3221225471) rfl rfl (one_of HT_.out (by kernel_rfl)) (by decide) (fun K hK => ?_)
            refine gs_ Tryd.func23 #[.bool false, .string (⟨#[49, 48, 48, 48, 48, 48, 48, 48, 48, 49]⟩ : ByteArray), .int .i64 0] ?_
            with_reducible refine (dec_Made.calls kj10 false (⟨#[49, 48, 48, 48, 48, 48, 48, 48, 48, 49]⟩ : ByteArray) 0 t458 t459 t460 _ A47.out).mono ?_
            rintro e w60 ⟨rfl, hb⟩
            refine ⟨_, rfl, ?_⟩
            replace BK417 := bb_ BK417 hb
            replace BK423 := bb_ BK423 hb
            replace BK427 := bb_ BK427 hb
            replace BK431 := bb_ BK431 hb
            replace HB := Aside0.mk (below_step (bl_ HB).out hb)
            (try clear hb)
            (try clear hb2)
            (try clear hk)
            (try clear hi)
            refine hK.out _ _ ⟨bc_ BK423 0, bc_ BK423 1, bc_ BK423 2, bc_ BK427 0, bc_ BK427 1, bc_ BK427 2, bc_ BK431 0, bc_ BK431 1, bc_ BK431 2⟩ (fun hHeld => ?_)
            clear hK K
            refine nm_ 88 ?_
            refine one_ (i := 30) (N := some 90) (bm_ 52 4294967295) rfl rfl (one_of HT_.out (by kernel_rfl)) (by decide) (fun K hK => ?_)
            refine gs_ Tryd.func26 #[.agg #[.bool t420, .string t421, .int .i64 t422], .agg #[.bool t458, .string t459, .int .i64 t460], .int .i64 a1] ?_
            with_reducible refine (round_Step.calls kj10 t420 t421 t422 t458 t459 t460 a1 t461 t462 t463 _ A48.out).mono ?_
            rintro e w61 ⟨rfl, hb⟩
            refine ⟨_, rfl, ?_⟩
            replace BK417 := bb_ BK417 hb
            replace BK423 := bb_ BK423 hb
            replace BK427 := bb_ BK427 hb
            replace BK431 := bb_ BK431 hb
            replace HB := Aside0.mk (below_step (bl_ HB).out hb)
            (try clear hb)
            (try clear hb2)
            (try clear hk)
            (try clear hi)
            refine hK.out _ _ ⟨bc_ BK423 0, bc_ BK423 1, bc_ BK423 2, bc_ BK427 0, bc_ BK427 1, bc_ BK427 2, bc_ BK431 0, bc_ BK431 1, bc_ BK431 2⟩ (fun hHeld => ?_)
            clear hK K
            refine nm_ 90 ?_
            refine pu_ 32 92 (bm_ 52 8589934591) HT_ ?_
            refine pu_ 33 93 (bm_ 52 17179869183) HT_ ?_
            refine pu_ 34 94 (bm_ 52 34359738367) HT_ ?_
            refine pu_ 37 97 (bm_ 52 171798691839) HT_ ?_
            refine pu_ 40 100 (bm_ 52 1271310319615) HT_ ?_
            refine tk_ 35 95 (bm_ 52 1305670057983) HT_ HW_ hHeld rfl (by rintro w' ⟨s0, s1, s2, s3, s4, s5, s6, s7, s8⟩; go_simp; with_reducible rfl) ?_
            refine tk_ 36 96 (bm_ 52 1374389534719) HT_ HW_ hHeld rfl (by rintro w' ⟨s0, s1, s2, s3, s4, s5, s6, s7, s8⟩; go_simp; with_reducible rfl) ?_
            refine tk_ 39 99 (bm_ 52 1924145348607) HT_ HW_ hHeld rfl (by rintro w' ⟨s0, s1, s2, s3, s4, s5, s6, s7, s8⟩; go_simp; with_reducible rfl) ?_
            refine one_ (i := 38) (N := some 98) (bm_ 52 2199023255551) rfl rfl (one_of HT_.out (by kernel_rfl)) (by decide) (fun K hK => ?_)
            refine gs_ Tryd.func26 #[.agg #[.bool t420, .string t421, .int .i64 t422], .agg #[.bool t428, .string t429, .int .i64 t430], .int .i64 a1] ?_
            with_reducible refine (round_Step.calls kj10 t420 t421 t422 t428 t429 t430 a1 t464 t465 t466 _ A50.out).mono ?_
            rintro e w62 ⟨rfl, hb⟩
            refine ⟨_, rfl, ?_⟩
            replace BK417 := bb_ BK417 hb
            replace BK423 := bb_ BK423 hb
            replace BK427 := bb_ BK427 hb
            replace BK431 := bb_ BK431 hb
            replace HB := Aside0.mk (below_step (bl_ HB).out hb)
            (try clear hb)
            (try clear hb2)
            (try clear hk)
            (try clear hi)
            refine hK.out _ _ ⟨bc_ BK423 0, bc_ BK423 1, bc_ BK423 2, bc_ BK427 0, bc_ BK427 1, bc_ BK427 2, bc_ BK431 0, bc_ BK431 1, bc_ BK431 2⟩ (fun hHeld => ?_)
            clear hK K
            refine nm_ 98 ?_
            refine one_ (i := 41) (N := some 101) (bm_ 52 4398046511103) rfl rfl (one_of HT_.out (by kernel_rfl)) (by decide) (fun K hK => ?_)
            refine gs_ Tryd.func13 #[.agg #[.bool t420, .string t421, .int .i64 t422], .int .i64 0, .int .i64 a1] ?_
            with_reducible refine (round_At.calls kj10 t420 t421 t422 0 a1 t467 t468 t469 _ A51.out).mono ?_
            rintro e w63 ⟨rfl, hb⟩
            refine ⟨_, rfl, ?_⟩
            replace BK417 := bb_ BK417 hb
            replace BK423 := bb_ BK423 hb
            replace BK427 := bb_ BK427 hb
            replace BK431 := bb_ BK431 hb
            replace HB := Aside0.mk (below_step (bl_ HB).out hb)
            (try clear hb)
            (try clear hb2)
            (try clear hk)
            (try clear hi)
            refine hK.out _ _ ⟨bc_ BK423 0, bc_ BK423 1, bc_ BK423 2, bc_ BK427 0, bc_ BK427 1, bc_ BK427 2, bc_ BK431 0, bc_ BK431 1, bc_ BK431 2⟩ (fun hHeld => ?_)
            clear hK K
            refine nm_ 101 ?_
            refine pu_ 42 102 (bm_ 52 8796093022207) HT_ ?_
            refine pu_ 43 103 (bm_ 52 17592186044415) HT_ ?_
            refine pu_ 44 104 (bm_ 52 35184372088831) HT_ ?_
            refine pu_ 46 106 (bm_ 52 105553116266495) HT_ ?_
            refine tk_ 45 105 (bm_ 52 140737488355327) HT_ HW_ hHeld rfl (by rintro w' ⟨s0, s1, s2, s3, s4, s5, s6, s7, s8⟩; go_simp; with_reducible rfl) ?_
            refine tk_ 48 108 (bm_ 52 422212465065983) HT_ HW_ hHeld rfl (by rintro w' ⟨s0, s1, s2, s3, s4, s5, s6, s7, s8⟩; go_simp; with_reducible rfl) ?_
            refine one_ (i := 47) (N := some 107) (bm_ 52 562949953421311) rfl rfl (one_of HT_.out (by kernel_rfl)) (by decide) (fun K hK => ?_)
            refine gs_ Tryd.func13 #[.agg #[.bool t420, .string t421, .int .i64 t422], .int .i64 (-50), .int .i64 a1] ?_
            with_reducible refine (round_At.calls kj10 t420 t421 t422 (-50) a1 t470 t471 t472 _ A53.out).mono ?_
            rintro e w64 ⟨rfl, hb⟩
            refine ⟨_, rfl, ?_⟩
            replace BK417 := bb_ BK417 hb
            replace BK423 := bb_ BK423 hb
            replace BK427 := bb_ BK427 hb
            replace BK431 := bb_ BK431 hb
            replace HB := Aside0.mk (below_step (bl_ HB).out hb)
            (try clear hb)
            (try clear hb2)
            (try clear hk)
            (try clear hi)
            refine hK.out _ _ ⟨bc_ BK423 0, bc_ BK423 1, bc_ BK423 2, bc_ BK427 0, bc_ BK427 1, bc_ BK427 2, bc_ BK431 0, bc_ BK431 1, bc_ BK431 2⟩ (fun hHeld => ?_)
            clear hK K
            refine nm_ 107 ?_
            refine pu_ 49 109 (bm_ 52 1125899906842623) HT_ ?_
            refine pu_ 50 110 (bm_ 52 2251799813685247) HT_ ?_
            refine pu_ 51 6 (bm_ 52 4503599627370495) HT_ ?_
            refine done_ (done_of HT_.out (by kernel_rfl)) ?_
            try go_wp2
            go_ret
            exact ⟨by first | rfl | (simp [errW_none, errW_some] <;> rfl) | (simp only [← hji37, ← hji38]; first | rfl | (simp [errW_none, errW_some] <;> rfl)) | (simp [*, errW_none, errW_some] <;> first | rfl | exact given_isEmpty _ | exact (given_isEmpty _).symm), by repeat (first | (with_reducible first | exact HB.out | apply below_alloc | apply pw_below_drewN | apply below_drew1 | refine below_set ?_ GE417.out | refine below_set ?_ GE423.out | refine below_set ?_ GE427.out | refine below_set ?_ GE431.out) | exact HB.out)⟩
           ·rw [if_neg c52] at H
            have c52b0 : (t464 == t467 && (t465.toList == t468.toList && (t466 == t469))) = false := by simpa using c52
            (try (have c52b1 : decide (t464 = t467 && (t465.toList == t468.toList && (t466 == t469))) = false := by simpa using c52))
            (try (have c52b2 : (t464 == t467 && (t465.toList == t468.toList && (t466 == t469))) = false := by simpa using c52))
            (try (have c52b3 : ¬ (t464 = t467 && (t465.toList == t468.toList && (t466 == t469))) := by simpa using c52))
            clear c52
            obtain rfl := Option.some.inj H
            try go_wp2_with (first | ((with_reducible refine gate_callee (f := 24) rfl ?_); refine goesL_ (some 33) rfl rfl Tryd.func24 (by kernel_rfl) rfl #[.int .i64 a1] rfl (by (try simp only [List.map_toArray, List.map_cons, List.map_nil]); first | done | rfl | (simp only [List.length_drop, List.length_take]; rfl) | (have z_ : ∀ s_ : ByteArray, s_.size ≤ 9223372036854775807 → -(s_.size : Int) = wrap64 (-(s_.size : Int)) := (fun s_ h_ => by unfold wrap64; omega); rw [← z_ _ (by omega)]; rfl) | (simp only [ByteArray.size_append]; rfl)) ?_; (with_reducible refine (round_Mode_Valid.calls a1 true _ A35.out).mono ?_); rintro e w' ⟨rfl, ⟨nd, rfl⟩⟩; refine ⟨_, rfl, ?_⟩))
            (try (rw [drewN_self wc]; generalize hq_ : World.drewN wc _ = wc; have n0_ : Aside0 (wc.heap[gb417]? = some (.cells #[.bool a0_0, .slice A0_1 l0_1.length c0_1, .int .i64 a0_2] 24 (0, 0))) := ⟨by rw [← hq_]; exact (by (with_reducible repeat (first | refine blk_drewN ?_ _ | refine blk_drew ?_ | refine blk_alloc ?_ _)); exact BK417.out)⟩; have n1_ : Aside0 (wc.heap[gb423]? = some (.cells #[.bool t420, .string t421, .int .i64 t422] 30 (0, 0))) := ⟨by rw [← hq_]; exact (by (with_reducible repeat (first | refine blk_drewN ?_ _ | refine blk_drew ?_ | refine blk_alloc ?_ _)); exact BK423.out)⟩; have n2_ : Aside0 (wc.heap[gb427]? = some (.cells #[.bool t424, .string t425, .int .i64 t426] 30 (0, 0))) := ⟨by rw [← hq_]; exact (by (with_reducible repeat (first | refine blk_drewN ?_ _ | refine blk_drew ?_ | refine blk_alloc ?_ _)); exact BK427.out)⟩; have n3_ : Aside0 (wc.heap[gb431]? = some (.cells #[.bool t428, .string t429, .int .i64 t430] 30 (0, 0))) := ⟨by rw [← hq_]; exact (by (with_reducible repeat (first | refine blk_drewN ?_ _ | refine blk_drew ?_ | refine blk_alloc ?_ _)); exact BK431.out)⟩; have n4_ : Aside0 (Below w.heap.size w wc) := ⟨by rw [← hq_]; exact (bl_ HB).out⟩; clear BK417 BK423 BK427 BK431 HB hq_; have BK417 := n0_; have BK423 := n1_; have BK427 := n2_; have BK431 := n3_; have HB := n4_; clear n0_ n1_ n2_ n3_ n4_))
            replace BK417 := Aside0.mk (blk_drew BK417.out)
            replace BK423 := Aside0.mk (blk_drew BK423.out)
            replace BK427 := Aside0.mk (blk_drew BK427.out)
            replace BK431 := Aside0.mk (blk_drew BK431.out)
            replace HB := Aside0.mk (below_drew1 HB.out)
            refine start_ (n := 52) (S := fun w' => w'.cell? ⟨gb423, 0, none⟩ = some (.bool t420) ∧ w'.cell? ⟨gb423, 1, none⟩ = some (.string t421) ∧ w'.cell? ⟨gb423, 2, none⟩ = some (.int .i64 t422) ∧ w'.cell? ⟨gb427, 0, none⟩ = some (.bool t424) ∧ w'.cell? ⟨gb427, 1, none⟩ = some (.string t425) ∧ w'.cell? ⟨gb427, 2, none⟩ = some (.int .i64 t426) ∧ w'.cell? ⟨gb431, 0, none⟩ = some (.bool t428) ∧ w'.cell? ⟨gb431, 1, none⟩ = some (.string t429) ∧ w'.cell? ⟨gb431, 2, none⟩ = some (.int .i64 t430)) (ds := []) #[false, false, false, false, false, false, false, false, false, false, false, false, false, false, false, false, false, false, false, false, false, false, false, false, false, false, false, false, false, false, false, false, false, false, false, false, false, false, false, false, false, false, false, false, false, false, false, false, false, false, false, false] (by kernel_rfl) rfl rfl ⟨bc_ BK423 0, bc_ BK423 1, bc_ BK423 2, bc_ BK427 0, bc_ BK427 1, bc_ BK427 2, bc_ BK431 0, bc_ BK431 1, bc_ BK431 2⟩ (fun hHeld => ?_); refine with_tabW florinlaw03_RoundBounds.tab14 florinlaw03_RoundBounds.bits14 (fun HT_ HW_ => ?_)
            generalize wc.drew = w65 at BK417 BK423 BK427 BK431 HB hHeld ⊢
            refine pu_ 1 61 (bm_ 52 2) HT_ ?_
            refine pu_ 2 62 (bm_ 52 6) HT_ ?_
            refine pu_ 5 65 (bm_ 52 38) HT_ ?_
            refine pu_ 6 66 (bm_ 52 102) HT_ ?_
            refine tk_ 0 60 (bm_ 52 103) HT_ HW_ hHeld rfl (by rintro w' ⟨s0, s1, s2, s3, s4, s5, s6, s7, s8⟩; go_simp; with_reducible rfl) ?_
            refine tk_ 4 64 (bm_ 52 119) HT_ HW_ hHeld rfl (by rintro w' ⟨s0, s1, s2, s3, s4, s5, s6, s7, s8⟩; go_simp; with_reducible rfl) ?_
            refine one_ (i := 3) (N := some 63) (bm_ 52 127) rfl rfl (one_of HT_.out (by kernel_rfl)) (by decide) (fun K hK => ?_)
            refine gs_ Tryd.func13 #[.agg #[.bool t420, .string t421, .int .i64 t422], .int .i64 a2, .int .i64 a1] ?_
            with_reducible refine (round_At.calls kj10 t420 t421 t422 a2 a1 t443 t444 t445 _ A39.out).mono ?_
            rintro e w66 ⟨rfl, hb⟩
            refine ⟨_, rfl, ?_⟩
            replace BK417 := bb_ BK417 hb
            replace BK423 := bb_ BK423 hb
            replace BK427 := bb_ BK427 hb
            replace BK431 := bb_ BK431 hb
            replace HB := Aside0.mk (below_step (bl_ HB).out hb)
            (try clear hb)
            (try clear hb2)
            (try clear hk)
            (try clear hi)
            refine hK.out _ _ ⟨bc_ BK423 0, bc_ BK423 1, bc_ BK423 2, bc_ BK427 0, bc_ BK427 1, bc_ BK427 2, bc_ BK431 0, bc_ BK431 1, bc_ BK431 2⟩ (fun hHeld => ?_)
            clear hK K
            refine nm_ 63 ?_
            refine one_ (i := 7) (N := some 67) (bm_ 52 255) rfl rfl (one_of HT_.out (by kernel_rfl)) (by decide) (fun K hK => ?_)
            refine goes_ Tryd.func13 (by kernel_rfl) rfl #[.agg #[.bool t420, .string t421, .int .i64 t422], .int .i64 ji38, .int .i64 a1] (by rfl) rfl rfl (by (try simp only [List.map_toArray, List.map_cons, List.map_nil]); first | done | (simp only [hji38]; rfl) | rfl | (simp only [List.length_drop, List.length_take]; rfl) | (have z_ : ∀ s_ : ByteArray, s_.size ≤ 9223372036854775807 → -(s_.size : Int) = wrap64 (-(s_.size : Int)) := (fun s_ h_ => by unfold wrap64; omega); rw [← z_ _ (by omega)]; rfl) | (simp only [ByteArray.size_append]; rfl)) ?_
            with_reducible refine (round_At.calls kj10 t420 t421 t422 ji38 a1 t446 t447 t448 _ A40.out).mono ?_
            rintro e w67 ⟨rfl, hb⟩
            refine ⟨_, rfl, ?_⟩
            replace BK417 := bb_ BK417 hb
            replace BK423 := bb_ BK423 hb
            replace BK427 := bb_ BK427 hb
            replace BK431 := bb_ BK431 hb
            replace HB := Aside0.mk (below_step (bl_ HB).out hb)
            (try clear hb)
            (try clear hb2)
            (try clear hk)
            (try clear hi)
            refine hK.out _ _ ⟨bc_ BK423 0, bc_ BK423 1, bc_ BK423 2, bc_ BK427 0, bc_ BK427 1, bc_ BK427 2, bc_ BK431 0, bc_ BK431 1, bc_ BK431 2⟩ (fun hHeld => ?_)
            clear hK K
            refine nm_ 67 ?_
            refine pu_ 8 68 (bm_ 52 511) HT_ ?_
            refine pu_ 9 69 (bm_ 52 1023) HT_ ?_
            refine pu_ 11 71 (bm_ 52 3071) HT_ ?_
            refine pu_ 12 72 (bm_ 52 7167) HT_ ?_
            refine tk_ 10 70 (bm_ 52 8191) HT_ HW_ hHeld rfl (by rintro w' ⟨s0, s1, s2, s3, s4, s5, s6, s7, s8⟩; go_simp; with_reducible rfl) ?_
            refine tk_ 14 74 (bm_ 52 24575) HT_ HW_ hHeld rfl (by rintro w' ⟨s0, s1, s2, s3, s4, s5, s6, s7, s8⟩; go_simp; with_reducible rfl) ?_
            refine one_ (i := 13) (N := some 73) (bm_ 52 32767) rfl rfl (one_of HT_.out (by kernel_rfl)) (by decide) (fun K hK => ?_)
            refine gs_ Tryd.func26 #[.agg #[.bool t420, .string t421, .int .i64 t422], .agg #[.bool false, .string (⟨#[]⟩ : ByteArray), .int .i64 0], .int .i64 a1] ?_
            with_reducible refine (round_Step.calls kj10 t420 t421 t422 false (⟨#[]⟩ : ByteArray) 0 a1 t449 t450 t451 _ A42.out).mono ?_
            rintro e w68 ⟨rfl, hb⟩
            refine ⟨_, rfl, ?_⟩
            replace BK417 := bb_ BK417 hb
            replace BK423 := bb_ BK423 hb
            replace BK427 := bb_ BK427 hb
            replace BK431 := bb_ BK431 hb
            replace HB := Aside0.mk (below_step (bl_ HB).out hb)
            (try clear hb)
            (try clear hb2)
            (try clear hk)
            (try clear hi)
            refine hK.out _ _ ⟨bc_ BK423 0, bc_ BK423 1, bc_ BK423 2, bc_ BK427 0, bc_ BK427 1, bc_ BK427 2, bc_ BK431 0, bc_ BK431 1, bc_ BK431 2⟩ (fun hHeld => ?_)
            clear hK K
            refine nm_ 73 ?_
            refine pu_ 15 75 (bm_ 52 65535) HT_ ?_
            refine pu_ 16 76 (bm_ 52 131071) HT_ ?_
            refine pu_ 17 77 (bm_ 52 262143) HT_ ?_
            refine pu_ 21 81 (bm_ 52 2359295) HT_ ?_
            refine tk_ 18 78 (bm_ 52 2621439) HT_ HW_ hHeld rfl (by rintro w' ⟨s0, s1, s2, s3, s4, s5, s6, s7, s8⟩; go_simp; with_reducible rfl) ?_
            refine tk_ 19 79 (bm_ 52 3145727) HT_ HW_ hHeld rfl (by rintro w' ⟨s0, s1, s2, s3, s4, s5, s6, s7, s8⟩; go_simp; with_reducible rfl) ?_
            refine tk_ 23 83 (bm_ 52 11534335) HT_ HW_ hHeld rfl (by rintro w' ⟨s0, s1, s2, s3, s4, s5, s6, s7, s8⟩; go_simp; with_reducible rfl) ?_
            refine one_ (i := 20) (N := some 80) (bm_ 52 12582911) rfl rfl (one_of HT_.out (by kernel_rfl)) (by decide) (fun K hK => ?_)
            refine gs_ Tryd.func20 #[.agg #[.bool t428, .string t429, .int .i64 t430]] ?_
            with_reducible refine (dec_Dec_Minus.calls kj10 t428 t429 t430 t452 t453 t454 _ A44.out).mono ?_
            rintro e w69 ⟨rfl, hb⟩
            refine ⟨_, rfl, ?_⟩
            replace BK417 := bb_ BK417 hb
            replace BK423 := bb_ BK423 hb
            replace BK427 := bb_ BK427 hb
            replace BK431 := bb_ BK431 hb
            replace HB := Aside0.mk (below_step (bl_ HB).out hb)
            (try clear hb)
            (try clear hb2)
            (try clear hk)
            (try clear hi)
            refine hK.out _ _ ⟨bc_ BK423 0, bc_ BK423 1, bc_ BK423 2, bc_ BK427 0, bc_ BK427 1, bc_ BK427 2, bc_ BK431 0, bc_ BK431 1, bc_ BK431 2⟩ (fun hHeld => ?_)
            clear hK K
            refine nm_ 80 ?_
            refine one_ (i := 22) (N := some 82) (bm_ 52 16777215) rfl rfl (one_of HT_.out (by kernel_rfl)) (by decide) (fun K hK => ?_)
            refine gs_ Tryd.func26 #[.agg #[.bool t420, .string t421, .int .i64 t422], .agg #[.bool t452, .string t453, .int .i64 t454], .int .i64 a1] ?_
            with_reducible refine (round_Step.calls kj10 t420 t421 t422 t452 t453 t454 a1 t455 t456 t457 _ A45.out).mono ?_
            rintro e w70 ⟨rfl, hb⟩
            refine ⟨_, rfl, ?_⟩
            replace BK417 := bb_ BK417 hb
            replace BK423 := bb_ BK423 hb
            replace BK427 := bb_ BK427 hb
            replace BK431 := bb_ BK431 hb
            replace HB := Aside0.mk (below_step (bl_ HB).out hb)
            (try clear hb)
            (try clear hb2)
            (try clear hk)
            (try clear hi)
            refine hK.out _ _ ⟨bc_ BK423 0, bc_ BK423 1, bc_ BK423 2, bc_ BK427 0, bc_ BK427 1, bc_ BK427 2, bc_ BK431 0, bc_ BK431 1, bc_ BK431 2⟩ (fun hHeld => ?_)
            clear hK K
            refine nm_ 82 ?_
            refine pu_ 24 84 (bm_ 52 33554431) HT_ ?_
            refine pu_ 25 85 (bm_ 52 67108863) HT_ ?_
            refine pu_ 26 86 (bm_ 52 134217727) HT_ ?_
            refine pu_ 29 89 (bm_ 52 671088639) HT_ ?_
            refine tk_ 27 87 (bm_ 52 805306367) HT_ HW_ hHeld rfl (by rintro w' ⟨s0, s1, s2, s3, s4, s5, s6, s7, s8⟩; go_simp; with_reducible rfl) ?_
            refine tk_ 31 91 (bm_ 52 2952790015) HT_ HW_ hHeld rfl (by rintro w' ⟨s0, s1, s2, s3, s4, s5, s6, s7, s8⟩; go_simp; with_reducible rfl) ?_
            refine one_ (i := 28) (N := some 88) (bm_ 52 3221225471) rfl rfl (one_of HT_.out (by kernel_rfl)) (by decide) (fun K hK => ?_)
            refine gs_ Tryd.func23 #[.bool false, .string (⟨#[49, 48, 48, 48, 48, 48, 48, 48, 48, 49]⟩ : ByteArray), .int .i64 0] ?_
            with_reducible refine (dec_Made.calls kj10 false (⟨#[49, 48, 48, 48, 48, 48, 48, 48, 48, 49]⟩ : ByteArray) 0 t458 t459 t460 _ A47.out).mono ?_
            rintro e w71 ⟨rfl, hb⟩
            refine ⟨_, rfl, ?_⟩
            replace BK417 := bb_ BK417 hb
            replace BK423 := bb_ BK423 hb
            replace BK427 := bb_ BK427 hb
            replace BK431 := bb_ BK431 hb
            replace HB := Aside0.mk (below_step (bl_ HB).out hb)
            (try clear hb)
            (try clear hb2)
            (try clear hk)
            (try clear hi)
            refine hK.out _ _ ⟨bc_ BK423 0, bc_ BK423 1, bc_ BK423 2, bc_ BK427 0, bc_ BK427 1, bc_ BK427 2, bc_ BK431 0, bc_ BK431 1, bc_ BK431 2⟩ (fun hHeld => ?_)
            clear hK K
            refine nm_ 88 ?_
            refine one_ (i := 30) (N := some 90) (bm_ 52 4294967295) rfl rfl (one_of HT_.out (by kernel_rfl)) (by decide) (fun K hK => ?_)
            refine gs_ Tryd.func26 #[.agg #[.bool t420, .string t421, .int .i64 t422], .agg #[.bool t458, .string t459, .int .i64 t460], .int .i64 a1] ?_
            with_reducible refine (round_Step.calls kj10 t420 t421 t422 t458 t459 t460 a1 t461 t462 t463 _ A48.out).mono ?_
            rintro e w72 ⟨rfl, hb⟩
            refine ⟨_, rfl, ?_⟩
            replace BK417 := bb_ BK417 hb
            replace BK423 := bb_ BK423 hb
            replace BK427 := bb_ BK427 hb
            replace BK431 := bb_ BK431 hb
            replace HB := Aside0.mk (below_step (bl_ HB).out hb)
            (try clear hb)
            (try clear hb2)
            (try clear hk)
            (try clear hi)
            refine hK.out _ _ ⟨bc_ BK423 0, bc_ BK423 1, bc_ BK423 2, bc_ BK427 0, bc_ BK427 1, bc_ BK427 2, bc_ BK431 0, bc_ BK431 1, bc_ BK431 2⟩ (fun hHeld => ?_)
            clear hK K
            refine nm_ 90 ?_
            refine pu_ 32 92 (bm_ 52 8589934591) HT_ ?_
            refine pu_ 33 93 (bm_ 52 17179869183) HT_ ?_
            refine pu_ 34 94 (bm_ 52 34359738367) HT_ ?_
            refine pu_ 37 97 (bm_ 52 171798691839) HT_ ?_
            refine pu_ 40 100 (bm_ 52 1271310319615) HT_ ?_
            refine tk_ 35 95 (bm_ 52 1305670057983) HT_ HW_ hHeld rfl (by rintro w' ⟨s0, s1, s2, s3, s4, s5, s6, s7, s8⟩; go_simp; with_reducible rfl) ?_
            refine tk_ 36 96 (bm_ 52 1374389534719) HT_ HW_ hHeld rfl (by rintro w' ⟨s0, s1, s2, s3, s4, s5, s6, s7, s8⟩; go_simp; with_reducible rfl) ?_
            refine tk_ 39 99 (bm_ 52 1924145348607) HT_ HW_ hHeld rfl (by rintro w' ⟨s0, s1, s2, s3, s4, s5, s6, s7, s8⟩; go_simp; with_reducible rfl) ?_
            refine one_ (i := 38) (N := some 98) (bm_ 52 2199023255551) rfl rfl (one_of HT_.out (by kernel_rfl)) (by decide) (fun K hK => ?_)
            refine gs_ Tryd.func26 #[.agg #[.bool t420, .string t421, .int .i64 t422], .agg #[.bool t428, .string t429, .int .i64 t430], .int .i64 a1] ?_
            with_reducible refine (round_Step.calls kj10 t420 t421 t422 t428 t429 t430 a1 t464 t465 t466 _ A50.out).mono ?_
            rintro e w73 ⟨rfl, hb⟩
            refine ⟨_, rfl, ?_⟩
            replace BK417 := bb_ BK417 hb
            replace BK423 := bb_ BK423 hb
            replace BK427 := bb_ BK427 hb
            replace BK431 := bb_ BK431 hb
            replace HB := Aside0.mk (below_step (bl_ HB).out hb)
            (try clear hb)
            (try clear hb2)
            (try clear hk)
            (try clear hi)
            refine hK.out _ _ ⟨bc_ BK423 0, bc_ BK423 1, bc_ BK423 2, bc_ BK427 0, bc_ BK427 1, bc_ BK427 2, bc_ BK431 0, bc_ BK431 1, bc_ BK431 2⟩ (fun hHeld => ?_)
            clear hK K
            refine nm_ 98 ?_
            refine one_ (i := 41) (N := some 101) (bm_ 52 4398046511103) rfl rfl (one_of HT_.out (by kernel_rfl)) (by decide) (fun K hK => ?_)
            refine gs_ Tryd.func13 #[.agg #[.bool t420, .string t421, .int .i64 t422], .int .i64 0, .int .i64 a1] ?_
            with_reducible refine (round_At.calls kj10 t420 t421 t422 0 a1 t467 t468 t469 _ A51.out).mono ?_
            rintro e w74 ⟨rfl, hb⟩
            refine ⟨_, rfl, ?_⟩
            replace BK417 := bb_ BK417 hb
            replace BK423 := bb_ BK423 hb
            replace BK427 := bb_ BK427 hb
            replace BK431 := bb_ BK431 hb
            replace HB := Aside0.mk (below_step (bl_ HB).out hb)
            (try clear hb)
            (try clear hb2)
            (try clear hk)
            (try clear hi)
            refine hK.out _ _ ⟨bc_ BK423 0, bc_ BK423 1, bc_ BK423 2, bc_ BK427 0, bc_ BK427 1, bc_ BK427 2, bc_ BK431 0, bc_ BK431 1, bc_ BK431 2⟩ (fun hHeld => ?_)
            clear hK K
            refine nm_ 101 ?_
            refine pu_ 42 102 (bm_ 52 8796093022207) HT_ ?_
            refine pu_ 43 103 (bm_ 52 17592186044415) HT_ ?_
            refine pu_ 44 104 (bm_ 52 35184372088831) HT_ ?_
            refine pn_ 45 105 (bm_ 52 70368744177663) HT_ ?_
            refine pn_ 46 106 (bm_ 52 140737488355327) HT_ ?_
            refine pn_ 47 107 (bm_ 52 281474976710655) HT_ ?_
            refine pn_ 48 108 (bm_ 52 562949953421311) HT_ ?_
            refine pn_ 49 109 (bm_ 52 1125899906842623) HT_ ?_
            refine pu_ 50 110 (bm_ 52 2251799813685247) HT_ ?_
            refine pu_ 51 6 (bm_ 52 4503599627370495) HT_ ?_
            refine done_ (done_of HT_.out (by kernel_rfl)) ?_
            try go_wp2
            go_ret
            exact ⟨by first | rfl | (simp [errW_none, errW_some] <;> rfl) | (simp only [← hji37, ← hji38]; first | rfl | (simp [errW_none, errW_some] <;> rfl)) | (simp [*, errW_none, errW_some] <;> first | rfl | exact given_isEmpty _ | exact (given_isEmpty _).symm), by repeat (first | (with_reducible first | exact HB.out | apply below_alloc | apply pw_below_drewN | apply below_drew1 | refine below_set ?_ GE417.out | refine below_set ?_ GE423.out | refine below_set ?_ GE427.out | refine below_set ?_ GE431.out) | exact HB.out)⟩
          ·rw [if_neg c49] at H
           have c49b0 : (t461 == t424 && (t462.toList == t425.toList && (t463 == t426))) = false := by simpa using c49
           (try (have c49b1 : decide (t461 = t424 && (t462.toList == t425.toList && (t463 == t426))) = false := by simpa using c49))
           (try (have c49b2 : (t461 == t424 && (t462.toList == t425.toList && (t463 == t426))) = false := by simpa using c49))
           (try (have c49b3 : ¬ (t461 = t424 && (t462.toList == t425.toList && (t463 == t426))) := by simpa using c49))
           clear c49
           obtain rfl := Option.some.inj H
           try go_wp2_with (first | ((with_reducible refine gate_callee (f := 24) rfl ?_); refine goesL_ (some 33) rfl rfl Tryd.func24 (by kernel_rfl) rfl #[.int .i64 a1] rfl (by (try simp only [List.map_toArray, List.map_cons, List.map_nil]); first | done | rfl | (simp only [List.length_drop, List.length_take]; rfl) | (have z_ : ∀ s_ : ByteArray, s_.size ≤ 9223372036854775807 → -(s_.size : Int) = wrap64 (-(s_.size : Int)) := (fun s_ h_ => by unfold wrap64; omega); rw [← z_ _ (by omega)]; rfl) | (simp only [ByteArray.size_append]; rfl)) ?_; (with_reducible refine (round_Mode_Valid.calls a1 true _ A35.out).mono ?_); rintro e w' ⟨rfl, ⟨nd, rfl⟩⟩; refine ⟨_, rfl, ?_⟩))
           (try (rw [drewN_self wc]; generalize hq_ : World.drewN wc _ = wc; have n0_ : Aside0 (wc.heap[gb417]? = some (.cells #[.bool a0_0, .slice A0_1 l0_1.length c0_1, .int .i64 a0_2] 24 (0, 0))) := ⟨by rw [← hq_]; exact (by (with_reducible repeat (first | refine blk_drewN ?_ _ | refine blk_drew ?_ | refine blk_alloc ?_ _)); exact BK417.out)⟩; have n1_ : Aside0 (wc.heap[gb423]? = some (.cells #[.bool t420, .string t421, .int .i64 t422] 30 (0, 0))) := ⟨by rw [← hq_]; exact (by (with_reducible repeat (first | refine blk_drewN ?_ _ | refine blk_drew ?_ | refine blk_alloc ?_ _)); exact BK423.out)⟩; have n2_ : Aside0 (wc.heap[gb427]? = some (.cells #[.bool t424, .string t425, .int .i64 t426] 30 (0, 0))) := ⟨by rw [← hq_]; exact (by (with_reducible repeat (first | refine blk_drewN ?_ _ | refine blk_drew ?_ | refine blk_alloc ?_ _)); exact BK427.out)⟩; have n3_ : Aside0 (wc.heap[gb431]? = some (.cells #[.bool t428, .string t429, .int .i64 t430] 30 (0, 0))) := ⟨by rw [← hq_]; exact (by (with_reducible repeat (first | refine blk_drewN ?_ _ | refine blk_drew ?_ | refine blk_alloc ?_ _)); exact BK431.out)⟩; have n4_ : Aside0 (Below w.heap.size w wc) := ⟨by rw [← hq_]; exact (bl_ HB).out⟩; clear BK417 BK423 BK427 BK431 HB hq_; have BK417 := n0_; have BK423 := n1_; have BK427 := n2_; have BK431 := n3_; have HB := n4_; clear n0_ n1_ n2_ n3_ n4_))
           replace BK417 := Aside0.mk (blk_drew BK417.out)
           replace BK423 := Aside0.mk (blk_drew BK423.out)
           replace BK427 := Aside0.mk (blk_drew BK427.out)
           replace BK431 := Aside0.mk (blk_drew BK431.out)
           replace HB := Aside0.mk (below_drew1 HB.out)
           refine start_ (n := 52) (S := fun w' => w'.cell? ⟨gb423, 0, none⟩ = some (.bool t420) ∧ w'.cell? ⟨gb423, 1, none⟩ = some (.string t421) ∧ w'.cell? ⟨gb423, 2, none⟩ = some (.int .i64 t422) ∧ w'.cell? ⟨gb427, 0, none⟩ = some (.bool t424) ∧ w'.cell? ⟨gb427, 1, none⟩ = some (.string t425) ∧ w'.cell? ⟨gb427, 2, none⟩ = some (.int .i64 t426) ∧ w'.cell? ⟨gb431, 0, none⟩ = some (.bool t428) ∧ w'.cell? ⟨gb431, 1, none⟩ = some (.string t429) ∧ w'.cell? ⟨gb431, 2, none⟩ = some (.int .i64 t430)) (ds := []) #[false, false, false, false, false, false, false, false, false, false, false, false, false, false, false, false, false, false, false, false, false, false, false, false, false, false, false, false, false, false, false, false, false, false, false, false, false, false, false, false, false, false, false, false, false, false, false, false, false, false, false, false] (by kernel_rfl) rfl rfl ⟨bc_ BK423 0, bc_ BK423 1, bc_ BK423 2, bc_ BK427 0, bc_ BK427 1, bc_ BK427 2, bc_ BK431 0, bc_ BK431 1, bc_ BK431 2⟩ (fun hHeld => ?_); refine with_tabW florinlaw03_RoundBounds.tab14 florinlaw03_RoundBounds.bits14 (fun HT_ HW_ => ?_)
           generalize wc.drew = w75 at BK417 BK423 BK427 BK431 HB hHeld ⊢
           refine pu_ 1 61 (bm_ 52 2) HT_ ?_
           refine pu_ 2 62 (bm_ 52 6) HT_ ?_
           refine pu_ 5 65 (bm_ 52 38) HT_ ?_
           refine pu_ 6 66 (bm_ 52 102) HT_ ?_
           refine tk_ 0 60 (bm_ 52 103) HT_ HW_ hHeld rfl (by rintro w' ⟨s0, s1, s2, s3, s4, s5, s6, s7, s8⟩; go_simp; with_reducible rfl) ?_
           refine tk_ 4 64 (bm_ 52 119) HT_ HW_ hHeld rfl (by rintro w' ⟨s0, s1, s2, s3, s4, s5, s6, s7, s8⟩; go_simp; with_reducible rfl) ?_
           refine one_ (i := 3) (N := some 63) (bm_ 52 127) rfl rfl (one_of HT_.out (by kernel_rfl)) (by decide) (fun K hK => ?_)
           refine gs_ Tryd.func13 #[.agg #[.bool t420, .string t421, .int .i64 t422], .int .i64 a2, .int .i64 a1] ?_
           with_reducible refine (round_At.calls kj10 t420 t421 t422 a2 a1 t443 t444 t445 _ A39.out).mono ?_
           rintro e w76 ⟨rfl, hb⟩
           refine ⟨_, rfl, ?_⟩
           replace BK417 := bb_ BK417 hb
           replace BK423 := bb_ BK423 hb
           replace BK427 := bb_ BK427 hb
           replace BK431 := bb_ BK431 hb
           replace HB := Aside0.mk (below_step (bl_ HB).out hb)
           (try clear hb)
           (try clear hb2)
           (try clear hk)
           (try clear hi)
           refine hK.out _ _ ⟨bc_ BK423 0, bc_ BK423 1, bc_ BK423 2, bc_ BK427 0, bc_ BK427 1, bc_ BK427 2, bc_ BK431 0, bc_ BK431 1, bc_ BK431 2⟩ (fun hHeld => ?_)
           clear hK K
           refine nm_ 63 ?_
           refine one_ (i := 7) (N := some 67) (bm_ 52 255) rfl rfl (one_of HT_.out (by kernel_rfl)) (by decide) (fun K hK => ?_)
           refine goes_ Tryd.func13 (by kernel_rfl) rfl #[.agg #[.bool t420, .string t421, .int .i64 t422], .int .i64 ji38, .int .i64 a1] (by rfl) rfl rfl (by (try simp only [List.map_toArray, List.map_cons, List.map_nil]); first | done | (simp only [hji38]; rfl) | rfl | (simp only [List.length_drop, List.length_take]; rfl) | (have z_ : ∀ s_ : ByteArray, s_.size ≤ 9223372036854775807 → -(s_.size : Int) = wrap64 (-(s_.size : Int)) := (fun s_ h_ => by unfold wrap64; omega); rw [← z_ _ (by omega)]; rfl) | (simp only [ByteArray.size_append]; rfl)) ?_
           with_reducible refine (round_At.calls kj10 t420 t421 t422 ji38 a1 t446 t447 t448 _ A40.out).mono ?_
           rintro e w77 ⟨rfl, hb⟩
           refine ⟨_, rfl, ?_⟩
           replace BK417 := bb_ BK417 hb
           replace BK423 := bb_ BK423 hb
           replace BK427 := bb_ BK427 hb
           replace BK431 := bb_ BK431 hb
           replace HB := Aside0.mk (below_step (bl_ HB).out hb)
           (try clear hb)
           (try clear hb2)
           (try clear hk)
           (try clear hi)
           refine hK.out _ _ ⟨bc_ BK423 0, bc_ BK423 1, bc_ BK423 2, bc_ BK427 0, bc_ BK427 1, bc_ BK427 2, bc_ BK431 0, bc_ BK431 1, bc_ BK431 2⟩ (fun hHeld => ?_)
           clear hK K
           refine nm_ 67 ?_
           refine pu_ 8 68 (bm_ 52 511) HT_ ?_
           refine pu_ 9 69 (bm_ 52 1023) HT_ ?_
           refine pu_ 11 71 (bm_ 52 3071) HT_ ?_
           refine pu_ 12 72 (bm_ 52 7167) HT_ ?_
           refine tk_ 10 70 (bm_ 52 8191) HT_ HW_ hHeld rfl (by rintro w' ⟨s0, s1, s2, s3, s4, s5, s6, s7, s8⟩; go_simp; with_reducible rfl) ?_
           refine tk_ 14 74 (bm_ 52 24575) HT_ HW_ hHeld rfl (by rintro w' ⟨s0, s1, s2, s3, s4, s5, s6, s7, s8⟩; go_simp; with_reducible rfl) ?_
           refine one_ (i := 13) (N := some 73) (bm_ 52 32767) rfl rfl (one_of HT_.out (by kernel_rfl)) (by decide) (fun K hK => ?_)
           refine gs_ Tryd.func26 #[.agg #[.bool t420, .string t421, .int .i64 t422], .agg #[.bool false, .string (⟨#[]⟩ : ByteArray), .int .i64 0], .int .i64 a1] ?_
           with_reducible refine (round_Step.calls kj10 t420 t421 t422 false (⟨#[]⟩ : ByteArray) 0 a1 t449 t450 t451 _ A42.out).mono ?_
           rintro e w78 ⟨rfl, hb⟩
           refine ⟨_, rfl, ?_⟩
           replace BK417 := bb_ BK417 hb
           replace BK423 := bb_ BK423 hb
           replace BK427 := bb_ BK427 hb
           replace BK431 := bb_ BK431 hb
           replace HB := Aside0.mk (below_step (bl_ HB).out hb)
           (try clear hb)
           (try clear hb2)
           (try clear hk)
           (try clear hi)
           refine hK.out _ _ ⟨bc_ BK423 0, bc_ BK423 1, bc_ BK423 2, bc_ BK427 0, bc_ BK427 1, bc_ BK427 2, bc_ BK431 0, bc_ BK431 1, bc_ BK431 2⟩ (fun hHeld => ?_)
           clear hK K
           refine nm_ 73 ?_
           refine pu_ 15 75 (bm_ 52 65535) HT_ ?_
           refine pu_ 16 76 (bm_ 52 131071) HT_ ?_
           refine pu_ 17 77 (bm_ 52 262143) HT_ ?_
           refine pu_ 21 81 (bm_ 52 2359295) HT_ ?_
           refine tk_ 18 78 (bm_ 52 2621439) HT_ HW_ hHeld rfl (by rintro w' ⟨s0, s1, s2, s3, s4, s5, s6, s7, s8⟩; go_simp; with_reducible rfl) ?_
           refine tk_ 19 79 (bm_ 52 3145727) HT_ HW_ hHeld rfl (by rintro w' ⟨s0, s1, s2, s3, s4, s5, s6, s7, s8⟩; go_simp; with_reducible rfl) ?_
           refine tk_ 23 83 (bm_ 52 11534335) HT_ HW_ hHeld rfl (by rintro w' ⟨s0, s1, s2, s3, s4, s5, s6, s7, s8⟩; go_simp; with_reducible rfl) ?_
           refine one_ (i := 20) (N := some 80) (bm_ 52 12582911) rfl rfl (one_of HT_.out (by kernel_rfl)) (by decide) (fun K hK => ?_)
           refine gs_ Tryd.func20 #[.agg #[.bool t428, .string t429, .int .i64 t430]] ?_
           with_reducible refine (dec_Dec_Minus.calls kj10 t428 t429 t430 t452 t453 t454 _ A44.out).mono ?_
           rintro e w79 ⟨rfl, hb⟩
           refine ⟨_, rfl, ?_⟩
           replace BK417 := bb_ BK417 hb
           replace BK423 := bb_ BK423 hb
           replace BK427 := bb_ BK427 hb
           replace BK431 := bb_ BK431 hb
           replace HB := Aside0.mk (below_step (bl_ HB).out hb)
           (try clear hb)
           (try clear hb2)
           (try clear hk)
           (try clear hi)
           refine hK.out _ _ ⟨bc_ BK423 0, bc_ BK423 1, bc_ BK423 2, bc_ BK427 0, bc_ BK427 1, bc_ BK427 2, bc_ BK431 0, bc_ BK431 1, bc_ BK431 2⟩ (fun hHeld => ?_)
           clear hK K
           refine nm_ 80 ?_
           refine one_ (i := 22) (N := some 82) (bm_ 52 16777215) rfl rfl (one_of HT_.out (by kernel_rfl)) (by decide) (fun K hK => ?_)
           refine gs_ Tryd.func26 #[.agg #[.bool t420, .string t421, .int .i64 t422], .agg #[.bool t452, .string t453, .int .i64 t454], .int .i64 a1] ?_
           with_reducible refine (round_Step.calls kj10 t420 t421 t422 t452 t453 t454 a1 t455 t456 t457 _ A45.out).mono ?_
           rintro e w80 ⟨rfl, hb⟩
           refine ⟨_, rfl, ?_⟩
           replace BK417 := bb_ BK417 hb
           replace BK423 := bb_ BK423 hb
           replace BK427 := bb_ BK427 hb
           replace BK431 := bb_ BK431 hb
           replace HB := Aside0.mk (below_step (bl_ HB).out hb)
           (try clear hb)
           (try clear hb2)
           (try clear hk)
           (try clear hi)
           refine hK.out _ _ ⟨bc_ BK423 0, bc_ BK423 1, bc_ BK423 2, bc_ BK427 0, bc_ BK427 1, bc_ BK427 2, bc_ BK431 0, bc_ BK431 1, bc_ BK431 2⟩ (fun hHeld => ?_)
           clear hK K
           refine nm_ 82 ?_
           refine pu_ 24 84 (bm_ 52 33554431) HT_ ?_
           refine pu_ 25 85 (bm_ 52 67108863) HT_ ?_
           refine pu_ 26 86 (bm_ 52 134217727) HT_ ?_
           refine pu_ 29 89 (bm_ 52 671088639) HT_ ?_
           refine tk_ 27 87 (bm_ 52 805306367) HT_ HW_ hHeld rfl (by rintro w' ⟨s0, s1, s2, s3, s4, s5, s6, s7, s8⟩; go_simp; with_reducible rfl) ?_
           refine tk_ 31 91 (bm_ 52 2952790015) HT_ HW_ hHeld rfl (by rintro w' ⟨s0, s1, s2, s3, s4, s5, s6, s7, s8⟩; go_simp; with_reducible rfl) ?_
           refine one_ (i := 28) (N := some 88) (bm_ 52 3221225471) rfl rfl (one_of HT_.out (by kernel_rfl)) (by decide) (fun K hK => ?_)
           refine gs_ Tryd.func23 #[.bool false, .string (⟨#[49, 48, 48, 48, 48, 48, 48, 48, 48, 49]⟩ : ByteArray), .int .i64 0] ?_
           with_reducible refine (dec_Made.calls kj10 false (⟨#[49, 48, 48, 48, 48, 48, 48, 48, 48, 49]⟩ : ByteArray) 0 t458 t459 t460 _ A47.out).mono ?_
           rintro e w81 ⟨rfl, hb⟩
           refine ⟨_, rfl, ?_⟩
           replace BK417 := bb_ BK417 hb
           replace BK423 := bb_ BK423 hb
           replace BK427 := bb_ BK427 hb
           replace BK431 := bb_ BK431 hb
           replace HB := Aside0.mk (below_step (bl_ HB).out hb)
           (try clear hb)
           (try clear hb2)
           (try clear hk)
           (try clear hi)
           refine hK.out _ _ ⟨bc_ BK423 0, bc_ BK423 1, bc_ BK423 2, bc_ BK427 0, bc_ BK427 1, bc_ BK427 2, bc_ BK431 0, bc_ BK431 1, bc_ BK431 2⟩ (fun hHeld => ?_)
           clear hK K
           refine nm_ 88 ?_
           refine one_ (i := 30) (N := some 90) (bm_ 52 4294967295) rfl rfl (one_of HT_.out (by kernel_rfl)) (by decide) (fun K hK => ?_)
           refine gs_ Tryd.func26 #[.agg #[.bool t420, .string t421, .int .i64 t422], .agg #[.bool t458, .string t459, .int .i64 t460], .int .i64 a1] ?_
           with_reducible refine (round_Step.calls kj10 t420 t421 t422 t458 t459 t460 a1 t461 t462 t463 _ A48.out).mono ?_
           rintro e w82 ⟨rfl, hb⟩
           refine ⟨_, rfl, ?_⟩
           replace BK417 := bb_ BK417 hb
           replace BK423 := bb_ BK423 hb
           replace BK427 := bb_ BK427 hb
           replace BK431 := bb_ BK431 hb
           replace HB := Aside0.mk (below_step (bl_ HB).out hb)
           (try clear hb)
           (try clear hb2)
           (try clear hk)
           (try clear hi)
           refine hK.out _ _ ⟨bc_ BK423 0, bc_ BK423 1, bc_ BK423 2, bc_ BK427 0, bc_ BK427 1, bc_ BK427 2, bc_ BK431 0, bc_ BK431 1, bc_ BK431 2⟩ (fun hHeld => ?_)
           clear hK K
           refine nm_ 90 ?_
           refine pu_ 32 92 (bm_ 52 8589934591) HT_ ?_
           refine pu_ 33 93 (bm_ 52 17179869183) HT_ ?_
           refine pu_ 34 94 (bm_ 52 34359738367) HT_ ?_
           refine pn_ 35 95 (bm_ 52 68719476735) HT_ ?_
           refine pn_ 36 96 (bm_ 52 137438953471) HT_ ?_
           refine pn_ 37 97 (bm_ 52 274877906943) HT_ ?_
           refine pn_ 38 98 (bm_ 52 549755813887) HT_ ?_
           refine pn_ 39 99 (bm_ 52 1099511627775) HT_ ?_
           refine pn_ 40 100 (bm_ 52 2199023255551) HT_ ?_
           refine pn_ 41 101 (bm_ 52 4398046511103) HT_ ?_
           refine pn_ 42 102 (bm_ 52 8796093022207) HT_ ?_
           refine pu_ 43 103 (bm_ 52 17592186044415) HT_ ?_
           refine pu_ 44 104 (bm_ 52 35184372088831) HT_ ?_
           refine pn_ 45 105 (bm_ 52 70368744177663) HT_ ?_
           refine pn_ 46 106 (bm_ 52 140737488355327) HT_ ?_
           refine pn_ 47 107 (bm_ 52 281474976710655) HT_ ?_
           refine pn_ 48 108 (bm_ 52 562949953421311) HT_ ?_
           refine pn_ 49 109 (bm_ 52 1125899906842623) HT_ ?_
           refine pu_ 50 110 (bm_ 52 2251799813685247) HT_ ?_
           refine pu_ 51 6 (bm_ 52 4503599627370495) HT_ ?_
           refine done_ (done_of HT_.out (by kernel_rfl)) ?_
           try go_wp2
           go_ret
           exact ⟨by first | rfl | (simp [errW_none, errW_some] <;> rfl) | (simp only [← hji37, ← hji38]; first | rfl | (simp [errW_none, errW_some] <;> rfl)) | (simp [*, errW_none, errW_some] <;> first | rfl | exact given_isEmpty _ | exact (given_isEmpty _).symm), by repeat (first | (with_reducible first | exact HB.out | apply below_alloc | apply pw_below_drewN | apply below_drew1 | refine below_set ?_ GE417.out | refine below_set ?_ GE423.out | refine below_set ?_ GE427.out | refine below_set ?_ GE431.out) | exact HB.out)⟩
         ·rw [if_neg c46] at H
          have c46b0 : (t455 == t424 && (t456.toList == t425.toList && (t457 == t426))) = false := by simpa using c46
          (try (have c46b1 : decide (t455 = t424 && (t456.toList == t425.toList && (t457 == t426))) = false := by simpa using c46))
          (try (have c46b2 : (t455 == t424 && (t456.toList == t425.toList && (t457 == t426))) = false := by simpa using c46))
          (try (have c46b3 : ¬ (t455 = t424 && (t456.toList == t425.toList && (t457 == t426))) := by simpa using c46))
          clear c46
          obtain rfl := Option.some.inj H
          try go_wp2_with (first | ((with_reducible refine gate_callee (f := 24) rfl ?_); refine goesL_ (some 33) rfl rfl Tryd.func24 (by kernel_rfl) rfl #[.int .i64 a1] rfl (by (try simp only [List.map_toArray, List.map_cons, List.map_nil]); first | done | rfl | (simp only [List.length_drop, List.length_take]; rfl) | (have z_ : ∀ s_ : ByteArray, s_.size ≤ 9223372036854775807 → -(s_.size : Int) = wrap64 (-(s_.size : Int)) := (fun s_ h_ => by unfold wrap64; omega); rw [← z_ _ (by omega)]; rfl) | (simp only [ByteArray.size_append]; rfl)) ?_; (with_reducible refine (round_Mode_Valid.calls a1 true _ A35.out).mono ?_); rintro e w' ⟨rfl, ⟨nd, rfl⟩⟩; refine ⟨_, rfl, ?_⟩))
          (try (rw [drewN_self wc]; generalize hq_ : World.drewN wc _ = wc; have n0_ : Aside0 (wc.heap[gb417]? = some (.cells #[.bool a0_0, .slice A0_1 l0_1.length c0_1, .int .i64 a0_2] 24 (0, 0))) := ⟨by rw [← hq_]; exact (by (with_reducible repeat (first | refine blk_drewN ?_ _ | refine blk_drew ?_ | refine blk_alloc ?_ _)); exact BK417.out)⟩; have n1_ : Aside0 (wc.heap[gb423]? = some (.cells #[.bool t420, .string t421, .int .i64 t422] 30 (0, 0))) := ⟨by rw [← hq_]; exact (by (with_reducible repeat (first | refine blk_drewN ?_ _ | refine blk_drew ?_ | refine blk_alloc ?_ _)); exact BK423.out)⟩; have n2_ : Aside0 (wc.heap[gb427]? = some (.cells #[.bool t424, .string t425, .int .i64 t426] 30 (0, 0))) := ⟨by rw [← hq_]; exact (by (with_reducible repeat (first | refine blk_drewN ?_ _ | refine blk_drew ?_ | refine blk_alloc ?_ _)); exact BK427.out)⟩; have n3_ : Aside0 (wc.heap[gb431]? = some (.cells #[.bool t428, .string t429, .int .i64 t430] 30 (0, 0))) := ⟨by rw [← hq_]; exact (by (with_reducible repeat (first | refine blk_drewN ?_ _ | refine blk_drew ?_ | refine blk_alloc ?_ _)); exact BK431.out)⟩; have n4_ : Aside0 (Below w.heap.size w wc) := ⟨by rw [← hq_]; exact (bl_ HB).out⟩; clear BK417 BK423 BK427 BK431 HB hq_; have BK417 := n0_; have BK423 := n1_; have BK427 := n2_; have BK431 := n3_; have HB := n4_; clear n0_ n1_ n2_ n3_ n4_))
          replace BK417 := Aside0.mk (blk_drew BK417.out)
          replace BK423 := Aside0.mk (blk_drew BK423.out)
          replace BK427 := Aside0.mk (blk_drew BK427.out)
          replace BK431 := Aside0.mk (blk_drew BK431.out)
          replace HB := Aside0.mk (below_drew1 HB.out)
          refine start_ (n := 52) (S := fun w' => w'.cell? ⟨gb423, 0, none⟩ = some (.bool t420) ∧ w'.cell? ⟨gb423, 1, none⟩ = some (.string t421) ∧ w'.cell? ⟨gb423, 2, none⟩ = some (.int .i64 t422) ∧ w'.cell? ⟨gb427, 0, none⟩ = some (.bool t424) ∧ w'.cell? ⟨gb427, 1, none⟩ = some (.string t425) ∧ w'.cell? ⟨gb427, 2, none⟩ = some (.int .i64 t426) ∧ w'.cell? ⟨gb431, 0, none⟩ = some (.bool t428) ∧ w'.cell? ⟨gb431, 1, none⟩ = some (.string t429) ∧ w'.cell? ⟨gb431, 2, none⟩ = some (.int .i64 t430)) (ds := []) #[false, false, false, false, false, false, false, false, false, false, false, false, false, false, false, false, false, false, false, false, false, false, false, false, false, false, false, false, false, false, false, false, false, false, false, false, false, false, false, false, false, false, false, false, false, false, false, false, false, false, false, false] (by kernel_rfl) rfl rfl ⟨bc_ BK423 0, bc_ BK423 1, bc_ BK423 2, bc_ BK427 0, bc_ BK427 1, bc_ BK427 2, bc_ BK431 0, bc_ BK431 1, bc_ BK431 2⟩ (fun hHeld => ?_); refine with_tabW florinlaw03_RoundBounds.tab14 florinlaw03_RoundBounds.bits14 (fun HT_ HW_ => ?_)
          generalize wc.drew = w83 at BK417 BK423 BK427 BK431 HB hHeld ⊢
          refine pu_ 1 61 (bm_ 52 2) HT_ ?_
          refine pu_ 2 62 (bm_ 52 6) HT_ ?_
          refine pu_ 5 65 (bm_ 52 38) HT_ ?_
          refine pu_ 6 66 (bm_ 52 102) HT_ ?_
          refine tk_ 0 60 (bm_ 52 103) HT_ HW_ hHeld rfl (by rintro w' ⟨s0, s1, s2, s3, s4, s5, s6, s7, s8⟩; go_simp; with_reducible rfl) ?_
          refine tk_ 4 64 (bm_ 52 119) HT_ HW_ hHeld rfl (by rintro w' ⟨s0, s1, s2, s3, s4, s5, s6, s7, s8⟩; go_simp; with_reducible rfl) ?_
          refine one_ (i := 3) (N := some 63) (bm_ 52 127) rfl rfl (one_of HT_.out (by kernel_rfl)) (by decide) (fun K hK => ?_)
          refine gs_ Tryd.func13 #[.agg #[.bool t420, .string t421, .int .i64 t422], .int .i64 a2, .int .i64 a1] ?_
          with_reducible refine (round_At.calls kj10 t420 t421 t422 a2 a1 t443 t444 t445 _ A39.out).mono ?_
          rintro e w84 ⟨rfl, hb⟩
          refine ⟨_, rfl, ?_⟩
          replace BK417 := bb_ BK417 hb
          replace BK423 := bb_ BK423 hb
          replace BK427 := bb_ BK427 hb
          replace BK431 := bb_ BK431 hb
          replace HB := Aside0.mk (below_step (bl_ HB).out hb)
          (try clear hb)
          (try clear hb2)
          (try clear hk)
          (try clear hi)
          refine hK.out _ _ ⟨bc_ BK423 0, bc_ BK423 1, bc_ BK423 2, bc_ BK427 0, bc_ BK427 1, bc_ BK427 2, bc_ BK431 0, bc_ BK431 1, bc_ BK431 2⟩ (fun hHeld => ?_)
          clear hK K
          refine nm_ 63 ?_
          refine one_ (i := 7) (N := some 67) (bm_ 52 255) rfl rfl (one_of HT_.out (by kernel_rfl)) (by decide) (fun K hK => ?_)
          refine goes_ Tryd.func13 (by kernel_rfl) rfl #[.agg #[.bool t420, .string t421, .int .i64 t422], .int .i64 ji38, .int .i64 a1] (by rfl) rfl rfl (by (try simp only [List.map_toArray, List.map_cons, List.map_nil]); first | done | (simp only [hji38]; rfl) | rfl | (simp only [List.length_drop, List.length_take]; rfl) | (have z_ : ∀ s_ : ByteArray, s_.size ≤ 9223372036854775807 → -(s_.size : Int) = wrap64 (-(s_.size : Int)) := (fun s_ h_ => by unfold wrap64; omega); rw [← z_ _ (by omega)]; rfl) | (simp only [ByteArray.size_append]; rfl)) ?_
          with_reducible refine (round_At.calls kj10 t420 t421 t422 ji38 a1 t446 t447 t448 _ A40.out).mono ?_
          rintro e w85 ⟨rfl, hb⟩
          refine ⟨_, rfl, ?_⟩
          replace BK417 := bb_ BK417 hb
          replace BK423 := bb_ BK423 hb
          replace BK427 := bb_ BK427 hb
          replace BK431 := bb_ BK431 hb
          replace HB := Aside0.mk (below_step (bl_ HB).out hb)
          (try clear hb)
          (try clear hb2)
          (try clear hk)
          (try clear hi)
          refine hK.out _ _ ⟨bc_ BK423 0, bc_ BK423 1, bc_ BK423 2, bc_ BK427 0, bc_ BK427 1, bc_ BK427 2, bc_ BK431 0, bc_ BK431 1, bc_ BK431 2⟩ (fun hHeld => ?_)
          clear hK K
          refine nm_ 67 ?_
          refine pu_ 8 68 (bm_ 52 511) HT_ ?_
          refine pu_ 9 69 (bm_ 52 1023) HT_ ?_
          refine pu_ 11 71 (bm_ 52 3071) HT_ ?_
          refine pu_ 12 72 (bm_ 52 7167) HT_ ?_
          refine tk_ 10 70 (bm_ 52 8191) HT_ HW_ hHeld rfl (by rintro w' ⟨s0, s1, s2, s3, s4, s5, s6, s7, s8⟩; go_simp; with_reducible rfl) ?_
          refine tk_ 14 74 (bm_ 52 24575) HT_ HW_ hHeld rfl (by rintro w' ⟨s0, s1, s2, s3, s4, s5, s6, s7, s8⟩; go_simp; with_reducible rfl) ?_
          refine one_ (i := 13) (N := some 73) (bm_ 52 32767) rfl rfl (one_of HT_.out (by kernel_rfl)) (by decide) (fun K hK => ?_)
          refine gs_ Tryd.func26 #[.agg #[.bool t420, .string t421, .int .i64 t422], .agg #[.bool false, .string (⟨#[]⟩ : ByteArray), .int .i64 0], .int .i64 a1] ?_
          with_reducible refine (round_Step.calls kj10 t420 t421 t422 false (⟨#[]⟩ : ByteArray) 0 a1 t449 t450 t451 _ A42.out).mono ?_
          rintro e w86 ⟨rfl, hb⟩
          refine ⟨_, rfl, ?_⟩
          replace BK417 := bb_ BK417 hb
          replace BK423 := bb_ BK423 hb
          replace BK427 := bb_ BK427 hb
          replace BK431 := bb_ BK431 hb
          replace HB := Aside0.mk (below_step (bl_ HB).out hb)
          (try clear hb)
          (try clear hb2)
          (try clear hk)
          (try clear hi)
          refine hK.out _ _ ⟨bc_ BK423 0, bc_ BK423 1, bc_ BK423 2, bc_ BK427 0, bc_ BK427 1, bc_ BK427 2, bc_ BK431 0, bc_ BK431 1, bc_ BK431 2⟩ (fun hHeld => ?_)
          clear hK K
          refine nm_ 73 ?_
          refine pu_ 15 75 (bm_ 52 65535) HT_ ?_
          refine pu_ 16 76 (bm_ 52 131071) HT_ ?_
          refine pu_ 17 77 (bm_ 52 262143) HT_ ?_
          refine pu_ 21 81 (bm_ 52 2359295) HT_ ?_
          refine tk_ 18 78 (bm_ 52 2621439) HT_ HW_ hHeld rfl (by rintro w' ⟨s0, s1, s2, s3, s4, s5, s6, s7, s8⟩; go_simp; with_reducible rfl) ?_
          refine tk_ 19 79 (bm_ 52 3145727) HT_ HW_ hHeld rfl (by rintro w' ⟨s0, s1, s2, s3, s4, s5, s6, s7, s8⟩; go_simp; with_reducible rfl) ?_
          refine tk_ 23 83 (bm_ 52 11534335) HT_ HW_ hHeld rfl (by rintro w' ⟨s0, s1, s2, s3, s4, s5, s6, s7, s8⟩; go_simp; with_reducible rfl) ?_
          refine one_ (i := 20) (N := some 80) (bm_ 52 12582911) rfl rfl (one_of HT_.out (by kernel_rfl)) (by decide) (fun K hK => ?_)
          refine gs_ Tryd.func20 #[.agg #[.bool t428, .string t429, .int .i64 t430]] ?_
          with_reducible refine (dec_Dec_Minus.calls kj10 t428 t429 t430 t452 t453 t454 _ A44.out).mono ?_
          rintro e w87 ⟨rfl, hb⟩
          refine ⟨_, rfl, ?_⟩
          replace BK417 := bb_ BK417 hb
          replace BK423 := bb_ BK423 hb
          replace BK427 := bb_ BK427 hb
          replace BK431 := bb_ BK431 hb
          replace HB := Aside0.mk (below_step (bl_ HB).out hb)
          (try clear hb)
          (try clear hb2)
          (try clear hk)
          (try clear hi)
          refine hK.out _ _ ⟨bc_ BK423 0, bc_ BK423 1, bc_ BK423 2, bc_ BK427 0, bc_ BK427 1, bc_ BK427 2, bc_ BK431 0, bc_ BK431 1, bc_ BK431 2⟩ (fun hHeld => ?_)
          clear hK K
          refine nm_ 80 ?_
          refine one_ (i := 22) (N := some 82) (bm_ 52 16777215) rfl rfl (one_of HT_.out (by kernel_rfl)) (by decide) (fun K hK => ?_)
          refine gs_ Tryd.func26 #[.agg #[.bool t420, .string t421, .int .i64 t422], .agg #[.bool t452, .string t453, .int .i64 t454], .int .i64 a1] ?_
          with_reducible refine (round_Step.calls kj10 t420 t421 t422 t452 t453 t454 a1 t455 t456 t457 _ A45.out).mono ?_
          rintro e w88 ⟨rfl, hb⟩
          refine ⟨_, rfl, ?_⟩
          replace BK417 := bb_ BK417 hb
          replace BK423 := bb_ BK423 hb
          replace BK427 := bb_ BK427 hb
          replace BK431 := bb_ BK431 hb
          replace HB := Aside0.mk (below_step (bl_ HB).out hb)
          (try clear hb)
          (try clear hb2)
          (try clear hk)
          (try clear hi)
          refine hK.out _ _ ⟨bc_ BK423 0, bc_ BK423 1, bc_ BK423 2, bc_ BK427 0, bc_ BK427 1, bc_ BK427 2, bc_ BK431 0, bc_ BK431 1, bc_ BK431 2⟩ (fun hHeld => ?_)
          clear hK K
          refine nm_ 82 ?_
          refine pu_ 24 84 (bm_ 52 33554431) HT_ ?_
          refine pu_ 25 85 (bm_ 52 67108863) HT_ ?_
          refine pu_ 26 86 (bm_ 52 134217727) HT_ ?_
          refine pn_ 27 87 (bm_ 52 268435455) HT_ ?_
          refine pn_ 28 88 (bm_ 52 536870911) HT_ ?_
          refine pn_ 29 89 (bm_ 52 1073741823) HT_ ?_
          refine pn_ 30 90 (bm_ 52 2147483647) HT_ ?_
          refine pn_ 31 91 (bm_ 52 4294967295) HT_ ?_
          refine pn_ 32 92 (bm_ 52 8589934591) HT_ ?_
          refine pu_ 33 93 (bm_ 52 17179869183) HT_ ?_
          refine pu_ 34 94 (bm_ 52 34359738367) HT_ ?_
          refine pn_ 35 95 (bm_ 52 68719476735) HT_ ?_
          refine pn_ 36 96 (bm_ 52 137438953471) HT_ ?_
          refine pn_ 37 97 (bm_ 52 274877906943) HT_ ?_
          refine pn_ 38 98 (bm_ 52 549755813887) HT_ ?_
          refine pn_ 39 99 (bm_ 52 1099511627775) HT_ ?_
          refine pn_ 40 100 (bm_ 52 2199023255551) HT_ ?_
          refine pn_ 41 101 (bm_ 52 4398046511103) HT_ ?_
          refine pn_ 42 102 (bm_ 52 8796093022207) HT_ ?_
          refine pu_ 43 103 (bm_ 52 17592186044415) HT_ ?_
          refine pu_ 44 104 (bm_ 52 35184372088831) HT_ ?_
          refine pn_ 45 105 (bm_ 52 70368744177663) HT_ ?_
          refine pn_ 46 106 (bm_ 52 140737488355327) HT_ ?_
          refine pn_ 47 107 (bm_ 52 281474976710655) HT_ ?_
          refine pn_ 48 108 (bm_ 52 562949953421311) HT_ ?_
          refine pn_ 49 109 (bm_ 52 1125899906842623) HT_ ?_
          refine pu_ 50 110 (bm_ 52 2251799813685247) HT_ ?_
          refine pu_ 51 6 (bm_ 52 4503599627370495) HT_ ?_
          refine done_ (done_of HT_.out (by kernel_rfl)) ?_
          try go_wp2
          go_ret
          exact ⟨by first | rfl | (simp [errW_none, errW_some] <;> rfl) | (simp only [← hji37, ← hji38]; first | rfl | (simp [errW_none, errW_some] <;> rfl)) | (simp [*, errW_none, errW_some] <;> first | rfl | exact given_isEmpty _ | exact (given_isEmpty _).symm), by repeat (first | (with_reducible first | exact HB.out | apply below_alloc | apply pw_below_drewN | apply below_drew1 | refine below_set ?_ GE417.out | refine below_set ?_ GE423.out | refine below_set ?_ GE427.out | refine below_set ?_ GE431.out) | exact HB.out)⟩
        ·rw [if_neg c43] at H
         have c43b0 : (t449 == t424 && (t450.toList == t425.toList && (t451 == t426))) = false := by simpa using c43
         (try (have c43b1 : decide (t449 = t424 && (t450.toList == t425.toList && (t451 == t426))) = false := by simpa using c43))
         (try (have c43b2 : (t449 == t424 && (t450.toList == t425.toList && (t451 == t426))) = false := by simpa using c43))
         (try (have c43b3 : ¬ (t449 = t424 && (t450.toList == t425.toList && (t451 == t426))) := by simpa using c43))
         clear c43
         obtain rfl := Option.some.inj H
         try go_wp2_with (first | ((with_reducible refine gate_callee (f := 24) rfl ?_); refine goesL_ (some 33) rfl rfl Tryd.func24 (by kernel_rfl) rfl #[.int .i64 a1] rfl (by (try simp only [List.map_toArray, List.map_cons, List.map_nil]); first | done | rfl | (simp only [List.length_drop, List.length_take]; rfl) | (have z_ : ∀ s_ : ByteArray, s_.size ≤ 9223372036854775807 → -(s_.size : Int) = wrap64 (-(s_.size : Int)) := (fun s_ h_ => by unfold wrap64; omega); rw [← z_ _ (by omega)]; rfl) | (simp only [ByteArray.size_append]; rfl)) ?_; (with_reducible refine (round_Mode_Valid.calls a1 true _ A35.out).mono ?_); rintro e w' ⟨rfl, ⟨nd, rfl⟩⟩; refine ⟨_, rfl, ?_⟩))
         (try (rw [drewN_self wc]; generalize hq_ : World.drewN wc _ = wc; have n0_ : Aside0 (wc.heap[gb417]? = some (.cells #[.bool a0_0, .slice A0_1 l0_1.length c0_1, .int .i64 a0_2] 24 (0, 0))) := ⟨by rw [← hq_]; exact (by (with_reducible repeat (first | refine blk_drewN ?_ _ | refine blk_drew ?_ | refine blk_alloc ?_ _)); exact BK417.out)⟩; have n1_ : Aside0 (wc.heap[gb423]? = some (.cells #[.bool t420, .string t421, .int .i64 t422] 30 (0, 0))) := ⟨by rw [← hq_]; exact (by (with_reducible repeat (first | refine blk_drewN ?_ _ | refine blk_drew ?_ | refine blk_alloc ?_ _)); exact BK423.out)⟩; have n2_ : Aside0 (wc.heap[gb427]? = some (.cells #[.bool t424, .string t425, .int .i64 t426] 30 (0, 0))) := ⟨by rw [← hq_]; exact (by (with_reducible repeat (first | refine blk_drewN ?_ _ | refine blk_drew ?_ | refine blk_alloc ?_ _)); exact BK427.out)⟩; have n3_ : Aside0 (wc.heap[gb431]? = some (.cells #[.bool t428, .string t429, .int .i64 t430] 30 (0, 0))) := ⟨by rw [← hq_]; exact (by (with_reducible repeat (first | refine blk_drewN ?_ _ | refine blk_drew ?_ | refine blk_alloc ?_ _)); exact BK431.out)⟩; have n4_ : Aside0 (Below w.heap.size w wc) := ⟨by rw [← hq_]; exact (bl_ HB).out⟩; clear BK417 BK423 BK427 BK431 HB hq_; have BK417 := n0_; have BK423 := n1_; have BK427 := n2_; have BK431 := n3_; have HB := n4_; clear n0_ n1_ n2_ n3_ n4_))
         replace BK417 := Aside0.mk (blk_drew BK417.out)
         replace BK423 := Aside0.mk (blk_drew BK423.out)
         replace BK427 := Aside0.mk (blk_drew BK427.out)
         replace BK431 := Aside0.mk (blk_drew BK431.out)
         replace HB := Aside0.mk (below_drew1 HB.out)
         refine start_ (n := 52) (S := fun w' => w'.cell? ⟨gb423, 0, none⟩ = some (.bool t420) ∧ w'.cell? ⟨gb423, 1, none⟩ = some (.string t421) ∧ w'.cell? ⟨gb423, 2, none⟩ = some (.int .i64 t422) ∧ w'.cell? ⟨gb427, 0, none⟩ = some (.bool t424) ∧ w'.cell? ⟨gb427, 1, none⟩ = some (.string t425) ∧ w'.cell? ⟨gb427, 2, none⟩ = some (.int .i64 t426)) (ds := []) #[false, false, false, false, false, false, false, false, false, false, false, false, false, false, false, false, false, false, false, false, false, false, false, false, false, false, false, false, false, false, false, false, false, false, false, false, false, false, false, false, false, false, false, false, false, false, false, false, false, false, false, false] (by kernel_rfl) rfl rfl ⟨bc_ BK423 0, bc_ BK423 1, bc_ BK423 2, bc_ BK427 0, bc_ BK427 1, bc_ BK427 2⟩ (fun hHeld => ?_); refine with_tabW florinlaw03_RoundBounds.tab14 florinlaw03_RoundBounds.bits14 (fun HT_ HW_ => ?_)
         generalize wc.drew = w89 at BK417 BK423 BK427 BK431 HB hHeld ⊢
         refine pu_ 1 61 (bm_ 52 2) HT_ ?_
         refine pu_ 2 62 (bm_ 52 6) HT_ ?_
         refine pu_ 5 65 (bm_ 52 38) HT_ ?_
         refine pu_ 6 66 (bm_ 52 102) HT_ ?_
         refine tk_ 0 60 (bm_ 52 103) HT_ HW_ hHeld rfl (by rintro w' ⟨s0, s1, s2, s3, s4, s5⟩; go_simp; with_reducible rfl) ?_
         refine tk_ 4 64 (bm_ 52 119) HT_ HW_ hHeld rfl (by rintro w' ⟨s0, s1, s2, s3, s4, s5⟩; go_simp; with_reducible rfl) ?_
         refine one_ (i := 3) (N := some 63) (bm_ 52 127) rfl rfl (one_of HT_.out (by kernel_rfl)) (by decide) (fun K hK => ?_)
         refine gs_ Tryd.func13 #[.agg #[.bool t420, .string t421, .int .i64 t422], .int .i64 a2, .int .i64 a1] ?_
         with_reducible refine (round_At.calls kj10 t420 t421 t422 a2 a1 t443 t444 t445 _ A39.out).mono ?_
         rintro e w90 ⟨rfl, hb⟩
         refine ⟨_, rfl, ?_⟩
         replace BK417 := bb_ BK417 hb
         replace BK423 := bb_ BK423 hb
         replace BK427 := bb_ BK427 hb
         replace BK431 := bb_ BK431 hb
         replace HB := Aside0.mk (below_step (bl_ HB).out hb)
         (try clear hb)
         (try clear hb2)
         (try clear hk)
         (try clear hi)
         refine hK.out _ _ ⟨bc_ BK423 0, bc_ BK423 1, bc_ BK423 2, bc_ BK427 0, bc_ BK427 1, bc_ BK427 2⟩ (fun hHeld => ?_)
         clear hK K
         refine nm_ 63 ?_
         refine one_ (i := 7) (N := some 67) (bm_ 52 255) rfl rfl (one_of HT_.out (by kernel_rfl)) (by decide) (fun K hK => ?_)
         refine goes_ Tryd.func13 (by kernel_rfl) rfl #[.agg #[.bool t420, .string t421, .int .i64 t422], .int .i64 ji38, .int .i64 a1] (by rfl) rfl rfl (by (try simp only [List.map_toArray, List.map_cons, List.map_nil]); first | done | (simp only [hji38]; rfl) | rfl | (simp only [List.length_drop, List.length_take]; rfl) | (have z_ : ∀ s_ : ByteArray, s_.size ≤ 9223372036854775807 → -(s_.size : Int) = wrap64 (-(s_.size : Int)) := (fun s_ h_ => by unfold wrap64; omega); rw [← z_ _ (by omega)]; rfl) | (simp only [ByteArray.size_append]; rfl)) ?_
         with_reducible refine (round_At.calls kj10 t420 t421 t422 ji38 a1 t446 t447 t448 _ A40.out).mono ?_
         rintro e w91 ⟨rfl, hb⟩
         refine ⟨_, rfl, ?_⟩
         replace BK417 := bb_ BK417 hb
         replace BK423 := bb_ BK423 hb
         replace BK427 := bb_ BK427 hb
         replace BK431 := bb_ BK431 hb
         replace HB := Aside0.mk (below_step (bl_ HB).out hb)
         (try clear hb)
         (try clear hb2)
         (try clear hk)
         (try clear hi)
         refine hK.out _ _ ⟨bc_ BK423 0, bc_ BK423 1, bc_ BK423 2, bc_ BK427 0, bc_ BK427 1, bc_ BK427 2⟩ (fun hHeld => ?_)
         clear hK K
         refine nm_ 67 ?_
         refine pu_ 8 68 (bm_ 52 511) HT_ ?_
         refine pu_ 9 69 (bm_ 52 1023) HT_ ?_
         refine pu_ 11 71 (bm_ 52 3071) HT_ ?_
         refine pu_ 12 72 (bm_ 52 7167) HT_ ?_
         refine tk_ 10 70 (bm_ 52 8191) HT_ HW_ hHeld rfl (by rintro w' ⟨s0, s1, s2, s3, s4, s5⟩; go_simp; with_reducible rfl) ?_
         refine tk_ 14 74 (bm_ 52 24575) HT_ HW_ hHeld rfl (by rintro w' ⟨s0, s1, s2, s3, s4, s5⟩; go_simp; with_reducible rfl) ?_
         refine one_ (i := 13) (N := some 73) (bm_ 52 32767) rfl rfl (one_of HT_.out (by kernel_rfl)) (by decide) (fun K hK => ?_)
         refine gs_ Tryd.func26 #[.agg #[.bool t420, .string t421, .int .i64 t422], .agg #[.bool false, .string (⟨#[]⟩ : ByteArray), .int .i64 0], .int .i64 a1] ?_
         with_reducible refine (round_Step.calls kj10 t420 t421 t422 false (⟨#[]⟩ : ByteArray) 0 a1 t449 t450 t451 _ A42.out).mono ?_
         rintro e w92 ⟨rfl, hb⟩
         refine ⟨_, rfl, ?_⟩
         replace BK417 := bb_ BK417 hb
         replace BK423 := bb_ BK423 hb
         replace BK427 := bb_ BK427 hb
         replace BK431 := bb_ BK431 hb
         replace HB := Aside0.mk (below_step (bl_ HB).out hb)
         (try clear hb)
         (try clear hb2)
         (try clear hk)
         (try clear hi)
         refine hK.out _ _ ⟨bc_ BK423 0, bc_ BK423 1, bc_ BK423 2, bc_ BK427 0, bc_ BK427 1, bc_ BK427 2⟩ (fun hHeld => ?_)
         clear hK K
         refine nm_ 73 ?_
         refine pu_ 15 75 (bm_ 52 65535) HT_ ?_
         refine pu_ 16 76 (bm_ 52 131071) HT_ ?_
         refine pu_ 17 77 (bm_ 52 262143) HT_ ?_
         refine pn_ 18 78 (bm_ 52 524287) HT_ ?_
         refine pn_ 19 79 (bm_ 52 1048575) HT_ ?_
         refine pn_ 20 80 (bm_ 52 2097151) HT_ ?_
         refine pn_ 21 81 (bm_ 52 4194303) HT_ ?_
         refine pn_ 22 82 (bm_ 52 8388607) HT_ ?_
         refine pn_ 23 83 (bm_ 52 16777215) HT_ ?_
         refine pn_ 24 84 (bm_ 52 33554431) HT_ ?_
         refine pu_ 25 85 (bm_ 52 67108863) HT_ ?_
         refine pu_ 26 86 (bm_ 52 134217727) HT_ ?_
         refine pn_ 27 87 (bm_ 52 268435455) HT_ ?_
         refine pn_ 28 88 (bm_ 52 536870911) HT_ ?_
         refine pn_ 29 89 (bm_ 52 1073741823) HT_ ?_
         refine pn_ 30 90 (bm_ 52 2147483647) HT_ ?_
         refine pn_ 31 91 (bm_ 52 4294967295) HT_ ?_
         refine pn_ 32 92 (bm_ 52 8589934591) HT_ ?_
         refine pu_ 33 93 (bm_ 52 17179869183) HT_ ?_
         refine pu_ 34 94 (bm_ 52 34359738367) HT_ ?_
         refine pn_ 35 95 (bm_ 52 68719476735) HT_ ?_
         refine pn_ 36 96 (bm_ 52 137438953471) HT_ ?_
         refine pn_ 37 97 (bm_ 52 274877906943) HT_ ?_
         refine pn_ 38 98 (bm_ 52 549755813887) HT_ ?_
         refine pn_ 39 99 (bm_ 52 1099511627775) HT_ ?_
         refine pn_ 40 100 (bm_ 52 2199023255551) HT_ ?_
         refine pn_ 41 101 (bm_ 52 4398046511103) HT_ ?_
         refine pn_ 42 102 (bm_ 52 8796093022207) HT_ ?_
         refine pu_ 43 103 (bm_ 52 17592186044415) HT_ ?_
         refine pu_ 44 104 (bm_ 52 35184372088831) HT_ ?_
         refine pn_ 45 105 (bm_ 52 70368744177663) HT_ ?_
         refine pn_ 46 106 (bm_ 52 140737488355327) HT_ ?_
         refine pn_ 47 107 (bm_ 52 281474976710655) HT_ ?_
         refine pn_ 48 108 (bm_ 52 562949953421311) HT_ ?_
         refine pn_ 49 109 (bm_ 52 1125899906842623) HT_ ?_
         refine pu_ 50 110 (bm_ 52 2251799813685247) HT_ ?_
         refine pu_ 51 6 (bm_ 52 4503599627370495) HT_ ?_
         refine done_ (done_of HT_.out (by kernel_rfl)) ?_
         try go_wp2
         go_ret
         exact ⟨by first | rfl | (simp [errW_none, errW_some] <;> rfl) | (simp only [← hji37, ← hji38]; first | rfl | (simp [errW_none, errW_some] <;> rfl)) | (simp [*, errW_none, errW_some] <;> first | rfl | exact given_isEmpty _ | exact (given_isEmpty _).symm), by repeat (first | (with_reducible first | exact HB.out | apply below_alloc | apply pw_below_drewN | apply below_drew1 | refine below_set ?_ GE417.out | refine below_set ?_ GE423.out | refine below_set ?_ GE427.out | refine below_set ?_ GE431.out) | exact HB.out)⟩
       ·rw [if_neg c41] at H
        have c41b0 : (t443 == t446 && (t444.toList == t447.toList && (t445 == t448))) = false := by simpa using c41
        (try (have c41b1 : decide (t443 = t446 && (t444.toList == t447.toList && (t445 == t448))) = false := by simpa using c41))
        (try (have c41b2 : (t443 == t446 && (t444.toList == t447.toList && (t445 == t448))) = false := by simpa using c41))
        (try (have c41b3 : ¬ (t443 = t446 && (t444.toList == t447.toList && (t445 == t448))) := by simpa using c41))
        clear c41
        obtain rfl := Option.some.inj H
        try go_wp2_with (first | ((with_reducible refine gate_callee (f := 24) rfl ?_); refine goesL_ (some 33) rfl rfl Tryd.func24 (by kernel_rfl) rfl #[.int .i64 a1] rfl (by (try simp only [List.map_toArray, List.map_cons, List.map_nil]); first | done | rfl | (simp only [List.length_drop, List.length_take]; rfl) | (have z_ : ∀ s_ : ByteArray, s_.size ≤ 9223372036854775807 → -(s_.size : Int) = wrap64 (-(s_.size : Int)) := (fun s_ h_ => by unfold wrap64; omega); rw [← z_ _ (by omega)]; rfl) | (simp only [ByteArray.size_append]; rfl)) ?_; (with_reducible refine (round_Mode_Valid.calls a1 true _ A35.out).mono ?_); rintro e w' ⟨rfl, ⟨nd, rfl⟩⟩; refine ⟨_, rfl, ?_⟩))
        (try (rw [drewN_self wc]; generalize hq_ : World.drewN wc _ = wc; have n0_ : Aside0 (wc.heap[gb417]? = some (.cells #[.bool a0_0, .slice A0_1 l0_1.length c0_1, .int .i64 a0_2] 24 (0, 0))) := ⟨by rw [← hq_]; exact (by (with_reducible repeat (first | refine blk_drewN ?_ _ | refine blk_drew ?_ | refine blk_alloc ?_ _)); exact BK417.out)⟩; have n1_ : Aside0 (wc.heap[gb423]? = some (.cells #[.bool t420, .string t421, .int .i64 t422] 30 (0, 0))) := ⟨by rw [← hq_]; exact (by (with_reducible repeat (first | refine blk_drewN ?_ _ | refine blk_drew ?_ | refine blk_alloc ?_ _)); exact BK423.out)⟩; have n2_ : Aside0 (wc.heap[gb427]? = some (.cells #[.bool t424, .string t425, .int .i64 t426] 30 (0, 0))) := ⟨by rw [← hq_]; exact (by (with_reducible repeat (first | refine blk_drewN ?_ _ | refine blk_drew ?_ | refine blk_alloc ?_ _)); exact BK427.out)⟩; have n3_ : Aside0 (wc.heap[gb431]? = some (.cells #[.bool t428, .string t429, .int .i64 t430] 30 (0, 0))) := ⟨by rw [← hq_]; exact (by (with_reducible repeat (first | refine blk_drewN ?_ _ | refine blk_drew ?_ | refine blk_alloc ?_ _)); exact BK431.out)⟩; have n4_ : Aside0 (Below w.heap.size w wc) := ⟨by rw [← hq_]; exact (bl_ HB).out⟩; clear BK417 BK423 BK427 BK431 HB hq_; have BK417 := n0_; have BK423 := n1_; have BK427 := n2_; have BK431 := n3_; have HB := n4_; clear n0_ n1_ n2_ n3_ n4_))
        replace BK417 := Aside0.mk (blk_drew BK417.out)
        replace BK423 := Aside0.mk (blk_drew BK423.out)
        replace BK427 := Aside0.mk (blk_drew BK427.out)
        replace BK431 := Aside0.mk (blk_drew BK431.out)
        replace HB := Aside0.mk (below_drew1 HB.out)
        refine start_ (n := 52) (S := fun w' => w'.cell? ⟨gb423, 0, none⟩ = some (.bool t420) ∧ w'.cell? ⟨gb423, 1, none⟩ = some (.string t421) ∧ w'.cell? ⟨gb423, 2, none⟩ = some (.int .i64 t422)) (ds := []) #[false, false, false, false, false, false, false, false, false, false, false, false, false, false, false, false, false, false, false, false, false, false, false, false, false, false, false, false, false, false, false, false, false, false, false, false, false, false, false, false, false, false, false, false, false, false, false, false, false, false, false, false] (by kernel_rfl) rfl rfl ⟨bc_ BK423 0, bc_ BK423 1, bc_ BK423 2⟩ (fun hHeld => ?_); refine with_tabW florinlaw03_RoundBounds.tab14 florinlaw03_RoundBounds.bits14 (fun HT_ HW_ => ?_)
        generalize wc.drew = w93 at BK417 BK423 BK427 BK431 HB hHeld ⊢
        refine pu_ 1 61 (bm_ 52 2) HT_ ?_
        refine pu_ 2 62 (bm_ 52 6) HT_ ?_
        refine pu_ 5 65 (bm_ 52 38) HT_ ?_
        refine pu_ 6 66 (bm_ 52 102) HT_ ?_
        refine tk_ 0 60 (bm_ 52 103) HT_ HW_ hHeld rfl (by rintro w' ⟨s0, s1, s2⟩; go_simp; with_reducible rfl) ?_
        refine tk_ 4 64 (bm_ 52 119) HT_ HW_ hHeld rfl (by rintro w' ⟨s0, s1, s2⟩; go_simp; with_reducible rfl) ?_
        refine one_ (i := 3) (N := some 63) (bm_ 52 127) rfl rfl (one_of HT_.out (by kernel_rfl)) (by decide) (fun K hK => ?_)
        refine gs_ Tryd.func13 #[.agg #[.bool t420, .string t421, .int .i64 t422], .int .i64 a2, .int .i64 a1] ?_
        with_reducible refine (round_At.calls kj10 t420 t421 t422 a2 a1 t443 t444 t445 _ A39.out).mono ?_
        rintro e w94 ⟨rfl, hb⟩
        refine ⟨_, rfl, ?_⟩
        replace BK417 := bb_ BK417 hb
        replace BK423 := bb_ BK423 hb
        replace BK427 := bb_ BK427 hb
        replace BK431 := bb_ BK431 hb
        replace HB := Aside0.mk (below_step (bl_ HB).out hb)
        (try clear hb)
        (try clear hb2)
        (try clear hk)
        (try clear hi)
        refine hK.out _ _ ⟨bc_ BK423 0, bc_ BK423 1, bc_ BK423 2⟩ (fun hHeld => ?_)
        clear hK K
        refine nm_ 63 ?_
        refine one_ (i := 7) (N := some 67) (bm_ 52 255) rfl rfl (one_of HT_.out (by kernel_rfl)) (by decide) (fun K hK => ?_)
        refine goes_ Tryd.func13 (by kernel_rfl) rfl #[.agg #[.bool t420, .string t421, .int .i64 t422], .int .i64 ji38, .int .i64 a1] (by rfl) rfl rfl (by (try simp only [List.map_toArray, List.map_cons, List.map_nil]); first | done | (simp only [hji38]; rfl) | rfl | (simp only [List.length_drop, List.length_take]; rfl) | (have z_ : ∀ s_ : ByteArray, s_.size ≤ 9223372036854775807 → -(s_.size : Int) = wrap64 (-(s_.size : Int)) := (fun s_ h_ => by unfold wrap64; omega); rw [← z_ _ (by omega)]; rfl) | (simp only [ByteArray.size_append]; rfl)) ?_
        with_reducible refine (round_At.calls kj10 t420 t421 t422 ji38 a1 t446 t447 t448 _ A40.out).mono ?_
        rintro e w95 ⟨rfl, hb⟩
        refine ⟨_, rfl, ?_⟩
        replace BK417 := bb_ BK417 hb
        replace BK423 := bb_ BK423 hb
        replace BK427 := bb_ BK427 hb
        replace BK431 := bb_ BK431 hb
        replace HB := Aside0.mk (below_step (bl_ HB).out hb)
        (try clear hb)
        (try clear hb2)
        (try clear hk)
        (try clear hi)
        refine hK.out _ _ ⟨bc_ BK423 0, bc_ BK423 1, bc_ BK423 2⟩ (fun hHeld => ?_)
        clear hK K
        refine nm_ 67 ?_
        refine pu_ 8 68 (bm_ 52 511) HT_ ?_
        refine pu_ 9 69 (bm_ 52 1023) HT_ ?_
        refine pn_ 10 70 (bm_ 52 2047) HT_ ?_
        refine pn_ 11 71 (bm_ 52 4095) HT_ ?_
        refine pn_ 12 72 (bm_ 52 8191) HT_ ?_
        refine pn_ 13 73 (bm_ 52 16383) HT_ ?_
        refine pn_ 14 74 (bm_ 52 32767) HT_ ?_
        refine pn_ 15 75 (bm_ 52 65535) HT_ ?_
        refine pu_ 16 76 (bm_ 52 131071) HT_ ?_
        refine pu_ 17 77 (bm_ 52 262143) HT_ ?_
        refine pn_ 18 78 (bm_ 52 524287) HT_ ?_
        refine pn_ 19 79 (bm_ 52 1048575) HT_ ?_
        refine pn_ 20 80 (bm_ 52 2097151) HT_ ?_
        refine pn_ 21 81 (bm_ 52 4194303) HT_ ?_
        refine pn_ 22 82 (bm_ 52 8388607) HT_ ?_
        refine pn_ 23 83 (bm_ 52 16777215) HT_ ?_
        refine pn_ 24 84 (bm_ 52 33554431) HT_ ?_
        refine pu_ 25 85 (bm_ 52 67108863) HT_ ?_
        refine pu_ 26 86 (bm_ 52 134217727) HT_ ?_
        refine pn_ 27 87 (bm_ 52 268435455) HT_ ?_
        refine pn_ 28 88 (bm_ 52 536870911) HT_ ?_
        refine pn_ 29 89 (bm_ 52 1073741823) HT_ ?_
        refine pn_ 30 90 (bm_ 52 2147483647) HT_ ?_
        refine pn_ 31 91 (bm_ 52 4294967295) HT_ ?_
        refine pn_ 32 92 (bm_ 52 8589934591) HT_ ?_
        refine pu_ 33 93 (bm_ 52 17179869183) HT_ ?_
        refine pu_ 34 94 (bm_ 52 34359738367) HT_ ?_
        refine pn_ 35 95 (bm_ 52 68719476735) HT_ ?_
        refine pn_ 36 96 (bm_ 52 137438953471) HT_ ?_
        refine pn_ 37 97 (bm_ 52 274877906943) HT_ ?_
        refine pn_ 38 98 (bm_ 52 549755813887) HT_ ?_
        refine pn_ 39 99 (bm_ 52 1099511627775) HT_ ?_
        refine pn_ 40 100 (bm_ 52 2199023255551) HT_ ?_
        refine pn_ 41 101 (bm_ 52 4398046511103) HT_ ?_
        refine pn_ 42 102 (bm_ 52 8796093022207) HT_ ?_
        refine pu_ 43 103 (bm_ 52 17592186044415) HT_ ?_
        refine pu_ 44 104 (bm_ 52 35184372088831) HT_ ?_
        refine pn_ 45 105 (bm_ 52 70368744177663) HT_ ?_
        refine pn_ 46 106 (bm_ 52 140737488355327) HT_ ?_
        refine pn_ 47 107 (bm_ 52 281474976710655) HT_ ?_
        refine pn_ 48 108 (bm_ 52 562949953421311) HT_ ?_
        refine pn_ 49 109 (bm_ 52 1125899906842623) HT_ ?_
        refine pu_ 50 110 (bm_ 52 2251799813685247) HT_ ?_
        refine pu_ 51 6 (bm_ 52 4503599627370495) HT_ ?_
        refine done_ (done_of HT_.out (by kernel_rfl)) ?_
        try go_wp2
        go_ret
        exact ⟨by first | rfl | (simp [errW_none, errW_some] <;> rfl) | (simp only [← hji37, ← hji38]; first | rfl | (simp [errW_none, errW_some] <;> rfl)) | (simp [*, errW_none, errW_some] <;> first | rfl | exact given_isEmpty _ | exact (given_isEmpty _).symm), by repeat (first | (with_reducible first | exact HB.out | apply below_alloc | apply pw_below_drewN | apply below_drew1 | refine below_set ?_ GE417.out | refine below_set ?_ GE423.out | refine below_set ?_ GE427.out | refine below_set ?_ GE431.out) | exact HB.out)⟩
      ·replace c36 := Bool.eq_false_iff.mpr c36
       subst c36
       have H1 : ((round_At.f kj10 t420 t421 t422 a2 a1).bind fun bt434 => (if (bt434.1 == t424 && (bt434.2.1.toList == t425.toList && (bt434.2.2 == t426))) = true then ((round_Sig.f kj10 t420 t421 t422 a2 a1).bind fun bt437 => (if (bt437.1 == t424 && (bt437.2.1.toList == t425.toList && (bt437.2.2 == t426))) = true then ((round_Step.f kj10 t420 t421 t422 t428 t429 t430 a1).bind fun bt440 => (some (bt440.1 == t424 && (bt440.2.1.toList == t425.toList && (bt440.2.2 == t426))))) else (some false))) else (some false))) = some r := by rw [if_neg (show ¬ (false = true) by decide)] at H; exact H
       clear H
       have H := H1
       clear H1
       replace H := Option.bind_eq_some_iff.mp H
       obtain ⟨⟨t434, t435, t436⟩, A960, H⟩ := H
       replace H : (if (t434 == t424 && (t435.toList == t425.toList && (t436 == t426))) = true then ((round_Sig.f kj10 t420 t421 t422 a2 a1).bind fun bt437 => (if (bt437.1 == t424 && (bt437.2.1.toList == t425.toList && (bt437.2.2 == t426))) = true then ((round_Step.f kj10 t420 t421 t422 t428 t429 t430 a1).bind fun bt440 => (some (bt440.1 == t424 && (bt440.2.1.toList == t425.toList && (bt440.2.2 == t426))))) else (some false))) else (some false)) = some r := H
       have A96 := Aside0.mk A960
       clear A960
       by_cases c97 : (t434 == t424 && (t435.toList == t425.toList && (t436 == t426))) = true
       ·rw [if_pos c97] at H
        have c97b0 : (t434 == t424 && (t435.toList == t425.toList && (t436 == t426))) = true := c97
        (try (have c97b1 : decide (t434 = t424 && (t435.toList == t425.toList && (t436 == t426))) = true := by simpa using c97))
        (try (have c97b2 : (t434 == t424 && (t435.toList == t425.toList && (t436 == t426))) = true := by simpa using c97))
        clear c97
        replace H := Option.bind_eq_some_iff.mp H
        obtain ⟨⟨t437, t438, t439⟩, A980, H⟩ := H
        replace H : (if (t437 == t424 && (t438.toList == t425.toList && (t439 == t426))) = true then ((round_Step.f kj10 t420 t421 t422 t428 t429 t430 a1).bind fun bt440 => (some (bt440.1 == t424 && (bt440.2.1.toList == t425.toList && (bt440.2.2 == t426))))) else (some false)) = some r := H
        have A98 := Aside0.mk A980
        clear A980
        by_cases c99 : (t437 == t424 && (t438.toList == t425.toList && (t439 == t426))) = true
        ·rw [if_pos c99] at H
         have c99b0 : (t437 == t424 && (t438.toList == t425.toList && (t439 == t426))) = true := c99
         (try (have c99b1 : decide (t437 = t424 && (t438.toList == t425.toList && (t439 == t426))) = true := by simpa using c99))
         (try (have c99b2 : (t437 == t424 && (t438.toList == t425.toList && (t439 == t426))) = true := by simpa using c99))
         clear c99
         replace H := Option.bind_eq_some_iff.mp H
         obtain ⟨⟨t440, t441, t442⟩, A1000, H⟩ := H
         replace H : (some (t440 == t424 && (t441.toList == t425.toList && (t442 == t426)))) = some r := H
         have A100 := Aside0.mk A1000
         clear A1000
         obtain rfl := Option.some.inj H
         try go_wp2_with (first | ((with_reducible refine gate_callee (f := 24) rfl ?_); refine goesL_ (some 33) rfl rfl Tryd.func24 (by kernel_rfl) rfl #[.int .i64 a1] rfl (by (try simp only [List.map_toArray, List.map_cons, List.map_nil]); first | done | rfl | (simp only [List.length_drop, List.length_take]; rfl) | (have z_ : ∀ s_ : ByteArray, s_.size ≤ 9223372036854775807 → -(s_.size : Int) = wrap64 (-(s_.size : Int)) := (fun s_ h_ => by unfold wrap64; omega); rw [← z_ _ (by omega)]; rfl) | (simp only [ByteArray.size_append]; rfl)) ?_; (with_reducible refine (round_Mode_Valid.calls a1 false _ A35.out).mono ?_); rintro e w' ⟨rfl, ⟨nd, rfl⟩⟩; refine ⟨_, rfl, ?_⟩))
         (try (rw [drewN_self wc]; generalize hq_ : World.drewN wc _ = wc; have n0_ : Aside0 (wc.heap[gb417]? = some (.cells #[.bool a0_0, .slice A0_1 l0_1.length c0_1, .int .i64 a0_2] 24 (0, 0))) := ⟨by rw [← hq_]; exact (by (with_reducible repeat (first | refine blk_drewN ?_ _ | refine blk_drew ?_ | refine blk_alloc ?_ _)); exact BK417.out)⟩; have n1_ : Aside0 (wc.heap[gb423]? = some (.cells #[.bool t420, .string t421, .int .i64 t422] 30 (0, 0))) := ⟨by rw [← hq_]; exact (by (with_reducible repeat (first | refine blk_drewN ?_ _ | refine blk_drew ?_ | refine blk_alloc ?_ _)); exact BK423.out)⟩; have n2_ : Aside0 (wc.heap[gb427]? = some (.cells #[.bool t424, .string t425, .int .i64 t426] 30 (0, 0))) := ⟨by rw [← hq_]; exact (by (with_reducible repeat (first | refine blk_drewN ?_ _ | refine blk_drew ?_ | refine blk_alloc ?_ _)); exact BK427.out)⟩; have n3_ : Aside0 (wc.heap[gb431]? = some (.cells #[.bool t428, .string t429, .int .i64 t430] 30 (0, 0))) := ⟨by rw [← hq_]; exact (by (with_reducible repeat (first | refine blk_drewN ?_ _ | refine blk_drew ?_ | refine blk_alloc ?_ _)); exact BK431.out)⟩; have n4_ : Aside0 (Below w.heap.size w wc) := ⟨by rw [← hq_]; exact (bl_ HB).out⟩; clear BK417 BK423 BK427 BK431 HB hq_; have BK417 := n0_; have BK423 := n1_; have BK427 := n2_; have BK431 := n3_; have HB := n4_; clear n0_ n1_ n2_ n3_ n4_))
         replace BK417 := Aside0.mk (blk_drew BK417.out)
         replace BK423 := Aside0.mk (blk_drew BK423.out)
         replace BK427 := Aside0.mk (blk_drew BK427.out)
         replace BK431 := Aside0.mk (blk_drew BK431.out)
         replace HB := Aside0.mk (below_drew1 HB.out)
         refine start_ (n := 23) (S := fun w' => w'.cell? ⟨gb423, 0, none⟩ = some (.bool t420) ∧ w'.cell? ⟨gb423, 1, none⟩ = some (.string t421) ∧ w'.cell? ⟨gb423, 2, none⟩ = some (.int .i64 t422) ∧ w'.cell? ⟨gb427, 0, none⟩ = some (.bool t424) ∧ w'.cell? ⟨gb427, 1, none⟩ = some (.string t425) ∧ w'.cell? ⟨gb427, 2, none⟩ = some (.int .i64 t426) ∧ w'.cell? ⟨gb431, 0, none⟩ = some (.bool t428) ∧ w'.cell? ⟨gb431, 1, none⟩ = some (.string t429) ∧ w'.cell? ⟨gb431, 2, none⟩ = some (.int .i64 t430)) (ds := []) #[false, false, false, false, false, false, false, false, false, false, false, false, false, false, false, false, false, false, false, false, false, false, false] (by kernel_rfl) rfl rfl ⟨bc_ BK423 0, bc_ BK423 1, bc_ BK423 2, bc_ BK427 0, bc_ BK427 1, bc_ BK427 2, bc_ BK431 0, bc_ BK431 1, bc_ BK431 2⟩ (fun hHeld => ?_); refine with_tabW florinlaw03_RoundBounds.tab12 florinlaw03_RoundBounds.bits12 (fun HT_ HW_ => ?_)
         generalize wc.drew = w101 at BK417 BK423 BK427 BK431 HB hHeld ⊢
         refine pu_ 1 36 (bm_ 23 2) HT_ ?_
         refine pu_ 2 37 (bm_ 23 6) HT_ ?_
         refine tk_ 0 35 (bm_ 23 7) HT_ HW_ hHeld rfl (by rintro w' ⟨s0, s1, s2, s3, s4, s5, s6, s7, s8⟩; go_simp; with_reducible rfl) ?_
         refine tk_ 4 39 (bm_ 23 23) HT_ HW_ hHeld rfl (by rintro w' ⟨s0, s1, s2, s3, s4, s5, s6, s7, s8⟩; go_simp; with_reducible rfl) ?_
         refine one_ (i := 3) (N := some 38) (bm_ 23 31) rfl rfl (one_of HT_.out (by kernel_rfl)) (by decide) (fun K hK => ?_)
         refine gs_ Tryd.func13 #[.agg #[.bool t420, .string t421, .int .i64 t422], .int .i64 a2, .int .i64 a1] ?_
         with_reducible refine (round_At.calls kj10 t420 t421 t422 a2 a1 t434 t435 t436 _ A96.out).mono ?_
         rintro e w102 ⟨rfl, hb⟩
         refine ⟨_, rfl, ?_⟩
         replace BK417 := bb_ BK417 hb
         replace BK423 := bb_ BK423 hb
         replace BK427 := bb_ BK427 hb
         replace BK431 := bb_ BK431 hb
         replace HB := Aside0.mk (below_step (bl_ HB).out hb)
         (try clear hb)
         (try clear hb2)
         (try clear hk)
         (try clear hi)
         refine hK.out _ _ ⟨bc_ BK423 0, bc_ BK423 1, bc_ BK423 2, bc_ BK427 0, bc_ BK427 1, bc_ BK427 2, bc_ BK431 0, bc_ BK431 1, bc_ BK431 2⟩ (fun hHeld => ?_)
         clear hK K
         refine nm_ 38 ?_
         refine pu_ 5 40 (bm_ 23 63) HT_ ?_
         refine pu_ 6 41 (bm_ 23 127) HT_ ?_
         refine pu_ 8 43 (bm_ 23 383) HT_ ?_
         refine pu_ 9 44 (bm_ 23 895) HT_ ?_
         refine tk_ 7 42 (bm_ 23 1023) HT_ HW_ hHeld rfl (by rintro w' ⟨s0, s1, s2, s3, s4, s5, s6, s7, s8⟩; go_simp; with_reducible rfl) ?_
         refine tk_ 11 46 (bm_ 23 3071) HT_ HW_ hHeld rfl (by rintro w' ⟨s0, s1, s2, s3, s4, s5, s6, s7, s8⟩; go_simp; with_reducible rfl) ?_
         refine one_ (i := 10) (N := some 45) (bm_ 23 4095) rfl rfl (one_of HT_.out (by kernel_rfl)) (by decide) (fun K hK => ?_)
         refine gs_ Tryd.func25 #[.agg #[.bool t420, .string t421, .int .i64 t422], .int .i64 a2, .int .i64 a1] ?_
         with_reducible refine (round_Sig.calls kj10 t420 t421 t422 a2 a1 t437 t438 t439 _ A98.out).mono ?_
         rintro e w103 ⟨rfl, hb⟩
         refine ⟨_, rfl, ?_⟩
         replace BK417 := bb_ BK417 hb
         replace BK423 := bb_ BK423 hb
         replace BK427 := bb_ BK427 hb
         replace BK431 := bb_ BK431 hb
         replace HB := Aside0.mk (below_step (bl_ HB).out hb)
         (try clear hb)
         (try clear hb2)
         (try clear hk)
         (try clear hi)
         refine hK.out _ _ ⟨bc_ BK423 0, bc_ BK423 1, bc_ BK423 2, bc_ BK427 0, bc_ BK427 1, bc_ BK427 2, bc_ BK431 0, bc_ BK431 1, bc_ BK431 2⟩ (fun hHeld => ?_)
         clear hK K
         refine nm_ 45 ?_
         refine pu_ 12 47 (bm_ 23 8191) HT_ ?_
         refine pu_ 13 48 (bm_ 23 16383) HT_ ?_
         refine pu_ 14 49 (bm_ 23 32767) HT_ ?_
         refine pu_ 17 52 (bm_ 23 163839) HT_ ?_
         refine tk_ 15 50 (bm_ 23 196607) HT_ HW_ hHeld rfl (by rintro w' ⟨s0, s1, s2, s3, s4, s5, s6, s7, s8⟩; go_simp; with_reducible rfl) ?_
         refine tk_ 16 51 (bm_ 23 262143) HT_ HW_ hHeld rfl (by rintro w' ⟨s0, s1, s2, s3, s4, s5, s6, s7, s8⟩; go_simp; with_reducible rfl) ?_
         refine tk_ 19 54 (bm_ 23 786431) HT_ HW_ hHeld rfl (by rintro w' ⟨s0, s1, s2, s3, s4, s5, s6, s7, s8⟩; go_simp; with_reducible rfl) ?_
         refine one_ (i := 18) (N := some 53) (bm_ 23 1048575) rfl rfl (one_of HT_.out (by kernel_rfl)) (by decide) (fun K hK => ?_)
         refine gs_ Tryd.func26 #[.agg #[.bool t420, .string t421, .int .i64 t422], .agg #[.bool t428, .string t429, .int .i64 t430], .int .i64 a1] ?_
         with_reducible refine (round_Step.calls kj10 t420 t421 t422 t428 t429 t430 a1 t440 t441 t442 _ A100.out).mono ?_
         rintro e w104 ⟨rfl, hb⟩
         refine ⟨_, rfl, ?_⟩
         replace BK417 := bb_ BK417 hb
         replace BK423 := bb_ BK423 hb
         replace BK427 := bb_ BK427 hb
         replace BK431 := bb_ BK431 hb
         replace HB := Aside0.mk (below_step (bl_ HB).out hb)
         (try clear hb)
         (try clear hb2)
         (try clear hk)
         (try clear hi)
         refine hK.out _ _ ⟨bc_ BK423 0, bc_ BK423 1, bc_ BK423 2, bc_ BK427 0, bc_ BK427 1, bc_ BK427 2, bc_ BK431 0, bc_ BK431 1, bc_ BK431 2⟩ (fun hHeld => ?_)
         clear hK K
         refine nm_ 53 ?_
         refine pu_ 20 55 (bm_ 23 2097151) HT_ ?_
         refine pu_ 21 56 (bm_ 23 4194303) HT_ ?_
         refine pu_ 22 6 (bm_ 23 8388607) HT_ ?_
         refine done_ (done_of HT_.out (by kernel_rfl)) ?_
         try go_wp2
         go_ret
         exact ⟨by first | rfl | (simp [errW_none, errW_some] <;> rfl) | (simp [*, errW_none, errW_some] <;> first | rfl | exact given_isEmpty _ | exact (given_isEmpty _).symm), by repeat (first | (with_reducible first | exact HB.out | apply below_alloc | apply pw_below_drewN | apply below_drew1 | refine below_set ?_ GE417.out | refine below_set ?_ GE423.out | refine below_set ?_ GE427.out | refine below_set ?_ GE431.out) | exact HB.out)⟩
        ·rw [if_neg c99] at H
         have c99b0 : (t437 == t424 && (t438.toList == t425.toList && (t439 == t426))) = false := by simpa using c99
         (try (have c99b1 : decide (t437 = t424 && (t438.toList == t425.toList && (t439 == t426))) = false := by simpa using c99))
         (try (have c99b2 : (t437 == t424 && (t438.toList == t425.toList && (t439 == t426))) = false := by simpa using c99))
         (try (have c99b3 : ¬ (t437 = t424 && (t438.toList == t425.toList && (t439 == t426))) := by simpa using c99))
         clear c99
         obtain rfl := Option.some.inj H
         try go_wp2_with (first | ((with_reducible refine gate_callee (f := 24) rfl ?_); refine goesL_ (some 33) rfl rfl Tryd.func24 (by kernel_rfl) rfl #[.int .i64 a1] rfl (by (try simp only [List.map_toArray, List.map_cons, List.map_nil]); first | done | rfl | (simp only [List.length_drop, List.length_take]; rfl) | (have z_ : ∀ s_ : ByteArray, s_.size ≤ 9223372036854775807 → -(s_.size : Int) = wrap64 (-(s_.size : Int)) := (fun s_ h_ => by unfold wrap64; omega); rw [← z_ _ (by omega)]; rfl) | (simp only [ByteArray.size_append]; rfl)) ?_; (with_reducible refine (round_Mode_Valid.calls a1 false _ A35.out).mono ?_); rintro e w' ⟨rfl, ⟨nd, rfl⟩⟩; refine ⟨_, rfl, ?_⟩))
         (try (rw [drewN_self wc]; generalize hq_ : World.drewN wc _ = wc; have n0_ : Aside0 (wc.heap[gb417]? = some (.cells #[.bool a0_0, .slice A0_1 l0_1.length c0_1, .int .i64 a0_2] 24 (0, 0))) := ⟨by rw [← hq_]; exact (by (with_reducible repeat (first | refine blk_drewN ?_ _ | refine blk_drew ?_ | refine blk_alloc ?_ _)); exact BK417.out)⟩; have n1_ : Aside0 (wc.heap[gb423]? = some (.cells #[.bool t420, .string t421, .int .i64 t422] 30 (0, 0))) := ⟨by rw [← hq_]; exact (by (with_reducible repeat (first | refine blk_drewN ?_ _ | refine blk_drew ?_ | refine blk_alloc ?_ _)); exact BK423.out)⟩; have n2_ : Aside0 (wc.heap[gb427]? = some (.cells #[.bool t424, .string t425, .int .i64 t426] 30 (0, 0))) := ⟨by rw [← hq_]; exact (by (with_reducible repeat (first | refine blk_drewN ?_ _ | refine blk_drew ?_ | refine blk_alloc ?_ _)); exact BK427.out)⟩; have n3_ : Aside0 (wc.heap[gb431]? = some (.cells #[.bool t428, .string t429, .int .i64 t430] 30 (0, 0))) := ⟨by rw [← hq_]; exact (by (with_reducible repeat (first | refine blk_drewN ?_ _ | refine blk_drew ?_ | refine blk_alloc ?_ _)); exact BK431.out)⟩; have n4_ : Aside0 (Below w.heap.size w wc) := ⟨by rw [← hq_]; exact (bl_ HB).out⟩; clear BK417 BK423 BK427 BK431 HB hq_; have BK417 := n0_; have BK423 := n1_; have BK427 := n2_; have BK431 := n3_; have HB := n4_; clear n0_ n1_ n2_ n3_ n4_))
         replace BK417 := Aside0.mk (blk_drew BK417.out)
         replace BK423 := Aside0.mk (blk_drew BK423.out)
         replace BK427 := Aside0.mk (blk_drew BK427.out)
         replace BK431 := Aside0.mk (blk_drew BK431.out)
         replace HB := Aside0.mk (below_drew1 HB.out)
         refine start_ (n := 23) (S := fun w' => w'.cell? ⟨gb423, 0, none⟩ = some (.bool t420) ∧ w'.cell? ⟨gb423, 1, none⟩ = some (.string t421) ∧ w'.cell? ⟨gb423, 2, none⟩ = some (.int .i64 t422) ∧ w'.cell? ⟨gb427, 0, none⟩ = some (.bool t424) ∧ w'.cell? ⟨gb427, 1, none⟩ = some (.string t425) ∧ w'.cell? ⟨gb427, 2, none⟩ = some (.int .i64 t426)) (ds := []) #[false, false, false, false, false, false, false, false, false, false, false, false, false, false, false, false, false, false, false, false, false, false, false] (by kernel_rfl) rfl rfl ⟨bc_ BK423 0, bc_ BK423 1, bc_ BK423 2, bc_ BK427 0, bc_ BK427 1, bc_ BK427 2⟩ (fun hHeld => ?_); refine with_tabW florinlaw03_RoundBounds.tab12 florinlaw03_RoundBounds.bits12 (fun HT_ HW_ => ?_)
         generalize wc.drew = w105 at BK417 BK423 BK427 BK431 HB hHeld ⊢
         refine pu_ 1 36 (bm_ 23 2) HT_ ?_
         refine pu_ 2 37 (bm_ 23 6) HT_ ?_
         refine tk_ 0 35 (bm_ 23 7) HT_ HW_ hHeld rfl (by rintro w' ⟨s0, s1, s2, s3, s4, s5⟩; go_simp; with_reducible rfl) ?_
         refine tk_ 4 39 (bm_ 23 23) HT_ HW_ hHeld rfl (by rintro w' ⟨s0, s1, s2, s3, s4, s5⟩; go_simp; with_reducible rfl) ?_
         refine one_ (i := 3) (N := some 38) (bm_ 23 31) rfl rfl (one_of HT_.out (by kernel_rfl)) (by decide) (fun K hK => ?_)
         refine gs_ Tryd.func13 #[.agg #[.bool t420, .string t421, .int .i64 t422], .int .i64 a2, .int .i64 a1] ?_
         with_reducible refine (round_At.calls kj10 t420 t421 t422 a2 a1 t434 t435 t436 _ A96.out).mono ?_
         rintro e w106 ⟨rfl, hb⟩
         refine ⟨_, rfl, ?_⟩
         replace BK417 := bb_ BK417 hb
         replace BK423 := bb_ BK423 hb
         replace BK427 := bb_ BK427 hb
         replace BK431 := bb_ BK431 hb
         replace HB := Aside0.mk (below_step (bl_ HB).out hb)
         (try clear hb)
         (try clear hb2)
         (try clear hk)
         (try clear hi)
         refine hK.out _ _ ⟨bc_ BK423 0, bc_ BK423 1, bc_ BK423 2, bc_ BK427 0, bc_ BK427 1, bc_ BK427 2⟩ (fun hHeld => ?_)
         clear hK K
         refine nm_ 38 ?_
         refine pu_ 5 40 (bm_ 23 63) HT_ ?_
         refine pu_ 6 41 (bm_ 23 127) HT_ ?_
         refine pu_ 8 43 (bm_ 23 383) HT_ ?_
         refine pu_ 9 44 (bm_ 23 895) HT_ ?_
         refine tk_ 7 42 (bm_ 23 1023) HT_ HW_ hHeld rfl (by rintro w' ⟨s0, s1, s2, s3, s4, s5⟩; go_simp; with_reducible rfl) ?_
         refine tk_ 11 46 (bm_ 23 3071) HT_ HW_ hHeld rfl (by rintro w' ⟨s0, s1, s2, s3, s4, s5⟩; go_simp; with_reducible rfl) ?_
         refine one_ (i := 10) (N := some 45) (bm_ 23 4095) rfl rfl (one_of HT_.out (by kernel_rfl)) (by decide) (fun K hK => ?_)
         refine gs_ Tryd.func25 #[.agg #[.bool t420, .string t421, .int .i64 t422], .int .i64 a2, .int .i64 a1] ?_
         with_reducible refine (round_Sig.calls kj10 t420 t421 t422 a2 a1 t437 t438 t439 _ A98.out).mono ?_
         rintro e w107 ⟨rfl, hb⟩
         refine ⟨_, rfl, ?_⟩
         replace BK417 := bb_ BK417 hb
         replace BK423 := bb_ BK423 hb
         replace BK427 := bb_ BK427 hb
         replace BK431 := bb_ BK431 hb
         replace HB := Aside0.mk (below_step (bl_ HB).out hb)
         (try clear hb)
         (try clear hb2)
         (try clear hk)
         (try clear hi)
         refine hK.out _ _ ⟨bc_ BK423 0, bc_ BK423 1, bc_ BK423 2, bc_ BK427 0, bc_ BK427 1, bc_ BK427 2⟩ (fun hHeld => ?_)
         clear hK K
         refine nm_ 45 ?_
         refine pu_ 12 47 (bm_ 23 8191) HT_ ?_
         refine pu_ 13 48 (bm_ 23 16383) HT_ ?_
         refine pu_ 14 49 (bm_ 23 32767) HT_ ?_
         refine pn_ 15 50 (bm_ 23 65535) HT_ ?_
         refine pn_ 16 51 (bm_ 23 131071) HT_ ?_
         refine pn_ 17 52 (bm_ 23 262143) HT_ ?_
         refine pn_ 18 53 (bm_ 23 524287) HT_ ?_
         refine pn_ 19 54 (bm_ 23 1048575) HT_ ?_
         refine pn_ 20 55 (bm_ 23 2097151) HT_ ?_
         refine pu_ 21 56 (bm_ 23 4194303) HT_ ?_
         refine pu_ 22 6 (bm_ 23 8388607) HT_ ?_
         refine done_ (done_of HT_.out (by kernel_rfl)) ?_
         try go_wp2
         go_ret
         exact ⟨by first | rfl | (simp [errW_none, errW_some] <;> rfl) | (simp [*, errW_none, errW_some] <;> first | rfl | exact given_isEmpty _ | exact (given_isEmpty _).symm), by repeat (first | (with_reducible first | exact HB.out | apply below_alloc | apply pw_below_drewN | apply below_drew1 | refine below_set ?_ GE417.out | refine below_set ?_ GE423.out | refine below_set ?_ GE427.out | refine below_set ?_ GE431.out) | exact HB.out)⟩
       ·rw [if_neg c97] at H
        have c97b0 : (t434 == t424 && (t435.toList == t425.toList && (t436 == t426))) = false := by simpa using c97
        (try (have c97b1 : decide (t434 = t424 && (t435.toList == t425.toList && (t436 == t426))) = false := by simpa using c97))
        (try (have c97b2 : (t434 == t424 && (t435.toList == t425.toList && (t436 == t426))) = false := by simpa using c97))
        (try (have c97b3 : ¬ (t434 = t424 && (t435.toList == t425.toList && (t436 == t426))) := by simpa using c97))
        clear c97
        obtain rfl := Option.some.inj H
        try go_wp2_with (first | ((with_reducible refine gate_callee (f := 24) rfl ?_); refine goesL_ (some 33) rfl rfl Tryd.func24 (by kernel_rfl) rfl #[.int .i64 a1] rfl (by (try simp only [List.map_toArray, List.map_cons, List.map_nil]); first | done | rfl | (simp only [List.length_drop, List.length_take]; rfl) | (have z_ : ∀ s_ : ByteArray, s_.size ≤ 9223372036854775807 → -(s_.size : Int) = wrap64 (-(s_.size : Int)) := (fun s_ h_ => by unfold wrap64; omega); rw [← z_ _ (by omega)]; rfl) | (simp only [ByteArray.size_append]; rfl)) ?_; (with_reducible refine (round_Mode_Valid.calls a1 false _ A35.out).mono ?_); rintro e w' ⟨rfl, ⟨nd, rfl⟩⟩; refine ⟨_, rfl, ?_⟩))
        (try (rw [drewN_self wc]; generalize hq_ : World.drewN wc _ = wc; have n0_ : Aside0 (wc.heap[gb417]? = some (.cells #[.bool a0_0, .slice A0_1 l0_1.length c0_1, .int .i64 a0_2] 24 (0, 0))) := ⟨by rw [← hq_]; exact (by (with_reducible repeat (first | refine blk_drewN ?_ _ | refine blk_drew ?_ | refine blk_alloc ?_ _)); exact BK417.out)⟩; have n1_ : Aside0 (wc.heap[gb423]? = some (.cells #[.bool t420, .string t421, .int .i64 t422] 30 (0, 0))) := ⟨by rw [← hq_]; exact (by (with_reducible repeat (first | refine blk_drewN ?_ _ | refine blk_drew ?_ | refine blk_alloc ?_ _)); exact BK423.out)⟩; have n2_ : Aside0 (wc.heap[gb427]? = some (.cells #[.bool t424, .string t425, .int .i64 t426] 30 (0, 0))) := ⟨by rw [← hq_]; exact (by (with_reducible repeat (first | refine blk_drewN ?_ _ | refine blk_drew ?_ | refine blk_alloc ?_ _)); exact BK427.out)⟩; have n3_ : Aside0 (wc.heap[gb431]? = some (.cells #[.bool t428, .string t429, .int .i64 t430] 30 (0, 0))) := ⟨by rw [← hq_]; exact (by (with_reducible repeat (first | refine blk_drewN ?_ _ | refine blk_drew ?_ | refine blk_alloc ?_ _)); exact BK431.out)⟩; have n4_ : Aside0 (Below w.heap.size w wc) := ⟨by rw [← hq_]; exact (bl_ HB).out⟩; clear BK417 BK423 BK427 BK431 HB hq_; have BK417 := n0_; have BK423 := n1_; have BK427 := n2_; have BK431 := n3_; have HB := n4_; clear n0_ n1_ n2_ n3_ n4_))
        replace BK417 := Aside0.mk (blk_drew BK417.out)
        replace BK423 := Aside0.mk (blk_drew BK423.out)
        replace BK427 := Aside0.mk (blk_drew BK427.out)
        replace BK431 := Aside0.mk (blk_drew BK431.out)
        replace HB := Aside0.mk (below_drew1 HB.out)
        refine start_ (n := 23) (S := fun w' => w'.cell? ⟨gb423, 0, none⟩ = some (.bool t420) ∧ w'.cell? ⟨gb423, 1, none⟩ = some (.string t421) ∧ w'.cell? ⟨gb423, 2, none⟩ = some (.int .i64 t422) ∧ w'.cell? ⟨gb427, 0, none⟩ = some (.bool t424) ∧ w'.cell? ⟨gb427, 1, none⟩ = some (.string t425) ∧ w'.cell? ⟨gb427, 2, none⟩ = some (.int .i64 t426)) (ds := []) #[false, false, false, false, false, false, false, false, false, false, false, false, false, false, false, false, false, false, false, false, false, false, false] (by kernel_rfl) rfl rfl ⟨bc_ BK423 0, bc_ BK423 1, bc_ BK423 2, bc_ BK427 0, bc_ BK427 1, bc_ BK427 2⟩ (fun hHeld => ?_); refine with_tabW florinlaw03_RoundBounds.tab12 florinlaw03_RoundBounds.bits12 (fun HT_ HW_ => ?_)
        generalize wc.drew = w108 at BK417 BK423 BK427 BK431 HB hHeld ⊢
        refine pu_ 1 36 (bm_ 23 2) HT_ ?_
        refine pu_ 2 37 (bm_ 23 6) HT_ ?_
        refine tk_ 0 35 (bm_ 23 7) HT_ HW_ hHeld rfl (by rintro w' ⟨s0, s1, s2, s3, s4, s5⟩; go_simp; with_reducible rfl) ?_
        refine tk_ 4 39 (bm_ 23 23) HT_ HW_ hHeld rfl (by rintro w' ⟨s0, s1, s2, s3, s4, s5⟩; go_simp; with_reducible rfl) ?_
        refine one_ (i := 3) (N := some 38) (bm_ 23 31) rfl rfl (one_of HT_.out (by kernel_rfl)) (by decide) (fun K hK => ?_)
        refine gs_ Tryd.func13 #[.agg #[.bool t420, .string t421, .int .i64 t422], .int .i64 a2, .int .i64 a1] ?_
        with_reducible refine (round_At.calls kj10 t420 t421 t422 a2 a1 t434 t435 t436 _ A96.out).mono ?_
        rintro e w109 ⟨rfl, hb⟩
        refine ⟨_, rfl, ?_⟩
        replace BK417 := bb_ BK417 hb
        replace BK423 := bb_ BK423 hb
        replace BK427 := bb_ BK427 hb
        replace BK431 := bb_ BK431 hb
        replace HB := Aside0.mk (below_step (bl_ HB).out hb)
        (try clear hb)
        (try clear hb2)
        (try clear hk)
        (try clear hi)
        refine hK.out _ _ ⟨bc_ BK423 0, bc_ BK423 1, bc_ BK423 2, bc_ BK427 0, bc_ BK427 1, bc_ BK427 2⟩ (fun hHeld => ?_)
        clear hK K
        refine nm_ 38 ?_
        refine pu_ 5 40 (bm_ 23 63) HT_ ?_
        refine pu_ 6 41 (bm_ 23 127) HT_ ?_
        refine pn_ 7 42 (bm_ 23 255) HT_ ?_
        refine pn_ 8 43 (bm_ 23 511) HT_ ?_
        refine pn_ 9 44 (bm_ 23 1023) HT_ ?_
        refine pn_ 10 45 (bm_ 23 2047) HT_ ?_
        refine pn_ 11 46 (bm_ 23 4095) HT_ ?_
        refine pn_ 12 47 (bm_ 23 8191) HT_ ?_
        refine pu_ 13 48 (bm_ 23 16383) HT_ ?_
        refine pu_ 14 49 (bm_ 23 32767) HT_ ?_
        refine pn_ 15 50 (bm_ 23 65535) HT_ ?_
        refine pn_ 16 51 (bm_ 23 131071) HT_ ?_
        refine pn_ 17 52 (bm_ 23 262143) HT_ ?_
        refine pn_ 18 53 (bm_ 23 524287) HT_ ?_
        refine pn_ 19 54 (bm_ 23 1048575) HT_ ?_
        refine pn_ 20 55 (bm_ 23 2097151) HT_ ?_
        refine pu_ 21 56 (bm_ 23 4194303) HT_ ?_
        refine pu_ 22 6 (bm_ 23 8388607) HT_ ?_
        refine done_ (done_of HT_.out (by kernel_rfl)) ?_
        try go_wp2
        go_ret
        exact ⟨by first | rfl | (simp [errW_none, errW_some] <;> rfl) | (simp [*, errW_none, errW_some] <;> first | rfl | exact given_isEmpty _ | exact (given_isEmpty _).symm), by repeat (first | (with_reducible first | exact HB.out | apply below_alloc | apply pw_below_drewN | apply below_drew1 | refine below_set ?_ GE417.out | refine below_set ?_ GE423.out | refine below_set ?_ GE427.out | refine below_set ?_ GE431.out) | exact HB.out)⟩
  ·replace c7 := Bool.eq_false_iff.mpr c7
   subst c7
   have H1 : (some true) = some r := by rw [if_neg (show ¬ (false = true) by decide)] at H; exact H
   clear H
   have H := H1
   clear H1
   obtain rfl := Option.some.inj H
   go_enter Tryd.func5, Tryd.ntmps5
   go_wp2_with (first | ((with_reducible refine gate_dst (N := 3) rfl ?_); refine box_event ?hg (N := 3) ?hd (cs := #[.bool a0_0, .slice A0_1 l0_1.length c0_1, .int .i64 a0_2]) (t := 24) ?hr ?_; (case hd => rfl); (case hg => rfl); (case hr => first | (go_simp; done) | (go_simp; rfl)); intro gb417 hg w110 hbox hb; have n0_ := Aside0.mk (below_step (bl_ HB).out hb); have n1_ := Aside0.mk (hbox); have n2_ := Aside0.mk ((by rw [hg]; exact (below_size (bl_ HB).out) : w.heap.size ≤ gb417)); have n3_ := Aside0.mk ((by rw [hg]; exact (below_size (bl_ HB).out) : w.heap.size ≤ gb417)); clear HB; have HB := n0_; have BK417 := n1_; have GW417 := n2_; have GE417 := n3_; clear n0_ n1_ n2_ n3_; clear hb hbox hg) | ((with_reducible refine gate_callee (f := 10) rfl ?_); refine goesL_ (some 12) rfl rfl Tryd.func10 (by kernel_rfl) rfl #[] rfl (by (try simp only [List.map_toArray, List.map_cons, List.map_nil]); first | done | rfl | (simp only [List.length_drop, List.length_take]; rfl) | (have z_ : ∀ s_ : ByteArray, s_.size ≤ 9223372036854775807 → -(s_.size : Int) = wrap64 (-(s_.size : Int)) := (fun s_ h_ => by unfold wrap64; omega); rw [← z_ _ (by omega)]; rfl) | (simp only [ByteArray.size_append]; rfl)) ?_; (with_reducible refine (florinlaw03_head.calls k  true _ A4.out).mono ?_); rintro e w111 ⟨rfl, hb⟩; refine ⟨_, rfl, ?_⟩; have n0_ := bb_ BK417 hb; have n1_ := Aside0.mk (below_step (bl_ HB).out hb); clear BK417; clear HB; have BK417 := n0_; have HB := n1_; clear n0_ n1_; (try clear hb); (try clear hb2); (try clear hk); (try clear hi); have hcz112_0 : w111.cell? ⟨gb417, 0, none⟩ = some (.bool a0_0) := bc_ BK417 0; have hcz112_1 : w111.cell? ⟨gb417, 1, none⟩ = some (.slice A0_1 l0_1.length c0_1) := bc_ BK417 1; have hcz112_2 : w111.cell? ⟨gb417, 2, none⟩ = some (.int .i64 a0_2) := bc_ BK417 2; have hfz112_0 := blk_frozen BK417.out 0; have hfz112_1 := blk_frozen BK417.out 1; have hfz112_2 := blk_frozen BK417.out 2) | ((with_reducible refine gate_callee (f := 11) rfl ?_); refine goesL_ (some 15) rfl rfl Tryd.func11 (by kernel_rfl) rfl #[.agg #[.bool a0_0, .slice A0_1 l0_1.length c0_1, .int .i64 a0_2], .int .i64 40] rfl (by (try simp only [List.map_toArray, List.map_cons, List.map_nil]); first | done | rfl | (simp only [List.length_drop, List.length_take]; rfl) | (have z_ : ∀ s_ : ByteArray, s_.size ≤ 9223372036854775807 → -(s_.size : Int) = wrap64 (-(s_.size : Int)) := (fun s_ h_ => by unfold wrap64; omega); rw [← z_ _ (by omega)]; rfl) | (simp only [ByteArray.size_append]; rfl)) ?_; (with_reducible refine (florinlaw02_Raw_Few.calls a0_0 _ _ l0_1 a0_2 40 false _ ?side1 ?side2 A6.out).mono ?_); (case side1 => repeat (first | exact (Kd.C_below HR0_1.out HB.out) | (with_reducible refine Kd.C_alloc ?_ _) | (with_reducible refine Kd.C_drewN ?_ _) | (with_reducible refine Kd.C_drew ?_))); (case side2 => exact HC0_1.out); rintro e w113 ⟨rfl, hb⟩; refine ⟨_, rfl, ?_⟩; have n0_ := bb_ BK417 hb; have n1_ := Aside0.mk (below_step (bl_ HB).out hb); clear BK417; clear HB; have BK417 := n0_; have HB := n1_; clear n0_ n1_; (try clear hb); (try clear hb2); (try clear hk); (try clear hi)))
   go_ret
   exact ⟨by first | rfl | (simp [errW_none, errW_some] <;> rfl) | (simp [*, errW_none, errW_some] <;> first | rfl | exact given_isEmpty _ | exact (given_isEmpty _).symm), by repeat (first | (with_reducible first | exact HB.out | apply below_alloc | apply pw_below_drewN | apply below_drew1 | refine below_set ?_ GE417.out) | exact HB.out)⟩
 ·replace c5 := Bool.eq_false_iff.mpr c5
  subst c5
  have H1 : (some false) = some r := by rw [if_neg (show ¬ (false = true) by decide)] at H; exact H
  clear H
  have H := H1
  clear H1
  obtain rfl := Option.some.inj H
  go_enter Tryd.func5, Tryd.ntmps5
  go_wp2_with (first | ((with_reducible refine gate_dst (N := 3) rfl ?_); refine box_event ?hg (N := 3) ?hd (cs := #[.bool a0_0, .slice A0_1 l0_1.length c0_1, .int .i64 a0_2]) (t := 24) ?hr ?_; (case hd => rfl); (case hg => rfl); (case hr => first | (go_simp; done) | (go_simp; rfl)); intro gb417 hg w114 hbox hb; have n0_ := Aside0.mk (below_step (bl_ HB).out hb); have n1_ := Aside0.mk (hbox); have n2_ := Aside0.mk ((by rw [hg]; exact (below_size (bl_ HB).out) : w.heap.size ≤ gb417)); have n3_ := Aside0.mk ((by rw [hg]; exact (below_size (bl_ HB).out) : w.heap.size ≤ gb417)); clear HB; have HB := n0_; have BK417 := n1_; have GW417 := n2_; have GE417 := n3_; clear n0_ n1_ n2_ n3_; clear hb hbox hg) | ((with_reducible refine gate_callee (f := 10) rfl ?_); refine goesL_ (some 12) rfl rfl Tryd.func10 (by kernel_rfl) rfl #[] rfl (by (try simp only [List.map_toArray, List.map_cons, List.map_nil]); first | done | rfl | (simp only [List.length_drop, List.length_take]; rfl) | (have z_ : ∀ s_ : ByteArray, s_.size ≤ 9223372036854775807 → -(s_.size : Int) = wrap64 (-(s_.size : Int)) := (fun s_ h_ => by unfold wrap64; omega); rw [← z_ _ (by omega)]; rfl) | (simp only [ByteArray.size_append]; rfl)) ?_; (with_reducible refine (florinlaw03_head.calls k  false _ A4.out).mono ?_); rintro e w115 ⟨rfl, hb⟩; refine ⟨_, rfl, ?_⟩; have n0_ := bb_ BK417 hb; have n1_ := Aside0.mk (below_step (bl_ HB).out hb); clear BK417; clear HB; have BK417 := n0_; have HB := n1_; clear n0_ n1_; (try clear hb); (try clear hb2); (try clear hk); (try clear hi)))
  go_ret
  exact ⟨by first | rfl | (simp [errW_none, errW_some] <;> rfl) | (simp [*, errW_none, errW_some] <;> first | rfl | exact given_isEmpty _ | exact (given_isEmpty _).symm), by repeat (first | (with_reducible first | exact HB.out | apply below_alloc | apply pw_below_drewN | apply below_drew1 | refine below_set ?_ GE417.out) | exact HB.out)⟩

end Go.Proofs.YtoegmienlhgjnaaDoor.P
