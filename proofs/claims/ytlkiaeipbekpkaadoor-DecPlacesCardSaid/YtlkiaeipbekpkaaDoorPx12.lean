-- written by a program of this session (wip/p2)
import Derived.Test.YtlkiaeipbekpkaaDoorPx0
import Derived.Test.YtlkiaeipbekpkaaDoorPx1
import Derived.Test.YtlkiaeipbekpkaaDoorPx2
import Derived.Test.YtlkiaeipbekpkaaDoorPx3
import Derived.Test.YtlkiaeipbekpkaaDoorPx4
import Derived.Test.YtlkiaeipbekpkaaDoorPx5
import Derived.Test.YtlkiaeipbekpkaaDoorPx9
import Derived.Test.YtlkiaeipbekpkaaDoorPx11
namespace Go.Proofs.YtlkiaeipbekpkaaDoor.P
open Go.RowKit Go.Proofs.YtlkiaeipbekpkaaDoorW.PrintWords Go.Proofs.YtlkiaeipbekpkaaDoorW.PrintLast Go.Proofs.YtlkiaeipbekpkaaDoorW.PrintMore
attribute [local go_sem] max2_int min2_int max_two min_two max_three min_three max_four min_four   -- for this text's walks alone
set_option linter.unusedVariables false
set_option linter.unusedSimpArgs false

attribute [local go_sem high] eqA24
/-! ### florinlaw02_DecPlaces: function 4 -/
mutual
def florinlaw02_DecPlaces.j0 : Nat → ByteArray → ByteArray → Bool → Bool → ByteArray → Int → Option (Bool)
 | 0, _, _, _, _, _, _ => none
 | k + 1, x4, x5, x53, x249000, x249001, x249002 => if x53 = true then (some false) else (if x4.toList = ([] : List UInt8) then (florinlaw02_DecPlaces.j1 k x4 x5 (⟨#[48]⟩ : ByteArray) x249000 x249001 x249002) else (florinlaw02_DecPlaces.j1 k x4 x5 x4 x249000 x249001 x249002))
def florinlaw02_DecPlaces.j1 : Nat → ByteArray → ByteArray → ByteArray → Bool → ByteArray → Int → Option (Bool)
 | 0, _, _, _, _, _, _ => none
 | k + 1, x4, x5, x6, x249000, x249001, x249002 => if x5.toList = ([] : List UInt8) then (florinlaw02_DecPlaces.j2 k x4 x5 x6 x249000 x249001 x249002) else (if x6.size + 1 ≤ 9223372036854775807 then (if (x6 ++ (⟨#[46]⟩ : ByteArray)).size + x5.size ≤ 9223372036854775807 then (florinlaw02_DecPlaces.j2 k x4 x5 ((x6 ++ (⟨#[46]⟩ : ByteArray)) ++ x5) x249000 x249001 x249002) else (none)) else (none))
def florinlaw02_DecPlaces.j2 : Nat → ByteArray → ByteArray → ByteArray → Bool → ByteArray → Int → Option (Bool)
 | 0, _, _, _, _, _, _ => none
 | k + 1, x4, x5, x6, x249000, x249001, x249002 => if x249000 = true then (if 1 + x6.size ≤ 9223372036854775807 then (florinlaw02_DecPlaces.j3 k x4 x5 ((⟨#[45]⟩ : ByteArray) ++ x6) x249000 x249001 x249002) else (none)) else (florinlaw02_DecPlaces.j3 k x4 x5 x6 x249000 x249001 x249002)
def florinlaw02_DecPlaces.j3 : Nat → ByteArray → ByteArray → ByteArray → Bool → ByteArray → Int → Option (Bool)
 | 0, _, _, _, _, _, _ => none
 | k + 1, x4, x5, x6, x249000, x249001, x249002 => (dec_Dec_Mag.f k x249000 x249001 x249002).bind fun bt261 => ((dec_Dec_Zero.f k x249000 x249001 x249002).bind fun t263 => (if t263 = true then (if bt261.2 = true then (some false) else (if bt261.1 = 0 then ((dec_Dec_Plain.f k x249000 x249001 x249002).bind fun t264 => (if t264.toList = ([48] : List UInt8) then ((dec_Dec_String.f k x249000 x249001 x249002).bind fun t265 => (some (t265.toList == ([48] : List UInt8)))) else (some false))) else (some false))) else (if x4.toList = ([] : List UInt8) then (florinlaw02_DecPlaces.l0 k x5 x6 bt261.1 bt261.2 0 x249000 x249001 x249002) else ((dec_Dec_Plain.f k x249000 x249001 x249002).bind fun t268 => (if t268.toList = x6.toList then (if bt261.2 = true then (some (bt261.1 == (wrap64 ((x4.size : Int) - 1)))) else (some false)) else (some false))))))
def florinlaw02_DecPlaces.l0 : Nat → ByteArray → ByteArray → Int → Bool → Int → Bool → ByteArray → Int → Option (Bool)
 | 0, _, _, _, _, _, _, _, _ => none
 | k + 1, x5, x6, x7, x8, x9, x249000, x249001, x249002 => if (wrap64 (-x9)) < (x5.size : Int) then (if 0 ≤ (wrap64 (-x9)) then (if (bt x5 (wrap64 (-x9))) = 48 then (florinlaw02_DecPlaces.l0 k x5 x6 x7 x8 (wrap64 (x9 - 1)) x249000 x249001 x249002) else ((dec_Dec_Plain.f k x249000 x249001 x249002).bind fun t266 => (if t266.toList = x6.toList then (if x8 = true then (some (x7 == (wrap64 (x9 - 1)))) else (some false)) else (some false)))) else (none)) else ((dec_Dec_Plain.f k x249000 x249001 x249002).bind fun t267 => (if t267.toList = x6.toList then (if x8 = true then (some (x7 == (wrap64 (x9 - 1)))) else (some false)) else (some false)))
end
def florinlaw02_DecPlaces.f (k : Nat) (a0_0 : Bool) (l0_1 : List Int) (a0_2 : Int) : Option (Bool) := (florinlaw02_head.f k).bind fun t240 => (if t240 = true then ((florinlaw02_Raw_Few.f a0_0 l0_1 a0_2 80).bind fun t241 => (if t241 = true then ((florinlaw02_Raw_Make.f k a0_0 l0_1 a0_2).bind fun bt242 => ((dec_Dec_Norm.f k bt242.1 bt242.2.1 bt242.2.2).bind fun bt245 => ((florinlaw02_Raw_Make.f k a0_0 l0_1 a0_2).bind fun bt249 => ((dec_Dec_Parts.f k bt249.1 bt249.2.1 bt249.2.2).bind fun bt252 => ((num_Trim.f k bt252.1).bind fun t254 => (if bt252.1.toList = t254.toList then (if (bt252.2.size : Int) > 0 then (if 0 ≤ (wrap64 ((bt252.2.size : Int) - 1)) then (if (wrap64 ((bt252.2.size : Int) - 1)) < (bt252.2.size : Int) then (if (bt bt252.2 (wrap64 ((bt252.2.size : Int) - 1))) = 48 then (florinlaw02_DecPlaces.j0 k bt252.1 bt252.2 true bt245.1 bt245.2.1 bt245.2.2) else (if bt252.1.size + bt252.2.size ≤ 9223372036854775807 then ((dec_Made.f k bt245.1 (bt252.1 ++ bt252.2) (-(bt252.2.size : Int))).bind fun bt255 => (florinlaw02_DecPlaces.j0 k bt252.1 bt252.2 (!(bt255.1 == bt245.1) || (!(bt255.2.1.toList == bt245.2.1.toList) || (!(bt255.2.2 == bt245.2.2)))) bt245.1 bt245.2.1 bt245.2.2)) else (none))) else (none)) else (none)) else (if bt252.1.size + bt252.2.size ≤ 9223372036854775807 then ((dec_Made.f k bt245.1 (bt252.1 ++ bt252.2) (-(bt252.2.size : Int))).bind fun bt258 => (florinlaw02_DecPlaces.j0 k bt252.1 bt252.2 (!(bt258.1 == bt245.1) || (!(bt258.2.1.toList == bt245.2.1.toList) || (!(bt258.2.2 == bt245.2.2)))) bt245.1 bt245.2.1 bt245.2.2)) else (none))) else (florinlaw02_DecPlaces.j0 k bt252.1 bt252.2 true bt245.1 bt245.2.1 bt245.2.2))))))) else (some true))) else (some false))
theorem florinlaw02_DecPlaces.mono_l : ∀ k, (∀ y0 y1 y2 y3 y4 y5, LeO (florinlaw02_DecPlaces.j0 k y0 y1 y2 y3 y4 y5) (florinlaw02_DecPlaces.j0 (k + 1) y0 y1 y2 y3 y4 y5)) ∧ (∀ y0 y1 y2 y3 y4 y5, LeO (florinlaw02_DecPlaces.j1 k y0 y1 y2 y3 y4 y5) (florinlaw02_DecPlaces.j1 (k + 1) y0 y1 y2 y3 y4 y5)) ∧ (∀ y0 y1 y2 y3 y4 y5, LeO (florinlaw02_DecPlaces.j2 k y0 y1 y2 y3 y4 y5) (florinlaw02_DecPlaces.j2 (k + 1) y0 y1 y2 y3 y4 y5)) ∧ (∀ y0 y1 y2 y3 y4 y5, LeO (florinlaw02_DecPlaces.j3 k y0 y1 y2 y3 y4 y5) (florinlaw02_DecPlaces.j3 (k + 1) y0 y1 y2 y3 y4 y5)) ∧ (∀ y0 y1 y2 y3 y4 y5 y6 y7, LeO (florinlaw02_DecPlaces.l0 k y0 y1 y2 y3 y4 y5 y6 y7) (florinlaw02_DecPlaces.l0 (k + 1) y0 y1 y2 y3 y4 y5 y6 y7))
 | 0 => ⟨fun _ _ _ _ _ _ r h => by simp [florinlaw02_DecPlaces.j0] at h, fun _ _ _ _ _ _ r h => by simp [florinlaw02_DecPlaces.j1] at h, fun _ _ _ _ _ _ r h => by simp [florinlaw02_DecPlaces.j2] at h, fun _ _ _ _ _ _ r h => by simp [florinlaw02_DecPlaces.j3] at h, fun _ _ _ _ _ _ _ _ r h => by simp [florinlaw02_DecPlaces.l0] at h⟩
 | k + 1 => by
  obtain ⟨ih0, ih1, ih2, ih3, ih4⟩ := florinlaw02_DecPlaces.mono_l k
  refine ⟨?_, ?_, ?_, ?_, ?_⟩
  ·intro y0 y1 y2 y3 y4 y5
   unfold florinlaw02_DecPlaces.j0
   repeat' first
   | (with_reducible exact ih0 _ _ _ _ _ _)
   | (with_reducible exact ih1 _ _ _ _ _ _)
   | (with_reducible exact ih2 _ _ _ _ _ _)
   | (with_reducible exact ih3 _ _ _ _ _ _)
   | (with_reducible exact ih4 _ _ _ _ _ _ _ _)
   | (with_reducible exact dec_Dec_Mag.mono _ _ _ _)
   | (with_reducible exact dec_Dec_Norm.mono _ _ _ _)
   | (with_reducible exact dec_Dec_Parts.mono _ _ _ _)
   | (with_reducible exact dec_Dec_Plain.mono _ _ _ _)
   | (with_reducible exact dec_Dec_String.mono _ _ _ _)
   | (with_reducible exact dec_Dec_Zero.mono _ _ _ _)
   | (with_reducible exact dec_Made.mono _ _ _ _)
   | (with_reducible exact florinlaw02_Raw_Make.mono _ _ _ _)
   | (with_reducible exact florinlaw02_head.mono _)
   | (with_reducible exact num_Trim.mono _ _)
   | (with_reducible exact LeO.refl _)
   | (with_reducible exact LeO.none _)
   | (with_reducible refine LeO.ite ?_ ?_)
   | (with_reducible refine LeO.bind ?_ (fun _ => ?_))
   | exact ih0 _ _ _ _ _ _
   | exact ih1 _ _ _ _ _ _
   | exact ih2 _ _ _ _ _ _
   | exact ih3 _ _ _ _ _ _
   | exact ih4 _ _ _ _ _ _ _ _
   | exact dec_Dec_Mag.mono _ _ _ _
   | exact dec_Dec_Norm.mono _ _ _ _
   | exact dec_Dec_Parts.mono _ _ _ _
   | exact dec_Dec_Plain.mono _ _ _ _
   | exact dec_Dec_String.mono _ _ _ _
   | exact dec_Dec_Zero.mono _ _ _ _
   | exact dec_Made.mono _ _ _ _
   | exact florinlaw02_Raw_Make.mono _ _ _ _
   | exact florinlaw02_head.mono _
   | exact num_Trim.mono _ _
   | exact LeO.none _
   | refine LeO.ite ?_ ?_
   | refine LeO.bind ?_ (fun _ => ?_)
  ·intro y0 y1 y2 y3 y4 y5
   unfold florinlaw02_DecPlaces.j1
   repeat' first
   | (with_reducible exact ih0 _ _ _ _ _ _)
   | (with_reducible exact ih1 _ _ _ _ _ _)
   | (with_reducible exact ih2 _ _ _ _ _ _)
   | (with_reducible exact ih3 _ _ _ _ _ _)
   | (with_reducible exact ih4 _ _ _ _ _ _ _ _)
   | (with_reducible exact dec_Dec_Mag.mono _ _ _ _)
   | (with_reducible exact dec_Dec_Norm.mono _ _ _ _)
   | (with_reducible exact dec_Dec_Parts.mono _ _ _ _)
   | (with_reducible exact dec_Dec_Plain.mono _ _ _ _)
   | (with_reducible exact dec_Dec_String.mono _ _ _ _)
   | (with_reducible exact dec_Dec_Zero.mono _ _ _ _)
   | (with_reducible exact dec_Made.mono _ _ _ _)
   | (with_reducible exact florinlaw02_Raw_Make.mono _ _ _ _)
   | (with_reducible exact florinlaw02_head.mono _)
   | (with_reducible exact num_Trim.mono _ _)
   | (with_reducible exact LeO.refl _)
   | (with_reducible exact LeO.none _)
   | (with_reducible refine LeO.ite ?_ ?_)
   | (with_reducible refine LeO.bind ?_ (fun _ => ?_))
   | exact ih0 _ _ _ _ _ _
   | exact ih1 _ _ _ _ _ _
   | exact ih2 _ _ _ _ _ _
   | exact ih3 _ _ _ _ _ _
   | exact ih4 _ _ _ _ _ _ _ _
   | exact dec_Dec_Mag.mono _ _ _ _
   | exact dec_Dec_Norm.mono _ _ _ _
   | exact dec_Dec_Parts.mono _ _ _ _
   | exact dec_Dec_Plain.mono _ _ _ _
   | exact dec_Dec_String.mono _ _ _ _
   | exact dec_Dec_Zero.mono _ _ _ _
   | exact dec_Made.mono _ _ _ _
   | exact florinlaw02_Raw_Make.mono _ _ _ _
   | exact florinlaw02_head.mono _
   | exact num_Trim.mono _ _
   | exact LeO.none _
   | refine LeO.ite ?_ ?_
   | refine LeO.bind ?_ (fun _ => ?_)
  ·intro y0 y1 y2 y3 y4 y5
   unfold florinlaw02_DecPlaces.j2
   repeat' first
   | (with_reducible exact ih0 _ _ _ _ _ _)
   | (with_reducible exact ih1 _ _ _ _ _ _)
   | (with_reducible exact ih2 _ _ _ _ _ _)
   | (with_reducible exact ih3 _ _ _ _ _ _)
   | (with_reducible exact ih4 _ _ _ _ _ _ _ _)
   | (with_reducible exact dec_Dec_Mag.mono _ _ _ _)
   | (with_reducible exact dec_Dec_Norm.mono _ _ _ _)
   | (with_reducible exact dec_Dec_Parts.mono _ _ _ _)
   | (with_reducible exact dec_Dec_Plain.mono _ _ _ _)
   | (with_reducible exact dec_Dec_String.mono _ _ _ _)
   | (with_reducible exact dec_Dec_Zero.mono _ _ _ _)
   | (with_reducible exact dec_Made.mono _ _ _ _)
   | (with_reducible exact florinlaw02_Raw_Make.mono _ _ _ _)
   | (with_reducible exact florinlaw02_head.mono _)
   | (with_reducible exact num_Trim.mono _ _)
   | (with_reducible exact LeO.refl _)
   | (with_reducible exact LeO.none _)
   | (with_reducible refine LeO.ite ?_ ?_)
   | (with_reducible refine LeO.bind ?_ (fun _ => ?_))
   | exact ih0 _ _ _ _ _ _
   | exact ih1 _ _ _ _ _ _
   | exact ih2 _ _ _ _ _ _
   | exact ih3 _ _ _ _ _ _
   | exact ih4 _ _ _ _ _ _ _ _
   | exact dec_Dec_Mag.mono _ _ _ _
   | exact dec_Dec_Norm.mono _ _ _ _
   | exact dec_Dec_Parts.mono _ _ _ _
   | exact dec_Dec_Plain.mono _ _ _ _
   | exact dec_Dec_String.mono _ _ _ _
   | exact dec_Dec_Zero.mono _ _ _ _
   | exact dec_Made.mono _ _ _ _
   | exact florinlaw02_Raw_Make.mono _ _ _ _
   | exact florinlaw02_head.mono _
   | exact num_Trim.mono _ _
   | exact LeO.none _
   | refine LeO.ite ?_ ?_
   | refine LeO.bind ?_ (fun _ => ?_)
  ·intro y0 y1 y2 y3 y4 y5
   unfold florinlaw02_DecPlaces.j3
   repeat' first
   | (with_reducible exact ih0 _ _ _ _ _ _)
   | (with_reducible exact ih1 _ _ _ _ _ _)
   | (with_reducible exact ih2 _ _ _ _ _ _)
   | (with_reducible exact ih3 _ _ _ _ _ _)
   | (with_reducible exact ih4 _ _ _ _ _ _ _ _)
   | (with_reducible exact dec_Dec_Mag.mono _ _ _ _)
   | (with_reducible exact dec_Dec_Norm.mono _ _ _ _)
   | (with_reducible exact dec_Dec_Parts.mono _ _ _ _)
   | (with_reducible exact dec_Dec_Plain.mono _ _ _ _)
   | (with_reducible exact dec_Dec_String.mono _ _ _ _)
   | (with_reducible exact dec_Dec_Zero.mono _ _ _ _)
   | (with_reducible exact dec_Made.mono _ _ _ _)
   | (with_reducible exact florinlaw02_Raw_Make.mono _ _ _ _)
   | (with_reducible exact florinlaw02_head.mono _)
   | (with_reducible exact num_Trim.mono _ _)
   | (with_reducible exact LeO.refl _)
   | (with_reducible exact LeO.none _)
   | (with_reducible refine LeO.ite ?_ ?_)
   | (with_reducible refine LeO.bind ?_ (fun _ => ?_))
   | exact ih0 _ _ _ _ _ _
   | exact ih1 _ _ _ _ _ _
   | exact ih2 _ _ _ _ _ _
   | exact ih3 _ _ _ _ _ _
   | exact ih4 _ _ _ _ _ _ _ _
   | exact dec_Dec_Mag.mono _ _ _ _
   | exact dec_Dec_Norm.mono _ _ _ _
   | exact dec_Dec_Parts.mono _ _ _ _
   | exact dec_Dec_Plain.mono _ _ _ _
   | exact dec_Dec_String.mono _ _ _ _
   | exact dec_Dec_Zero.mono _ _ _ _
   | exact dec_Made.mono _ _ _ _
   | exact florinlaw02_Raw_Make.mono _ _ _ _
   | exact florinlaw02_head.mono _
   | exact num_Trim.mono _ _
   | exact LeO.none _
   | refine LeO.ite ?_ ?_
   | refine LeO.bind ?_ (fun _ => ?_)
  ·intro y0 y1 y2 y3 y4 y5 y6 y7
   unfold florinlaw02_DecPlaces.l0
   repeat' first
   | (with_reducible exact ih0 _ _ _ _ _ _)
   | (with_reducible exact ih1 _ _ _ _ _ _)
   | (with_reducible exact ih2 _ _ _ _ _ _)
   | (with_reducible exact ih3 _ _ _ _ _ _)
   | (with_reducible exact ih4 _ _ _ _ _ _ _ _)
   | (with_reducible exact dec_Dec_Mag.mono _ _ _ _)
   | (with_reducible exact dec_Dec_Norm.mono _ _ _ _)
   | (with_reducible exact dec_Dec_Parts.mono _ _ _ _)
   | (with_reducible exact dec_Dec_Plain.mono _ _ _ _)
   | (with_reducible exact dec_Dec_String.mono _ _ _ _)
   | (with_reducible exact dec_Dec_Zero.mono _ _ _ _)
   | (with_reducible exact dec_Made.mono _ _ _ _)
   | (with_reducible exact florinlaw02_Raw_Make.mono _ _ _ _)
   | (with_reducible exact florinlaw02_head.mono _)
   | (with_reducible exact num_Trim.mono _ _)
   | (with_reducible exact LeO.refl _)
   | (with_reducible exact LeO.none _)
   | (with_reducible refine LeO.ite ?_ ?_)
   | (with_reducible refine LeO.bind ?_ (fun _ => ?_))
   | exact ih0 _ _ _ _ _ _
   | exact ih1 _ _ _ _ _ _
   | exact ih2 _ _ _ _ _ _
   | exact ih3 _ _ _ _ _ _
   | exact ih4 _ _ _ _ _ _ _ _
   | exact dec_Dec_Mag.mono _ _ _ _
   | exact dec_Dec_Norm.mono _ _ _ _
   | exact dec_Dec_Parts.mono _ _ _ _
   | exact dec_Dec_Plain.mono _ _ _ _
   | exact dec_Dec_String.mono _ _ _ _
   | exact dec_Dec_Zero.mono _ _ _ _
   | exact dec_Made.mono _ _ _ _
   | exact florinlaw02_Raw_Make.mono _ _ _ _
   | exact florinlaw02_head.mono _
   | exact num_Trim.mono _ _
   | exact LeO.none _
   | refine LeO.ite ?_ ?_
   | refine LeO.bind ?_ (fun _ => ?_)
theorem florinlaw02_DecPlaces.mono : ∀ a0 a1 a2 k, LeO (florinlaw02_DecPlaces.f k a0 a1 a2) (florinlaw02_DecPlaces.f (k + 1) a0 a1 a2) := by
 intro a0 a1 a2 k
 obtain ⟨ih0, ih1, ih2, ih3, ih4⟩ := florinlaw02_DecPlaces.mono_l k
 unfold florinlaw02_DecPlaces.f
 repeat' first
   | (with_reducible exact ih0 _ _ _ _ _ _)
   | (with_reducible exact ih1 _ _ _ _ _ _)
   | (with_reducible exact ih2 _ _ _ _ _ _)
   | (with_reducible exact ih3 _ _ _ _ _ _)
   | (with_reducible exact ih4 _ _ _ _ _ _ _ _)
   | (with_reducible exact dec_Dec_Mag.mono _ _ _ _)
   | (with_reducible exact dec_Dec_Norm.mono _ _ _ _)
   | (with_reducible exact dec_Dec_Parts.mono _ _ _ _)
   | (with_reducible exact dec_Dec_Plain.mono _ _ _ _)
   | (with_reducible exact dec_Dec_String.mono _ _ _ _)
   | (with_reducible exact dec_Dec_Zero.mono _ _ _ _)
   | (with_reducible exact dec_Made.mono _ _ _ _)
   | (with_reducible exact florinlaw02_Raw_Make.mono _ _ _ _)
   | (with_reducible exact florinlaw02_head.mono _)
   | (with_reducible exact num_Trim.mono _ _)
   | (with_reducible exact LeO.refl _)
   | (with_reducible exact LeO.none _)
   | (with_reducible refine LeO.ite ?_ ?_)
   | (with_reducible refine LeO.bind ?_ (fun _ => ?_))
   | exact ih0 _ _ _ _ _ _
   | exact ih1 _ _ _ _ _ _
   | exact ih2 _ _ _ _ _ _
   | exact ih3 _ _ _ _ _ _
   | exact ih4 _ _ _ _ _ _ _ _
   | exact dec_Dec_Mag.mono _ _ _ _
   | exact dec_Dec_Norm.mono _ _ _ _
   | exact dec_Dec_Parts.mono _ _ _ _
   | exact dec_Dec_Plain.mono _ _ _ _
   | exact dec_Dec_String.mono _ _ _ _
   | exact dec_Dec_Zero.mono _ _ _ _
   | exact dec_Made.mono _ _ _ _
   | exact florinlaw02_Raw_Make.mono _ _ _ _
   | exact florinlaw02_head.mono _
   | exact num_Trim.mono _ _
   | exact LeO.none _
   | refine LeO.ite ?_ ?_
   | refine LeO.bind ?_ (fun _ => ?_)
def florinlaw02_DecPlaces.T7 : Bool × List (List Nat × List Nat) := (true, [([], []), ([], []), ([1], [1]), ([0, 2], [0, 2]), ([3, 2], [3]), ([4], [4]), ([5, 4], [4, 5]), ([6, 4], [4, 6]), ([7, 4, 4], [4, 7]), ([8], [8]), ([8], [8]), ([10, 8], [8, 10]), ([11, 8], [8, 11]), ([9, 12, 8], [8, 9, 12]), ([13, 8], [8, 13]), ([8, 14, 4], [4, 8, 14]), ([4, 15], [4, 15]), ([16, 8], [16]), ([17], [17]), ([18, 17], [17, 18]), ([17], [17]), ([17], [17]), ([20, 21, 17], [17, 20, 21]), ([17], [17]), ([23, 17], [17, 23]), ([24, 17], [17, 24]), ([19, 22, 25, 17, 17], [17, 19, 22, 25]), ([17], [17]), ([26, 27, 17], [17, 26, 27]), ([17, 28], [17, 28])])
def florinlaw02_DecPlaces.B7 : List Nat := [0, 0, 2, 7, 15, 31, 63, 127, 255, 511, 511, 1535, 3583, 8191, 16383, 32767, 65535, 131071, 262143, 524287, 262143, 262143, 3407871, 262143, 8650751, 25427967, 67108863, 262143, 268435455, 536870911]
theorem florinlaw02_DecPlaces.tab7 : rtab .any (opsOf Tryd.f4 7) = florinlaw02_DecPlaces.T7 := by kernel_rfl
theorem florinlaw02_DecPlaces.bits7 : waitsOk florinlaw02_DecPlaces.T7.2 florinlaw02_DecPlaces.B7 = true := by kernel_rfl
set_option maxHeartbeats 8000000 in
set_option maxRecDepth 100000 in
theorem florinlaw02_DecPlaces.calls (k : Nat) (a0_0 : Bool) (A0_1 : Option Addr) (c0_1 : Nat) (l0_1 : List Int) (a0_2 : Int) (r : Bool) (w : World) (hr0_1 : Kd.C (Kd.int .u8) w A0_1 l0_1.length l0_1) (hc0_1 : l0_1.length ≤ c0_1) (h : florinlaw02_DecPlaces.f k a0_0 l0_1 a0_2 = some r) :
  Calls Tryd.prog 4 #[.agg #[.bool a0_0, .slice A0_1 l0_1.length c0_1, .int .i64 a0_2]] w fun e w' => e = .returned (.bool r) ∧ Below w.heap.size w w' := by
 have hu33 := Tryd.underlying33
 have hu24 := Tryd.underlying24
 have HR0_1 := Aside0.mk hr0_1
 have HC0_1 := Aside0.mk hc0_1
 clear hr0_1 hc0_1
 have HB := Aside0.mk (Below.refl w.heap.size w)
 have H : ((florinlaw02_head.f k).bind fun t240 => (if t240 = true then ((florinlaw02_Raw_Few.f a0_0 l0_1 a0_2 80).bind fun t241 => (if t241 = true then ((florinlaw02_Raw_Make.f k a0_0 l0_1 a0_2).bind fun bt242 => ((dec_Dec_Norm.f k bt242.1 bt242.2.1 bt242.2.2).bind fun bt245 => ((florinlaw02_Raw_Make.f k a0_0 l0_1 a0_2).bind fun bt249 => ((dec_Dec_Parts.f k bt249.1 bt249.2.1 bt249.2.2).bind fun bt252 => ((num_Trim.f k bt252.1).bind fun t254 => (if bt252.1.toList = t254.toList then (if (bt252.2.size : Int) > 0 then (if 0 ≤ (wrap64 ((bt252.2.size : Int) - 1)) then (if (wrap64 ((bt252.2.size : Int) - 1)) < (bt252.2.size : Int) then (if (bt bt252.2 (wrap64 ((bt252.2.size : Int) - 1))) = 48 then (florinlaw02_DecPlaces.j0 k bt252.1 bt252.2 true bt245.1 bt245.2.1 bt245.2.2) else (if bt252.1.size + bt252.2.size ≤ 9223372036854775807 then ((dec_Made.f k bt245.1 (bt252.1 ++ bt252.2) (-(bt252.2.size : Int))).bind fun bt255 => (florinlaw02_DecPlaces.j0 k bt252.1 bt252.2 (!(bt255.1 == bt245.1) || (!(bt255.2.1.toList == bt245.2.1.toList) || (!(bt255.2.2 == bt245.2.2)))) bt245.1 bt245.2.1 bt245.2.2)) else (none))) else (none)) else (none)) else (if bt252.1.size + bt252.2.size ≤ 9223372036854775807 then ((dec_Made.f k bt245.1 (bt252.1 ++ bt252.2) (-(bt252.2.size : Int))).bind fun bt258 => (florinlaw02_DecPlaces.j0 k bt252.1 bt252.2 (!(bt258.1 == bt245.1) || (!(bt258.2.1.toList == bt245.2.1.toList) || (!(bt258.2.2 == bt245.2.2)))) bt245.1 bt245.2.1 bt245.2.2)) else (none))) else (florinlaw02_DecPlaces.j0 k bt252.1 bt252.2 true bt245.1 bt245.2.1 bt245.2.2))))))) else (some true))) else (some false))) = some r := h
 clear h
 replace H := Option.bind_eq_some_iff.mp H
 obtain ⟨t240, A20, H⟩ := H
 replace H : (if t240 = true then ((florinlaw02_Raw_Few.f a0_0 l0_1 a0_2 80).bind fun t241 => (if t241 = true then ((florinlaw02_Raw_Make.f k a0_0 l0_1 a0_2).bind fun bt242 => ((dec_Dec_Norm.f k bt242.1 bt242.2.1 bt242.2.2).bind fun bt245 => ((florinlaw02_Raw_Make.f k a0_0 l0_1 a0_2).bind fun bt249 => ((dec_Dec_Parts.f k bt249.1 bt249.2.1 bt249.2.2).bind fun bt252 => ((num_Trim.f k bt252.1).bind fun t254 => (if bt252.1.toList = t254.toList then (if (bt252.2.size : Int) > 0 then (if 0 ≤ (wrap64 ((bt252.2.size : Int) - 1)) then (if (wrap64 ((bt252.2.size : Int) - 1)) < (bt252.2.size : Int) then (if (bt bt252.2 (wrap64 ((bt252.2.size : Int) - 1))) = 48 then (florinlaw02_DecPlaces.j0 k bt252.1 bt252.2 true bt245.1 bt245.2.1 bt245.2.2) else (if bt252.1.size + bt252.2.size ≤ 9223372036854775807 then ((dec_Made.f k bt245.1 (bt252.1 ++ bt252.2) (-(bt252.2.size : Int))).bind fun bt255 => (florinlaw02_DecPlaces.j0 k bt252.1 bt252.2 (!(bt255.1 == bt245.1) || (!(bt255.2.1.toList == bt245.2.1.toList) || (!(bt255.2.2 == bt245.2.2)))) bt245.1 bt245.2.1 bt245.2.2)) else (none))) else (none)) else (none)) else (if bt252.1.size + bt252.2.size ≤ 9223372036854775807 then ((dec_Made.f k bt245.1 (bt252.1 ++ bt252.2) (-(bt252.2.size : Int))).bind fun bt258 => (florinlaw02_DecPlaces.j0 k bt252.1 bt252.2 (!(bt258.1 == bt245.1) || (!(bt258.2.1.toList == bt245.2.1.toList) || (!(bt258.2.2 == bt245.2.2)))) bt245.1 bt245.2.1 bt245.2.2)) else (none))) else (florinlaw02_DecPlaces.j0 k bt252.1 bt252.2 true bt245.1 bt245.2.1 bt245.2.2))))))) else (some true))) else (some false)) = some r := H
 have A2 := Aside0.mk A20
 clear A20
 by_cases c3 : t240 = true
 ·subst c3
  have H1 : ((florinlaw02_Raw_Few.f a0_0 l0_1 a0_2 80).bind fun t241 => (if t241 = true then ((florinlaw02_Raw_Make.f k a0_0 l0_1 a0_2).bind fun bt242 => ((dec_Dec_Norm.f k bt242.1 bt242.2.1 bt242.2.2).bind fun bt245 => ((florinlaw02_Raw_Make.f k a0_0 l0_1 a0_2).bind fun bt249 => ((dec_Dec_Parts.f k bt249.1 bt249.2.1 bt249.2.2).bind fun bt252 => ((num_Trim.f k bt252.1).bind fun t254 => (if bt252.1.toList = t254.toList then (if (bt252.2.size : Int) > 0 then (if 0 ≤ (wrap64 ((bt252.2.size : Int) - 1)) then (if (wrap64 ((bt252.2.size : Int) - 1)) < (bt252.2.size : Int) then (if (bt bt252.2 (wrap64 ((bt252.2.size : Int) - 1))) = 48 then (florinlaw02_DecPlaces.j0 k bt252.1 bt252.2 true bt245.1 bt245.2.1 bt245.2.2) else (if bt252.1.size + bt252.2.size ≤ 9223372036854775807 then ((dec_Made.f k bt245.1 (bt252.1 ++ bt252.2) (-(bt252.2.size : Int))).bind fun bt255 => (florinlaw02_DecPlaces.j0 k bt252.1 bt252.2 (!(bt255.1 == bt245.1) || (!(bt255.2.1.toList == bt245.2.1.toList) || (!(bt255.2.2 == bt245.2.2)))) bt245.1 bt245.2.1 bt245.2.2)) else (none))) else (none)) else (none)) else (if bt252.1.size + bt252.2.size ≤ 9223372036854775807 then ((dec_Made.f k bt245.1 (bt252.1 ++ bt252.2) (-(bt252.2.size : Int))).bind fun bt258 => (florinlaw02_DecPlaces.j0 k bt252.1 bt252.2 (!(bt258.1 == bt245.1) || (!(bt258.2.1.toList == bt245.2.1.toList) || (!(bt258.2.2 == bt245.2.2)))) bt245.1 bt245.2.1 bt245.2.2)) else (none))) else (florinlaw02_DecPlaces.j0 k bt252.1 bt252.2 true bt245.1 bt245.2.1 bt245.2.2))))))) else (some true))) = some r := by rw [if_pos rfl] at H; exact H
  clear H
  have H := H1
  clear H1
  replace H := Option.bind_eq_some_iff.mp H
  obtain ⟨t241, A40, H⟩ := H
  replace H : (if t241 = true then ((florinlaw02_Raw_Make.f k a0_0 l0_1 a0_2).bind fun bt242 => ((dec_Dec_Norm.f k bt242.1 bt242.2.1 bt242.2.2).bind fun bt245 => ((florinlaw02_Raw_Make.f k a0_0 l0_1 a0_2).bind fun bt249 => ((dec_Dec_Parts.f k bt249.1 bt249.2.1 bt249.2.2).bind fun bt252 => ((num_Trim.f k bt252.1).bind fun t254 => (if bt252.1.toList = t254.toList then (if (bt252.2.size : Int) > 0 then (if 0 ≤ (wrap64 ((bt252.2.size : Int) - 1)) then (if (wrap64 ((bt252.2.size : Int) - 1)) < (bt252.2.size : Int) then (if (bt bt252.2 (wrap64 ((bt252.2.size : Int) - 1))) = 48 then (florinlaw02_DecPlaces.j0 k bt252.1 bt252.2 true bt245.1 bt245.2.1 bt245.2.2) else (if bt252.1.size + bt252.2.size ≤ 9223372036854775807 then ((dec_Made.f k bt245.1 (bt252.1 ++ bt252.2) (-(bt252.2.size : Int))).bind fun bt255 => (florinlaw02_DecPlaces.j0 k bt252.1 bt252.2 (!(bt255.1 == bt245.1) || (!(bt255.2.1.toList == bt245.2.1.toList) || (!(bt255.2.2 == bt245.2.2)))) bt245.1 bt245.2.1 bt245.2.2)) else (none))) else (none)) else (none)) else (if bt252.1.size + bt252.2.size ≤ 9223372036854775807 then ((dec_Made.f k bt245.1 (bt252.1 ++ bt252.2) (-(bt252.2.size : Int))).bind fun bt258 => (florinlaw02_DecPlaces.j0 k bt252.1 bt252.2 (!(bt258.1 == bt245.1) || (!(bt258.2.1.toList == bt245.2.1.toList) || (!(bt258.2.2 == bt245.2.2)))) bt245.1 bt245.2.1 bt245.2.2)) else (none))) else (florinlaw02_DecPlaces.j0 k bt252.1 bt252.2 true bt245.1 bt245.2.1 bt245.2.2))))))) else (some true)) = some r := H
  have A4 := Aside0.mk A40
  clear A40
  by_cases c5 : t241 = true
  ·subst c5
   have H1 : ((florinlaw02_Raw_Make.f k a0_0 l0_1 a0_2).bind fun bt242 => ((dec_Dec_Norm.f k bt242.1 bt242.2.1 bt242.2.2).bind fun bt245 => ((florinlaw02_Raw_Make.f k a0_0 l0_1 a0_2).bind fun bt249 => ((dec_Dec_Parts.f k bt249.1 bt249.2.1 bt249.2.2).bind fun bt252 => ((num_Trim.f k bt252.1).bind fun t254 => (if bt252.1.toList = t254.toList then (if (bt252.2.size : Int) > 0 then (if 0 ≤ (wrap64 ((bt252.2.size : Int) - 1)) then (if (wrap64 ((bt252.2.size : Int) - 1)) < (bt252.2.size : Int) then (if (bt bt252.2 (wrap64 ((bt252.2.size : Int) - 1))) = 48 then (florinlaw02_DecPlaces.j0 k bt252.1 bt252.2 true bt245.1 bt245.2.1 bt245.2.2) else (if bt252.1.size + bt252.2.size ≤ 9223372036854775807 then ((dec_Made.f k bt245.1 (bt252.1 ++ bt252.2) (-(bt252.2.size : Int))).bind fun bt255 => (florinlaw02_DecPlaces.j0 k bt252.1 bt252.2 (!(bt255.1 == bt245.1) || (!(bt255.2.1.toList == bt245.2.1.toList) || (!(bt255.2.2 == bt245.2.2)))) bt245.1 bt245.2.1 bt245.2.2)) else (none))) else (none)) else (none)) else (if bt252.1.size + bt252.2.size ≤ 9223372036854775807 then ((dec_Made.f k bt245.1 (bt252.1 ++ bt252.2) (-(bt252.2.size : Int))).bind fun bt258 => (florinlaw02_DecPlaces.j0 k bt252.1 bt252.2 (!(bt258.1 == bt245.1) || (!(bt258.2.1.toList == bt245.2.1.toList) || (!(bt258.2.2 == bt245.2.2)))) bt245.1 bt245.2.1 bt245.2.2)) else (none))) else (florinlaw02_DecPlaces.j0 k bt252.1 bt252.2 true bt245.1 bt245.2.1 bt245.2.2))))))) = some r := by rw [if_pos rfl] at H; exact H
   clear H
   have H := H1
   clear H1
   replace H := Option.bind_eq_some_iff.mp H
   obtain ⟨⟨t242, t243, t244⟩, A60, H⟩ := H
   replace H : ((dec_Dec_Norm.f k t242 t243 t244).bind fun bt245 => ((florinlaw02_Raw_Make.f k a0_0 l0_1 a0_2).bind fun bt249 => ((dec_Dec_Parts.f k bt249.1 bt249.2.1 bt249.2.2).bind fun bt252 => ((num_Trim.f k bt252.1).bind fun t254 => (if bt252.1.toList = t254.toList then (if (bt252.2.size : Int) > 0 then (if 0 ≤ (wrap64 ((bt252.2.size : Int) - 1)) then (if (wrap64 ((bt252.2.size : Int) - 1)) < (bt252.2.size : Int) then (if (bt bt252.2 (wrap64 ((bt252.2.size : Int) - 1))) = 48 then (florinlaw02_DecPlaces.j0 k bt252.1 bt252.2 true bt245.1 bt245.2.1 bt245.2.2) else (if bt252.1.size + bt252.2.size ≤ 9223372036854775807 then ((dec_Made.f k bt245.1 (bt252.1 ++ bt252.2) (-(bt252.2.size : Int))).bind fun bt255 => (florinlaw02_DecPlaces.j0 k bt252.1 bt252.2 (!(bt255.1 == bt245.1) || (!(bt255.2.1.toList == bt245.2.1.toList) || (!(bt255.2.2 == bt245.2.2)))) bt245.1 bt245.2.1 bt245.2.2)) else (none))) else (none)) else (none)) else (if bt252.1.size + bt252.2.size ≤ 9223372036854775807 then ((dec_Made.f k bt245.1 (bt252.1 ++ bt252.2) (-(bt252.2.size : Int))).bind fun bt258 => (florinlaw02_DecPlaces.j0 k bt252.1 bt252.2 (!(bt258.1 == bt245.1) || (!(bt258.2.1.toList == bt245.2.1.toList) || (!(bt258.2.2 == bt245.2.2)))) bt245.1 bt245.2.1 bt245.2.2)) else (none))) else (florinlaw02_DecPlaces.j0 k bt252.1 bt252.2 true bt245.1 bt245.2.1 bt245.2.2)))))) = some r := H
   have A6 := Aside0.mk A60
   clear A60
   replace H := Option.bind_eq_some_iff.mp H
   obtain ⟨⟨t245, t246, t247⟩, A70, H⟩ := H
   replace H : ((florinlaw02_Raw_Make.f k a0_0 l0_1 a0_2).bind fun bt249 => ((dec_Dec_Parts.f k bt249.1 bt249.2.1 bt249.2.2).bind fun bt252 => ((num_Trim.f k bt252.1).bind fun t254 => (if bt252.1.toList = t254.toList then (if (bt252.2.size : Int) > 0 then (if 0 ≤ (wrap64 ((bt252.2.size : Int) - 1)) then (if (wrap64 ((bt252.2.size : Int) - 1)) < (bt252.2.size : Int) then (if (bt bt252.2 (wrap64 ((bt252.2.size : Int) - 1))) = 48 then (florinlaw02_DecPlaces.j0 k bt252.1 bt252.2 true t245 t246 t247) else (if bt252.1.size + bt252.2.size ≤ 9223372036854775807 then ((dec_Made.f k t245 (bt252.1 ++ bt252.2) (-(bt252.2.size : Int))).bind fun bt255 => (florinlaw02_DecPlaces.j0 k bt252.1 bt252.2 (!(bt255.1 == t245) || (!(bt255.2.1.toList == t246.toList) || (!(bt255.2.2 == t247)))) t245 t246 t247)) else (none))) else (none)) else (none)) else (if bt252.1.size + bt252.2.size ≤ 9223372036854775807 then ((dec_Made.f k t245 (bt252.1 ++ bt252.2) (-(bt252.2.size : Int))).bind fun bt258 => (florinlaw02_DecPlaces.j0 k bt252.1 bt252.2 (!(bt258.1 == t245) || (!(bt258.2.1.toList == t246.toList) || (!(bt258.2.2 == t247)))) t245 t246 t247)) else (none))) else (florinlaw02_DecPlaces.j0 k bt252.1 bt252.2 true t245 t246 t247))))) = some r := H
   have A7 := Aside0.mk A70
   clear A70
   replace H := Option.bind_eq_some_iff.mp H
   obtain ⟨⟨t249, t250, t251⟩, A80, H⟩ := H
   replace H : ((dec_Dec_Parts.f k t249 t250 t251).bind fun bt252 => ((num_Trim.f k bt252.1).bind fun t254 => (if bt252.1.toList = t254.toList then (if (bt252.2.size : Int) > 0 then (if 0 ≤ (wrap64 ((bt252.2.size : Int) - 1)) then (if (wrap64 ((bt252.2.size : Int) - 1)) < (bt252.2.size : Int) then (if (bt bt252.2 (wrap64 ((bt252.2.size : Int) - 1))) = 48 then (florinlaw02_DecPlaces.j0 k bt252.1 bt252.2 true t245 t246 t247) else (if bt252.1.size + bt252.2.size ≤ 9223372036854775807 then ((dec_Made.f k t245 (bt252.1 ++ bt252.2) (-(bt252.2.size : Int))).bind fun bt255 => (florinlaw02_DecPlaces.j0 k bt252.1 bt252.2 (!(bt255.1 == t245) || (!(bt255.2.1.toList == t246.toList) || (!(bt255.2.2 == t247)))) t245 t246 t247)) else (none))) else (none)) else (none)) else (if bt252.1.size + bt252.2.size ≤ 9223372036854775807 then ((dec_Made.f k t245 (bt252.1 ++ bt252.2) (-(bt252.2.size : Int))).bind fun bt258 => (florinlaw02_DecPlaces.j0 k bt252.1 bt252.2 (!(bt258.1 == t245) || (!(bt258.2.1.toList == t246.toList) || (!(bt258.2.2 == t247)))) t245 t246 t247)) else (none))) else (florinlaw02_DecPlaces.j0 k bt252.1 bt252.2 true t245 t246 t247)))) = some r := H
   have A8 := Aside0.mk A80
   clear A80
   replace H := Option.bind_eq_some_iff.mp H
   obtain ⟨⟨t252, t253⟩, A90, H⟩ := H
   replace H : ((num_Trim.f k t252).bind fun t254 => (if t252.toList = t254.toList then (if (t253.size : Int) > 0 then (if 0 ≤ (wrap64 ((t253.size : Int) - 1)) then (if (wrap64 ((t253.size : Int) - 1)) < (t253.size : Int) then (if (bt t253 (wrap64 ((t253.size : Int) - 1))) = 48 then (florinlaw02_DecPlaces.j0 k t252 t253 true t245 t246 t247) else (if t252.size + t253.size ≤ 9223372036854775807 then ((dec_Made.f k t245 (t252 ++ t253) (-(t253.size : Int))).bind fun bt255 => (florinlaw02_DecPlaces.j0 k t252 t253 (!(bt255.1 == t245) || (!(bt255.2.1.toList == t246.toList) || (!(bt255.2.2 == t247)))) t245 t246 t247)) else (none))) else (none)) else (none)) else (if t252.size + t253.size ≤ 9223372036854775807 then ((dec_Made.f k t245 (t252 ++ t253) (-(t253.size : Int))).bind fun bt258 => (florinlaw02_DecPlaces.j0 k t252 t253 (!(bt258.1 == t245) || (!(bt258.2.1.toList == t246.toList) || (!(bt258.2.2 == t247)))) t245 t246 t247)) else (none))) else (florinlaw02_DecPlaces.j0 k t252 t253 true t245 t246 t247))) = some r := H
   have A9 := Aside0.mk A90
   clear A90
   have HC10 := Aside0.mk H
   clear H
   go_enter Tryd.func4, Tryd.ntmps4
   go_upto_region 7 with (first | ((with_reducible refine gate_dst (N := 1) rfl ?_); (try (refine gate_guard (by rfl) ?_; dsimp only)); refine box_event ?hg (N := 1) ?hd (cs := #[.bool a0_0, .slice A0_1 l0_1.length c0_1, .int .i64 a0_2]) (t := 33) ?hr ?_; (case hd => rfl); (case hg => rfl); (case hr => first | (go_simp; done) | (go_simp; rfl)); intro gb239 hg w11 hbox hb; have n0_ := Aside0.mk (below_step (by repeat (first | (with_reducible first | exact HB.out | apply below_alloc | apply pw_below_drewN | apply below_drew1) | exact HB.out)) hb); have n1_ := Aside0.mk (hbox); have n2_ := Aside0.mk ((by rw [hg]; exact (below_size (by repeat (first | (with_reducible first | exact HB.out | apply below_alloc | apply pw_below_drewN | apply below_drew1) | exact HB.out))) : w.heap.size ≤ gb239)); have n3_ := Aside0.mk ((by rw [hg]; exact (below_size (by repeat (first | (with_reducible first | exact HB.out | apply below_alloc | apply pw_below_drewN | apply below_drew1) | exact HB.out))) : w.heap.size ≤ gb239)); clear HB; have HB := n0_; have BK239 := n1_; have GW239 := n2_; have GE239 := n3_; clear n0_ n1_ n2_ n3_; clear hb hbox hg) | ((with_reducible refine gate_callee (f := 11) rfl ?_); refine goesL_ (some 10) rfl rfl Tryd.func11 (by kernel_rfl) rfl #[] rfl (by (try simp only [List.map_toArray, List.map_cons, List.map_nil]); first | done | rfl | (simp only [List.length_drop, List.length_take]; rfl) | (have z_ : ∀ s_ : ByteArray, s_.size ≤ 9223372036854775807 → -(s_.size : Int) = wrap64 (-(s_.size : Int)) := (fun s_ h_ => by unfold wrap64; omega); rw [← z_ _ (by omega)]; rfl)) ?_; (with_reducible refine (florinlaw02_head.calls k  true _ A2.out).mono ?_); rintro e w12 ⟨rfl, hb⟩; refine ⟨_, rfl, ?_⟩; have n0_ := bb_ BK239 hb; have n1_ := Aside0.mk (below_step (by repeat (first | (with_reducible first | exact HB.out | apply below_alloc | apply pw_below_drewN | apply below_drew1 | refine below_set ?_ GE239.out) | exact HB.out)) hb); clear BK239; clear HB; have BK239 := n0_; have HB := n1_; clear n0_ n1_; (try clear hb); (try clear hb2); (try clear hk); (try clear hi); have hcz13_0 : w12.cell? ⟨gb239, 0, none⟩ = some (.bool a0_0) := (blk_cell BK239.out 0).trans rfl; have hcz13_1 : w12.cell? ⟨gb239, 1, none⟩ = some (.slice A0_1 l0_1.length c0_1) := (blk_cell BK239.out 1).trans rfl; have hcz13_2 : w12.cell? ⟨gb239, 2, none⟩ = some (.int .i64 a0_2) := (blk_cell BK239.out 2).trans rfl; have hfz13_0 := blk_frozen BK239.out 0; have hfz13_1 := blk_frozen BK239.out 1; have hfz13_2 := blk_frozen BK239.out 2) | ((with_reducible refine gate_callee (f := 17) rfl ?_); refine goesL_ (some 13) rfl rfl Tryd.func17 (by kernel_rfl) rfl #[.agg #[.bool a0_0, .slice A0_1 l0_1.length c0_1, .int .i64 a0_2], .int .i64 80] rfl (by (try simp only [List.map_toArray, List.map_cons, List.map_nil]); first | done | rfl | (simp only [List.length_drop, List.length_take]; rfl) | (have z_ : ∀ s_ : ByteArray, s_.size ≤ 9223372036854775807 → -(s_.size : Int) = wrap64 (-(s_.size : Int)) := (fun s_ h_ => by unfold wrap64; omega); rw [← z_ _ (by omega)]; rfl)) ?_; (with_reducible refine (florinlaw02_Raw_Few.calls a0_0 _ _ l0_1 a0_2 80 true _ ?side1 ?side2 A4.out).mono ?_); (case side1 => repeat (first | exact (Kd.C_below HR0_1.out HB.out) | (with_reducible refine Kd.C_alloc ?_ _) | (with_reducible refine Kd.C_drewN ?_ _) | (with_reducible refine Kd.C_drew ?_))); (case side2 => exact HC0_1.out); rintro e w14 ⟨rfl, hb⟩; refine ⟨_, rfl, ?_⟩; have n0_ := bb_ BK239 hb; have n1_ := Aside0.mk (below_step (by repeat (first | (with_reducible first | exact HB.out | apply below_alloc | apply pw_below_drewN | apply below_drew1 | refine below_set ?_ GE239.out) | exact HB.out)) hb); clear BK239; clear HB; have BK239 := n0_; have HB := n1_; clear n0_ n1_; (try clear hb); (try clear hb2); (try clear hk); (try clear hi); have hcz15_0 : w14.cell? ⟨gb239, 0, none⟩ = some (.bool a0_0) := (blk_cell BK239.out 0).trans rfl; have hcz15_1 : w14.cell? ⟨gb239, 1, none⟩ = some (.slice A0_1 l0_1.length c0_1) := (blk_cell BK239.out 1).trans rfl; have hcz15_2 : w14.cell? ⟨gb239, 2, none⟩ = some (.int .i64 a0_2) := (blk_cell BK239.out 2).trans rfl; have hfz15_0 := blk_frozen BK239.out 0; have hfz15_1 := blk_frozen BK239.out 1; have hfz15_2 := blk_frozen BK239.out 2) | ((with_reducible refine gate_callee (f := 18) rfl ?_); refine goesL_ (some 16) rfl rfl Tryd.func18 (by kernel_rfl) rfl #[.agg #[.bool a0_0, .slice A0_1 l0_1.length c0_1, .int .i64 a0_2]] rfl (by (try simp only [List.map_toArray, List.map_cons, List.map_nil]); first | done | rfl | (simp only [List.length_drop, List.length_take]; rfl) | (have z_ : ∀ s_ : ByteArray, s_.size ≤ 9223372036854775807 → -(s_.size : Int) = wrap64 (-(s_.size : Int)) := (fun s_ h_ => by unfold wrap64; omega); rw [← z_ _ (by omega)]; rfl)) ?_; (with_reducible refine (florinlaw02_Raw_Make.calls k a0_0 _ _ l0_1 a0_2 t242 t243 t244 _ ?side1 ?side2 A6.out).mono ?_); (case side1 => repeat (first | exact (Kd.C_below HR0_1.out HB.out) | (with_reducible refine Kd.C_alloc ?_ _) | (with_reducible refine Kd.C_drewN ?_ _) | (with_reducible refine Kd.C_drew ?_))); (case side2 => exact HC0_1.out); rintro e w16 ⟨rfl, hb⟩; refine ⟨_, rfl, ?_⟩; have n0_ := bb_ BK239 hb; have n1_ := Aside0.mk (below_step (by repeat (first | (with_reducible first | exact HB.out | apply below_alloc | apply pw_below_drewN | apply below_drew1 | refine below_set ?_ GE239.out) | exact HB.out)) hb); clear BK239; clear HB; have BK239 := n0_; have HB := n1_; clear n0_ n1_; (try clear hb); (try clear hb2); (try clear hk); (try clear hi)) | ((with_reducible refine gate_callee (f := 19) rfl ?_); refine goesL_ (some 17) rfl rfl Tryd.func19 (by kernel_rfl) rfl #[.agg #[.bool t242, .string t243, .int .i64 t244]] rfl (by (try simp only [List.map_toArray, List.map_cons, List.map_nil]); first | done | rfl | (simp only [List.length_drop, List.length_take]; rfl) | (have z_ : ∀ s_ : ByteArray, s_.size ≤ 9223372036854775807 → -(s_.size : Int) = wrap64 (-(s_.size : Int)) := (fun s_ h_ => by unfold wrap64; omega); rw [← z_ _ (by omega)]; rfl)) ?_; (with_reducible refine (dec_Dec_Norm.calls k t242 t243 t244 t245 t246 t247 _ A7.out).mono ?_); rintro e w17 ⟨rfl, hb⟩; refine ⟨_, rfl, ?_⟩; have n0_ := bb_ BK239 hb; have n1_ := Aside0.mk (below_step (by repeat (first | (with_reducible first | exact HB.out | apply below_alloc | apply pw_below_drewN | apply below_drew1 | refine below_set ?_ GE239.out) | exact HB.out)) hb); clear BK239; clear HB; have BK239 := n0_; have HB := n1_; clear n0_ n1_; (try clear hb); (try clear hb2); (try clear hk); (try clear hi)) | ((with_reducible refine gate_dst (N := 3) rfl ?_); (try (refine gate_guard (by rfl) ?_; dsimp only)); refine box_event ?hg (N := 3) ?hd (cs := #[.bool false, .string (⟨#[]⟩ : ByteArray), .int .i64 0]) (t := 24) ?hr ?_; (case hd => rfl); (case hg => rfl); (case hr => first | (go_simp; done) | (go_simp; rfl)); intro gb248 hg w18 hbox hb; have n0_ := bb_ BK239 hb; have n1_ := Aside0.mk (below_step (by repeat (first | (with_reducible first | exact HB.out | apply below_alloc | apply pw_below_drewN | apply below_drew1 | refine below_set ?_ GE239.out) | exact HB.out)) hb); have n2_ := Aside0.mk (hbox); have n3_ := Aside0.mk ((by rw [hg]; exact (below_size (by repeat (first | (with_reducible first | exact HB.out | apply below_alloc | apply pw_below_drewN | apply below_drew1 | refine below_set ?_ GE239.out) | exact HB.out))) : w.heap.size ≤ gb248)); have n4_ := Aside0.mk ((by rw [hg]; exact (below_size (by repeat (first | (with_reducible first | exact HB.out | apply below_alloc | apply pw_below_drewN | apply below_drew1 | refine below_set ?_ GE239.out) | exact HB.out))) : w.heap.size ≤ gb248)); have n5_ := Aside0.mk ((by rw [hg]; exact Nat.ne_of_lt (blk_lt (g := gb239) (o := .cells #[.bool a0_0, .slice A0_1 l0_1.length c0_1, .int .i64 a0_2] 33 (0, 0)) (by (with_reducible repeat (first | refine blk_drewN ?_ _ | refine blk_drew ?_ | refine blk_alloc ?_ _)); exact BK239.out)) : gb239 ≠ gb248)); have n6_ := Aside0.mk ((by rw [hg]; exact Nat.ne_of_gt (blk_lt (g := gb239) (o := .cells #[.bool a0_0, .slice A0_1 l0_1.length c0_1, .int .i64 a0_2] 33 (0, 0)) (by (with_reducible repeat (first | refine blk_drewN ?_ _ | refine blk_drew ?_ | refine blk_alloc ?_ _)); exact BK239.out)) : gb248 ≠ gb239)); clear BK239; clear HB; have BK239 := n0_; have HB := n1_; have BK248 := n2_; have GW248 := n3_; have GE248 := n4_; have NB239_248 := n5_; have NB248_239 := n6_; clear n0_ n1_ n2_ n3_ n4_ n5_ n6_; clear hb hbox hg; have hnb19 := NB248_239.out; have hnc19 := NB239_248.out; have hcz20_0 : w18.cell? ⟨gb248, 0, none⟩ = some (.bool false) := (blk_cell BK248.out 0).trans rfl; have hcz20_1 : w18.cell? ⟨gb248, 1, none⟩ = some (.string (⟨#[]⟩ : ByteArray)) := (blk_cell BK248.out 1).trans rfl; have hcz20_2 : w18.cell? ⟨gb248, 2, none⟩ = some (.int .i64 0) := (blk_cell BK248.out 2).trans rfl; have hfz20_0 := blk_frozen BK248.out 0; have hfz20_1 := blk_frozen BK248.out 1; have hfz20_2 := blk_frozen BK248.out 2; have hcz21_0 : w18.cell? ⟨gb239, 0, none⟩ = some (.bool a0_0) := (blk_cell BK239.out 0).trans rfl; have hcz21_1 : w18.cell? ⟨gb239, 1, none⟩ = some (.slice A0_1 l0_1.length c0_1) := (blk_cell BK239.out 1).trans rfl; have hcz21_2 : w18.cell? ⟨gb239, 2, none⟩ = some (.int .i64 a0_2) := (blk_cell BK239.out 2).trans rfl; have hfz21_0 := blk_frozen BK239.out 0; have hfz21_1 := blk_frozen BK239.out 1; have hfz21_2 := blk_frozen BK239.out 2) | ((with_reducible refine gate_callee (f := 18) rfl ?_); refine goesL_ (some 20) rfl rfl Tryd.func18 (by kernel_rfl) rfl #[.agg #[.bool a0_0, .slice A0_1 l0_1.length c0_1, .int .i64 a0_2]] rfl (by (try simp only [List.map_toArray, List.map_cons, List.map_nil]); first | done | rfl | (simp only [List.length_drop, List.length_take]; rfl) | (have z_ : ∀ s_ : ByteArray, s_.size ≤ 9223372036854775807 → -(s_.size : Int) = wrap64 (-(s_.size : Int)) := (fun s_ h_ => by unfold wrap64; omega); rw [← z_ _ (by omega)]; rfl)) ?_; (with_reducible refine (florinlaw02_Raw_Make.calls k a0_0 _ _ l0_1 a0_2 t249 t250 t251 _ ?side1 ?side2 A8.out).mono ?_); (case side1 => exact Kd.C_below HR0_1.out (by repeat (first | (with_reducible first | exact HB.out | apply below_alloc | apply pw_below_drewN | apply below_drew1 | refine below_set ?_ GE239.out | refine below_set ?_ GE248.out) | exact HB.out))); (case side2 => exact HC0_1.out); rintro e w22 ⟨rfl, hb⟩; refine ⟨_, rfl, ?_⟩; have n0_ := Aside0.mk (blk_below (g := gb239) (o := .cells #[.bool a0_0, .slice A0_1 l0_1.length c0_1, .int .i64 a0_2] 33 (0, 0)) (by (with_reducible repeat (first | refine blk_drewN ?_ _ | refine blk_drew ?_ | refine blk_alloc ?_ _)); refine blk_far ?_ NB239_248.out _; (with_reducible repeat (first | refine blk_drewN ?_ _ | refine blk_drew ?_ | refine blk_alloc ?_ _)); refine blk_far ?_ NB239_248.out _; (with_reducible repeat (first | refine blk_drewN ?_ _ | refine blk_drew ?_ | refine blk_alloc ?_ _)); refine blk_far ?_ NB239_248.out _; (with_reducible repeat (first | refine blk_drewN ?_ _ | refine blk_drew ?_ | refine blk_alloc ?_ _)); exact BK239.out) hb); have n1_ := Aside0.mk (blk_below (g := gb248) (o := .cells #[.bool t245, .string t246, .int .i64 t247] 24 (0, 0)) (by (with_reducible repeat (first | refine blk_drewN ?_ _ | refine blk_drew ?_ | refine blk_alloc ?_ _)); refine blk_put (cs := #[.bool t245, .string t246, .int .i64 0]) ?_ 2 _ rfl; (with_reducible repeat (first | refine blk_drewN ?_ _ | refine blk_drew ?_ | refine blk_alloc ?_ _)); refine blk_put (cs := #[.bool t245, .string (⟨#[]⟩ : ByteArray), .int .i64 0]) ?_ 1 _ rfl; (with_reducible repeat (first | refine blk_drewN ?_ _ | refine blk_drew ?_ | refine blk_alloc ?_ _)); refine blk_put (cs := #[.bool false, .string (⟨#[]⟩ : ByteArray), .int .i64 0]) ?_ 0 _ rfl; (with_reducible repeat (first | refine blk_drewN ?_ _ | refine blk_drew ?_ | refine blk_alloc ?_ _)); exact BK248.out) hb); have n2_ := Aside0.mk (below_step (by repeat (first | (with_reducible first | exact HB.out | apply below_alloc | apply pw_below_drewN | apply below_drew1 | refine below_set ?_ GE239.out | refine below_set ?_ GE248.out) | exact HB.out)) hb); clear BK239; clear BK248; clear HB; have BK239 := n0_; have BK248 := n1_; have HB := n2_; clear n0_ n1_ n2_; (try clear hb); (try clear hb2); (try clear hk); (try clear hi)) | ((with_reducible refine gate_callee (f := 20) rfl ?_); refine goesL_ (some 21) rfl rfl Tryd.func20 (by kernel_rfl) rfl #[.agg #[.bool t249, .string t250, .int .i64 t251]] rfl (by (try simp only [List.map_toArray, List.map_cons, List.map_nil]); first | done | rfl | (simp only [List.length_drop, List.length_take]; rfl) | (have z_ : ∀ s_ : ByteArray, s_.size ≤ 9223372036854775807 → -(s_.size : Int) = wrap64 (-(s_.size : Int)) := (fun s_ h_ => by unfold wrap64; omega); rw [← z_ _ (by omega)]; rfl)) ?_; (with_reducible refine (dec_Dec_Parts.calls k t249 t250 t251 t252 t253 _ A9.out).mono ?_); rintro e w23 ⟨rfl, hb⟩; refine ⟨_, rfl, ?_⟩; have n0_ := bb_ BK239 hb; have n1_ := bb_ BK248 hb; have n2_ := Aside0.mk (below_step (by repeat (first | (with_reducible first | exact HB.out | apply below_alloc | apply pw_below_drewN | apply below_drew1 | refine below_set ?_ GE239.out | refine below_set ?_ GE248.out) | exact HB.out)) hb); clear BK239; clear BK248; clear HB; have BK239 := n0_; have BK248 := n1_; have HB := n2_; clear n0_ n1_ n2_; (try clear hb); (try clear hb2); (try clear hk); (try clear hi)))
   (try simp only [Act.put, List.setIfInBounds_toArray, List.set_cons_zero, List.set_cons_succ])
   go_cut [53] (fun v53 wc => ∃ (kq : Nat) (x53_9 : Bool), v53 = .bool x53_9 ∧ Aside0 (florinlaw02_DecPlaces.j0 kq t252 t253 x53_9 t245 t246 t247 = some r) ∧ Aside0 (kq ≤ k) ∧ Aside0 (wc.heap[gb239]? = some (.cells #[.bool a0_0, (.slice A0_1 l0_1.length c0_1), .int .i64 a0_2] 33 (0, 0))) ∧ Aside0 (wc.heap[gb248]? = some (.cells #[.bool t245, .string t246, .int .i64 t247] 24 (0, 0))) ∧ Aside0 (Below w.heap.size w wc))
   case first =>
    have H := HC10.out
    clear HC10
    replace H := Option.bind_eq_some_iff.mp H
    obtain ⟨t254, A240, H⟩ := H
    replace H : (if t252.toList = t254.toList then (if (t253.size : Int) > 0 then (if 0 ≤ (wrap64 ((t253.size : Int) - 1)) then (if (wrap64 ((t253.size : Int) - 1)) < (t253.size : Int) then (if (bt t253 (wrap64 ((t253.size : Int) - 1))) = 48 then (florinlaw02_DecPlaces.j0 k t252 t253 true t245 t246 t247) else (if t252.size + t253.size ≤ 9223372036854775807 then ((dec_Made.f k t245 (t252 ++ t253) (-(t253.size : Int))).bind fun bt255 => (florinlaw02_DecPlaces.j0 k t252 t253 (!(bt255.1 == t245) || (!(bt255.2.1.toList == t246.toList) || (!(bt255.2.2 == t247)))) t245 t246 t247)) else (none))) else (none)) else (none)) else (if t252.size + t253.size ≤ 9223372036854775807 then ((dec_Made.f k t245 (t252 ++ t253) (-(t253.size : Int))).bind fun bt258 => (florinlaw02_DecPlaces.j0 k t252 t253 (!(bt258.1 == t245) || (!(bt258.2.1.toList == t246.toList) || (!(bt258.2.2 == t247)))) t245 t246 t247)) else (none))) else (florinlaw02_DecPlaces.j0 k t252 t253 true t245 t246 t247)) = some r := H
    have A24 := Aside0.mk A240
    clear A240
    by_cases c25 : t252.toList = t254.toList
    ·rw [if_pos c25] at H
     have c25b0 : (t252.toList == t254.toList) = true := beq_iff_eq.mpr c25
     have c25b1 : (t252.toList != t254.toList) = false := bne_eq_false_iff_eq.mpr c25
     clear c25
     (first | rw [c25b0] | (simp only [i64_w, i32_w]; rw [c25b0]) | skip)
     by_cases c26 : (t253.size : Int) > 0
     ·rw [if_pos c26] at H
      have c26b0 : decide (0 < (t253.size : Int)) = true := decide_eq_true c26
      have c26b1 : decide (0 < t253.size) = true := decide_eq_true (by omega)
      clear c26
      obtain ⟨ji27, hji27⟩ : ∃ j_ : Int, (wrap64 ((t253.size : Int) - 1)) = j_ := ⟨_, rfl⟩
      replace H : (if 0 ≤ (ji27) then (if (ji27) < (t253.size : Int) then (if (bt t253 (ji27)) = 48 then (florinlaw02_DecPlaces.j0 k t252 t253 true t245 t246 t247) else (if t252.size + t253.size ≤ 9223372036854775807 then ((dec_Made.f k t245 (t252 ++ t253) (-(t253.size : Int))).bind fun bt255 => (florinlaw02_DecPlaces.j0 k t252 t253 (!(bt255.1 == t245) || (!(bt255.2.1.toList == t246.toList) || (!(bt255.2.2 == t247)))) t245 t246 t247)) else (none))) else (none)) else (none)) = some r := by first | (rw [hji27] at H; exact H) | (simp only [hji27] at H ⊢; exact H)
      (try rw [hji27] at A24)
      have hji27w : (IntKind.i64.wrap ((t253.size : Int) - 1)) = ji27 := (i64_w _).trans hji27
      by_cases c28 : 0 ≤ (ji27)
      ·rw [if_pos c28] at H
       have c28b0 : decide (0 ≤ (ji27)) = true := decide_eq_true c28
       clear c28
       by_cases c29 : (ji27) < (t253.size : Int)
       ·rw [if_pos c29] at H
        have c29b0 : decide ((ji27) < (t253.size : Int)) = true := decide_eq_true c29
        clear c29
        by_cases c31 : (bt t253 (ji27)) = 48
        ·rw [if_pos c31] at H
         have c31b0 : ((bt t253 (ji27)) == 48) = true := beq_iff_eq.mpr c31
         have c31b1 : ((bt t253 (ji27)) != 48) = false := bne_eq_false_iff_eq.mpr c31
         clear c31
         have H' := Aside0.mk H
         clear H
         try go_wp2
         have n0_ := Aside0.mk (blk_drew BK239.out)
         have n1_ := Aside0.mk (blk_drew BK248.out)
         have n2_ := Aside0.mk (below_drew1 HB.out)
         clear BK239
         clear BK248
         clear HB
         have BK239 := n0_
         have BK248 := n1_
         have HB := n2_
         clear n0_ n1_ n2_
         refine start_ (n := 30) (S := fun w' => True) (ds := []) #[false, false, false, false, false, false, false, false, false, false, false, false, false, false, false, false, false, false, false, false, false, false, false, false, false, false, false, false, false, false] (by kernel_rfl) rfl rfl trivial (fun hHeld => ?_); refine with_tabW florinlaw02_DecPlaces.tab7 florinlaw02_DecPlaces.bits7 (fun HT_ HW_ => ?_)
         generalize w23.drew = w32 at BK239 BK248 HB hHeld ⊢
         refine pure_ (i := 0) (N := some 24) (v := ?_) (a' := ?_) (bm_ 30 1) rfl rfl (any_of HT_.out (by kernel_rfl)) (fun _ _ _ h => h) (Or.inl ⟨by rfl, ?_⟩) ?_ ?_
         rotate_left; ·intro w'; go_simp; with_reducible rfl
         rotate_left; ·simp only [Act.put, List.setIfInBounds_toArray, List.set_cons_zero, List.set_cons_succ, i64_w, i32_w]; rfl
         refine pure_ (i := 1) (N := some 25) (v := ?_) (a' := ?_) (bm_ 30 3) rfl rfl (any_of HT_.out (by kernel_rfl)) (fun _ _ _ h => h) (Or.inl ⟨by rfl, ?_⟩) ?_ ?_
         rotate_left; ·intro w'; go_simp; with_reducible rfl
         rotate_left; ·simp only [Act.put, List.setIfInBounds_toArray, List.set_cons_zero, List.set_cons_succ, i64_w, i32_w]; rfl
         refine one_ (i := 2) (N := some 26) (bm_ 30 7) rfl rfl (one_of HT_.out (by kernel_rfl)) (by decide) (fun K hK => ?_)
         refine goes_ Tryd.func21 (by kernel_rfl) rfl #[.string t252] (by rfl) rfl rfl (by (try simp only [List.map_toArray, List.map_cons, List.map_nil]); first | done | rfl | (simp only [List.length_drop, List.length_take]; rfl) | (have z_ : ∀ s_ : ByteArray, s_.size ≤ 9223372036854775807 → -(s_.size : Int) = wrap64 (-(s_.size : Int)) := (fun s_ h_ => by unfold wrap64; omega); rw [← z_ _ (by omega)]; rfl)) ?_
         with_reducible refine (num_Trim.calls k t252 t254 _ A24.out).mono ?_
         rintro e w' ⟨rfl, ⟨nd, rfl⟩⟩
         refine ⟨_, rfl, ?_⟩
         have p30 : 0 ≤ ((ji27) : Int) := of_decide_eq_true (by first | (with_reducible assumption) | assumption)
         have q30 : (ji27) < (t253.size : Int) := of_decide_eq_true (by first | (with_reducible assumption) | assumption)
         have hx30 := bt_at t253 (ji27)
         replace p30 := eq_true p30
         replace q30 := eq_true q30
         refine hK.out _ _ trivial (fun hHeld => ?_)
         clear hK K
         refine norm_ (a' := ?_) ?_ ?_
         rotate_left
         ·show Act.put _ (some 26) _ = _
          simp only [Act.put, List.setIfInBounds_toArray, List.set_cons_zero, List.set_cons_succ, i64_w, i32_w]
          rfl
         refine pure_ (i := 3) (N := some 27) (v := ?_) (a' := ?_) (bm_ 30 15) rfl rfl (any_of HT_.out (by kernel_rfl)) (fun _ _ _ h => h) (Or.inl ⟨by rfl, ?_⟩) ?_ ?_
         rotate_left; ·intro w'; go_simp; with_reducible rfl
         rotate_left; ·simp only [Act.put, List.setIfInBounds_toArray, List.set_cons_zero, List.set_cons_succ, i64_w, i32_w]; rfl
         refine pure_ (i := 4) (N := some 28) (v := ?_) (a' := ?_) (bm_ 30 31) rfl rfl (any_of HT_.out (by kernel_rfl)) (fun _ _ _ h => h) (Or.inl ⟨by rfl, ?_⟩) ?_ ?_
         rotate_left; ·intro w'; go_simp; with_reducible rfl
         rotate_left; ·simp only [Act.put, List.setIfInBounds_toArray, List.set_cons_zero, List.set_cons_succ, i64_w, i32_w]; rfl
         refine pure_ (i := 5) (N := some 29) (v := ?_) (a' := ?_) (bm_ 30 63) rfl rfl (any_of HT_.out (by kernel_rfl)) (fun _ _ _ h => h) (Or.inl ⟨by rfl, ?_⟩) ?_ ?_
         rotate_left; ·intro w'; go_simp; with_reducible rfl
         rotate_left; ·simp only [Act.put, List.setIfInBounds_toArray, List.set_cons_zero, List.set_cons_succ, i64_w, i32_w]; rfl
         refine pure_ (i := 6) (N := some 30) (v := ?_) (a' := ?_) (bm_ 30 127) rfl rfl (any_of HT_.out (by kernel_rfl)) (fun _ _ _ h => h) (Or.inl ⟨by rfl, ?_⟩) ?_ ?_
         rotate_left; ·intro w'; go_simp; with_reducible rfl
         rotate_left; ·simp only [Act.put, List.setIfInBounds_toArray, List.set_cons_zero, List.set_cons_succ, i64_w, i32_w]; rfl
         refine pure_ (i := 7) (N := some 31) (v := ?_) (a' := ?_) (bm_ 30 255) rfl rfl (any_of HT_.out (by kernel_rfl)) (fun _ _ _ h => h) (Or.inl ⟨by rfl, ?_⟩) ?_ ?_
         rotate_left; ·intro w'; go_simp; with_reducible rfl
         rotate_left; ·simp only [Act.put, List.setIfInBounds_toArray, List.set_cons_zero, List.set_cons_succ, i64_w, i32_w]; rfl
         refine pure_ (i := 8) (N := some 32) (v := ?_) (a' := ?_) (bm_ 30 511) rfl rfl (any_of HT_.out (by kernel_rfl)) (fun _ _ _ h => h) (Or.inl ⟨by rfl, ?_⟩) ?_ ?_
         rotate_left; ·intro w'; go_simp; with_reducible rfl
         rotate_left; ·simp only [Act.put, List.setIfInBounds_toArray, List.set_cons_zero, List.set_cons_succ, i64_w, i32_w]; rfl
         refine pure_ (i := 9) (N := some 33) (v := ?_) (a' := ?_) (bm_ 30 1023) rfl rfl (any_of HT_.out (by kernel_rfl)) (fun _ _ _ h => h) (Or.inl ⟨by rfl, ?_⟩) ?_ ?_
         rotate_left; ·intro w'; go_simp; with_reducible rfl
         rotate_left; ·simp only [Act.put, List.setIfInBounds_toArray, List.set_cons_zero, List.set_cons_succ, i64_w, i32_w]; rfl
         refine pure_ (i := 10) (N := some 34) (v := ?_) (a' := ?_) (bm_ 30 2047) rfl rfl (any_of HT_.out (by kernel_rfl)) (fun _ _ _ h => h) (Or.inl ⟨by rfl, ?_⟩) ?_ ?_
         rotate_left; ·intro w'; go_simp; with_reducible rfl
         rotate_left; ·simp only [Act.put, List.setIfInBounds_toArray, List.set_cons_zero, List.set_cons_succ, i64_w, i32_w]; rfl
         refine pure_ (i := 11) (N := some 35) (v := ?_) (a' := ?_) (bm_ 30 4095) rfl rfl (any_of HT_.out (by kernel_rfl)) (fun _ _ _ h => h) (Or.inl ⟨by rfl, ?_⟩) ?_ ?_
         rotate_left; ·intro w'; go_simp; with_reducible rfl
         rotate_left; ·simp only [Act.put, List.setIfInBounds_toArray, List.set_cons_zero, List.set_cons_succ, i64_w, i32_w]; rfl
         refine pure_ (i := 12) (N := some 36) (v := ?_) (a' := ?_) (bm_ 30 8191) rfl rfl (any_of HT_.out (by kernel_rfl)) (fun _ _ _ h => h) (Or.inl ⟨by rfl, ?_⟩) ?_ ?_
         rotate_left; ·intro w'; go_simp; with_reducible rfl
         rotate_left; ·simp only [Act.put, List.setIfInBounds_toArray, List.set_cons_zero, List.set_cons_succ, i64_w, i32_w]; rfl
         refine take_ (i := 13) (N := some 37) (v := ?_) (a' := ?_) (bm_ 30 16383) rfl rfl (take_ofW HT_.out HW_.out (by kernel_rfl)) (fun _ _ _ h => h) (Or.inl ⟨by rfl, ?_⟩) hHeld ?_ ?_
         rotate_left; ·intro w' _; go_simp; with_reducible rfl
         rotate_left; ·simp only [Act.put, List.setIfInBounds_toArray, List.set_cons_zero, List.set_cons_succ, i64_w, i32_w]; rfl
         refine pure_ (i := 14) (N := some 38) (v := ?_) (a' := ?_) (bm_ 30 32767) rfl rfl (any_of HT_.out (by kernel_rfl)) (fun _ _ _ h => h) (Or.inl ⟨by rfl, ?_⟩) ?_ ?_
         rotate_left; ·intro w'; go_simp; with_reducible rfl
         rotate_left; ·simp only [Act.put, List.setIfInBounds_toArray, List.set_cons_zero, List.set_cons_succ, i64_w, i32_w]; rfl
         refine pure_ (i := 15) (N := some 39) (v := ?_) (a' := ?_) (bm_ 30 65535) rfl rfl (any_of HT_.out (by kernel_rfl)) (fun _ _ _ h => h) (Or.inl ⟨by rfl, ?_⟩) ?_ ?_
         rotate_left; ·intro w'; go_simp; with_reducible rfl
         rotate_left; ·simp only [Act.put, List.setIfInBounds_toArray, List.set_cons_zero, List.set_cons_succ, i64_w, i32_w]; rfl
         refine pure_ (i := 16) (N := some 40) (v := ?_) (a' := ?_) (bm_ 30 131071) rfl rfl (any_of HT_.out (by kernel_rfl)) (fun _ _ _ h => h) (Or.inl ⟨by rfl, ?_⟩) ?_ ?_
         rotate_left; ·intro w'; go_simp; with_reducible rfl
         rotate_left; ·simp only [Act.put, List.setIfInBounds_toArray, List.set_cons_zero, List.set_cons_succ, i64_w, i32_w]; rfl
         refine pure_ (i := 17) (N := some 41) (v := ?_) (a' := ?_) (bm_ 30 262143) rfl rfl (any_of HT_.out (by kernel_rfl)) (fun _ _ _ h => h) (Or.inl ⟨by rfl, ?_⟩) ?_ ?_
         rotate_left; ·intro w'; go_simp; with_reducible rfl
         rotate_left; ·simp only [Act.put, List.setIfInBounds_toArray, List.set_cons_zero, List.set_cons_succ, i64_w, i32_w]; rfl
         refine pure_ (i := 18) (N := some 42) (v := undef) (a' := ?_) (bm_ 30 524287) rfl rfl (any_of HT_.out (by kernel_rfl)) (fun _ _ _ h => h) (Or.inr ⟨by rfl, rfl⟩) ?_ ?_
         rotate_left; ·simp only [Act.put, List.setIfInBounds_toArray, List.set_cons_zero, List.set_cons_succ, i64_w, i32_w]; rfl
         refine pure_ (i := 19) (N := some 43) (v := undef) (a' := ?_) (bm_ 30 1048575) rfl rfl (any_of HT_.out (by kernel_rfl)) (fun _ _ _ h => h) (Or.inr ⟨by rfl, rfl⟩) ?_ ?_
         rotate_left; ·simp only [Act.put, List.setIfInBounds_toArray, List.set_cons_zero, List.set_cons_succ, i64_w, i32_w]; rfl
         refine pure_ (i := 20) (N := some 44) (v := undef) (a' := ?_) (bm_ 30 2097151) rfl rfl (any_of HT_.out (by kernel_rfl)) (fun _ _ _ h => h) (Or.inr ⟨by rfl, rfl⟩) ?_ ?_
         rotate_left; ·simp only [Act.put, List.setIfInBounds_toArray, List.set_cons_zero, List.set_cons_succ, i64_w, i32_w]; rfl
         refine pure_ (i := 21) (N := some 45) (v := undef) (a' := ?_) (bm_ 30 4194303) rfl rfl (any_of HT_.out (by kernel_rfl)) (fun _ _ _ h => h) (Or.inr ⟨by rfl, rfl⟩) ?_ ?_
         rotate_left; ·simp only [Act.put, List.setIfInBounds_toArray, List.set_cons_zero, List.set_cons_succ, i64_w, i32_w]; rfl
         refine pure_ (i := 22) (N := some 46) (v := undef) (a' := ?_) (bm_ 30 8388607) rfl rfl (any_of HT_.out (by kernel_rfl)) (fun _ _ _ h => h) (Or.inr ⟨by rfl, rfl⟩) ?_ ?_
         rotate_left; ·simp only [Act.put, List.setIfInBounds_toArray, List.set_cons_zero, List.set_cons_succ, i64_w, i32_w]; rfl
         refine pure_ (i := 23) (N := some 47) (v := undef) (a' := ?_) (bm_ 30 16777215) rfl rfl (any_of HT_.out (by kernel_rfl)) (fun _ _ _ h => h) (Or.inr ⟨by rfl, rfl⟩) ?_ ?_
         rotate_left; ·simp only [Act.put, List.setIfInBounds_toArray, List.set_cons_zero, List.set_cons_succ, i64_w, i32_w]; rfl
         refine pure_ (i := 24) (N := some 48) (v := undef) (a' := ?_) (bm_ 30 33554431) rfl rfl (any_of HT_.out (by kernel_rfl)) (fun _ _ _ h => h) (Or.inr ⟨by rfl, rfl⟩) ?_ ?_
         rotate_left; ·simp only [Act.put, List.setIfInBounds_toArray, List.set_cons_zero, List.set_cons_succ, i64_w, i32_w]; rfl
         refine pure_ (i := 25) (N := some 49) (v := undef) (a' := ?_) (bm_ 30 67108863) rfl rfl (any_of HT_.out (by kernel_rfl)) (fun _ _ _ h => h) (Or.inr ⟨by rfl, rfl⟩) ?_ ?_
         rotate_left; ·simp only [Act.put, List.setIfInBounds_toArray, List.set_cons_zero, List.set_cons_succ, i64_w, i32_w]; rfl
         refine pure_ (i := 26) (N := some 50) (v := undef) (a' := ?_) (bm_ 30 134217727) rfl rfl (any_of HT_.out (by kernel_rfl)) (fun _ _ _ h => h) (Or.inr ⟨by rfl, rfl⟩) ?_ ?_
         rotate_left; ·simp only [Act.put, List.setIfInBounds_toArray, List.set_cons_zero, List.set_cons_succ, i64_w, i32_w]; rfl
         refine pure_ (i := 27) (N := some 51) (v := undef) (a' := ?_) (bm_ 30 268435455) rfl rfl (any_of HT_.out (by kernel_rfl)) (fun _ _ _ h => h) (Or.inr ⟨by rfl, rfl⟩) ?_ ?_
         rotate_left; ·simp only [Act.put, List.setIfInBounds_toArray, List.set_cons_zero, List.set_cons_succ, i64_w, i32_w]; rfl
         refine pure_ (i := 28) (N := some 52) (v := undef) (a' := ?_) (bm_ 30 536870911) rfl rfl (any_of HT_.out (by kernel_rfl)) (fun _ _ _ h => h) (Or.inr ⟨by rfl, rfl⟩) ?_ ?_
         rotate_left; ·simp only [Act.put, List.setIfInBounds_toArray, List.set_cons_zero, List.set_cons_succ, i64_w, i32_w]; rfl
         refine pure_ (i := 29) (N := some 53) (v := ?_) (a' := ?_) (bm_ 30 1073741823) rfl rfl (any_of HT_.out (by kernel_rfl)) (fun _ _ _ h => h) (Or.inl ⟨by rfl, ?_⟩) ?_ ?_
         rotate_left; ·intro w'; go_simp; with_reducible rfl
         rotate_left; ·simp only [Act.put, List.setIfInBounds_toArray, List.set_cons_zero, List.set_cons_succ, i64_w, i32_w]; rfl
         refine done_ (done_of HT_.out (by kernel_rfl)) ?_
         try go_wp2
         go_meet
         case rel => first | (exact ⟨_, (true), (by first | rfl | (simp; done) | (simp [*]; done) | (simp; first | exact given_isEmpty _ | exact (given_isEmpty _).symm) | (unfold wrap64; omega) | (congr 1; unfold wrap64; omega)), H', ⟨by first | omega | exact Nat.le_refl _⟩, ⟨by (with_reducible repeat (first | refine blk_drewN ?_ _ | refine blk_drew ?_ | refine blk_alloc ?_ _)); exact BK239.out⟩, ⟨by (with_reducible repeat (first | refine blk_drewN ?_ _ | refine blk_drew ?_ | refine blk_alloc ?_ _)); exact BK248.out⟩, ⟨by repeat (first | (with_reducible first | exact HB.out | apply below_alloc | apply pw_below_drewN | apply below_drew1 | refine below_set ?_ GE239.out | refine below_set ?_ GE248.out) | exact HB.out)⟩⟩) | (rw [← hji27] at H'; exact ⟨_, (true), (by first | rfl | (simp; done) | (simp [*]; done) | (simp; first | exact given_isEmpty _ | exact (given_isEmpty _).symm) | (unfold wrap64; omega) | (congr 1; unfold wrap64; omega)), H', ⟨by first | omega | exact Nat.le_refl _⟩, ⟨by (with_reducible repeat (first | refine blk_drewN ?_ _ | refine blk_drew ?_ | refine blk_alloc ?_ _)); exact BK239.out⟩, ⟨by (with_reducible repeat (first | refine blk_drewN ?_ _ | refine blk_drew ?_ | refine blk_alloc ?_ _)); exact BK248.out⟩, ⟨by repeat (first | (with_reducible first | exact HB.out | apply below_alloc | apply pw_below_drewN | apply below_drew1 | refine below_set ?_ GE239.out | refine below_set ?_ GE248.out) | exact HB.out)⟩⟩)
        ·rw [if_neg c31] at H
         have c31b0 : ((bt t253 (ji27)) == 48) = false := beq_eq_false_iff_ne.mpr c31
         have c31b1 : ((bt t253 (ji27)) != 48) = true := bne_iff_ne.mpr c31
         by_cases c33 : t252.size + t253.size ≤ 9223372036854775807
         ·rw [if_pos c33] at H
          have c33b0 := eq_true c33
          have c33b1 : decide (t252.size + t253.size ≤ 9223372036854775807) = true := decide_eq_true c33
          try have c33b2 : (9223372036854775807 < t252.size + t253.size) = False := eq_false (Nat.not_lt.2 c33)
          replace H := Option.bind_eq_some_iff.mp H
          obtain ⟨⟨t255, t256, t257⟩, A340, H⟩ := H
          replace H : (florinlaw02_DecPlaces.j0 k t252 t253 (!(t255 == t245) || (!(t256.toList == t246.toList) || (!(t257 == t247)))) t245 t246 t247) = some r := H
          have A34 := Aside0.mk A340
          clear A340
          have H' := Aside0.mk H
          clear H
          try go_wp2
          have n0_ := Aside0.mk (blk_drew BK239.out)
          have n1_ := Aside0.mk (blk_drew BK248.out)
          have n2_ := Aside0.mk (below_drew1 HB.out)
          clear BK239
          clear BK248
          clear HB
          have BK239 := n0_
          have BK248 := n1_
          have HB := n2_
          clear n0_ n1_ n2_
          refine start_ (n := 30) (S := fun w' => w'.cell? ⟨gb248, 0, none⟩ = some (.bool t245) ∧ w'.cell? ⟨gb248, 1, none⟩ = some (.string t246) ∧ w'.cell? ⟨gb248, 2, none⟩ = some (.int .i64 t247)) (ds := []) #[false, false, false, false, false, false, false, false, false, false, false, false, false, false, false, false, false, false, false, false, false, false, false, false, false, false, false, false, false, false] (by kernel_rfl) rfl rfl ⟨(blk_cell BK248.out 0).trans rfl, (blk_cell BK248.out 1).trans rfl, (blk_cell BK248.out 2).trans rfl⟩ (fun hHeld => ?_); refine with_tabW florinlaw02_DecPlaces.tab7 florinlaw02_DecPlaces.bits7 (fun HT_ HW_ => ?_)
          generalize w23.drew = w35 at BK239 BK248 HB hHeld ⊢
          refine pure_ (i := 0) (N := some 24) (v := ?_) (a' := ?_) (bm_ 30 1) rfl rfl (any_of HT_.out (by kernel_rfl)) (fun _ _ _ h => h) (Or.inl ⟨by rfl, ?_⟩) ?_ ?_
          rotate_left; ·intro w'; go_simp; with_reducible rfl
          rotate_left; ·simp only [Act.put, List.setIfInBounds_toArray, List.set_cons_zero, List.set_cons_succ, i64_w, i32_w]; rfl
          refine pure_ (i := 1) (N := some 25) (v := ?_) (a' := ?_) (bm_ 30 3) rfl rfl (any_of HT_.out (by kernel_rfl)) (fun _ _ _ h => h) (Or.inl ⟨by rfl, ?_⟩) ?_ ?_
          rotate_left; ·intro w'; go_simp; with_reducible rfl
          rotate_left; ·simp only [Act.put, List.setIfInBounds_toArray, List.set_cons_zero, List.set_cons_succ, i64_w, i32_w]; rfl
          refine one_ (i := 2) (N := some 26) (bm_ 30 7) rfl rfl (one_of HT_.out (by kernel_rfl)) (by decide) (fun K hK => ?_)
          refine goes_ Tryd.func21 (by kernel_rfl) rfl #[.string t252] (by rfl) rfl rfl (by (try simp only [List.map_toArray, List.map_cons, List.map_nil]); first | done | rfl | (simp only [List.length_drop, List.length_take]; rfl) | (have z_ : ∀ s_ : ByteArray, s_.size ≤ 9223372036854775807 → -(s_.size : Int) = wrap64 (-(s_.size : Int)) := (fun s_ h_ => by unfold wrap64; omega); rw [← z_ _ (by omega)]; rfl)) ?_
          with_reducible refine (num_Trim.calls k t252 t254 _ A24.out).mono ?_
          rintro e w' ⟨rfl, ⟨nd, rfl⟩⟩
          refine ⟨_, rfl, ?_⟩
          have p30 : 0 ≤ ((ji27) : Int) := of_decide_eq_true (by first | (with_reducible assumption) | assumption)
          have q30 : (ji27) < (t253.size : Int) := of_decide_eq_true (by first | (with_reducible assumption) | assumption)
          have hx30 := bt_at t253 (ji27)
          replace p30 := eq_true p30
          replace q30 := eq_true q30
          refine hK.out _ _ ⟨(blk_cell BK248.out 0).trans rfl, (blk_cell BK248.out 1).trans rfl, (blk_cell BK248.out 2).trans rfl⟩ (fun hHeld => ?_)
          clear hK K
          refine norm_ (a' := ?_) ?_ ?_
          rotate_left
          ·show Act.put _ (some 26) _ = _
           simp only [Act.put, List.setIfInBounds_toArray, List.set_cons_zero, List.set_cons_succ, i64_w, i32_w]
           rfl
          refine pure_ (i := 3) (N := some 27) (v := ?_) (a' := ?_) (bm_ 30 15) rfl rfl (any_of HT_.out (by kernel_rfl)) (fun _ _ _ h => h) (Or.inl ⟨by rfl, ?_⟩) ?_ ?_
          rotate_left; ·intro w'; go_simp; with_reducible rfl
          rotate_left; ·simp only [Act.put, List.setIfInBounds_toArray, List.set_cons_zero, List.set_cons_succ, i64_w, i32_w]; rfl
          refine pure_ (i := 4) (N := some 28) (v := ?_) (a' := ?_) (bm_ 30 31) rfl rfl (any_of HT_.out (by kernel_rfl)) (fun _ _ _ h => h) (Or.inl ⟨by rfl, ?_⟩) ?_ ?_
          rotate_left; ·intro w'; go_simp; with_reducible rfl
          rotate_left; ·simp only [Act.put, List.setIfInBounds_toArray, List.set_cons_zero, List.set_cons_succ, i64_w, i32_w]; rfl
          refine pure_ (i := 5) (N := some 29) (v := ?_) (a' := ?_) (bm_ 30 63) rfl rfl (any_of HT_.out (by kernel_rfl)) (fun _ _ _ h => h) (Or.inl ⟨by rfl, ?_⟩) ?_ ?_
          rotate_left; ·intro w'; go_simp; with_reducible rfl
          rotate_left; ·simp only [Act.put, List.setIfInBounds_toArray, List.set_cons_zero, List.set_cons_succ, i64_w, i32_w]; rfl
          refine pure_ (i := 6) (N := some 30) (v := ?_) (a' := ?_) (bm_ 30 127) rfl rfl (any_of HT_.out (by kernel_rfl)) (fun _ _ _ h => h) (Or.inl ⟨by rfl, ?_⟩) ?_ ?_
          rotate_left; ·intro w'; go_simp; with_reducible rfl
          rotate_left; ·simp only [Act.put, List.setIfInBounds_toArray, List.set_cons_zero, List.set_cons_succ, i64_w, i32_w]; rfl
          refine pure_ (i := 7) (N := some 31) (v := ?_) (a' := ?_) (bm_ 30 255) rfl rfl (any_of HT_.out (by kernel_rfl)) (fun _ _ _ h => h) (Or.inl ⟨by rfl, ?_⟩) ?_ ?_
          rotate_left; ·intro w'; go_simp; with_reducible rfl
          rotate_left; ·simp only [Act.put, List.setIfInBounds_toArray, List.set_cons_zero, List.set_cons_succ, i64_w, i32_w]; rfl
          refine pure_ (i := 8) (N := some 32) (v := ?_) (a' := ?_) (bm_ 30 511) rfl rfl (any_of HT_.out (by kernel_rfl)) (fun _ _ _ h => h) (Or.inl ⟨by rfl, ?_⟩) ?_ ?_
          rotate_left; ·intro w'; go_simp; with_reducible rfl
          rotate_left; ·simp only [Act.put, List.setIfInBounds_toArray, List.set_cons_zero, List.set_cons_succ, i64_w, i32_w]; rfl
          refine pure_ (i := 9) (N := some 33) (v := ?_) (a' := ?_) (bm_ 30 1023) rfl rfl (any_of HT_.out (by kernel_rfl)) (fun _ _ _ h => h) (Or.inl ⟨by rfl, ?_⟩) ?_ ?_
          rotate_left; ·intro w'; go_simp; with_reducible rfl
          rotate_left; ·simp only [Act.put, List.setIfInBounds_toArray, List.set_cons_zero, List.set_cons_succ, i64_w, i32_w]; rfl
          refine pure_ (i := 10) (N := some 34) (v := ?_) (a' := ?_) (bm_ 30 2047) rfl rfl (any_of HT_.out (by kernel_rfl)) (fun _ _ _ h => h) (Or.inl ⟨by rfl, ?_⟩) ?_ ?_
          rotate_left; ·intro w'; go_simp; with_reducible rfl
          rotate_left; ·simp only [Act.put, List.setIfInBounds_toArray, List.set_cons_zero, List.set_cons_succ, i64_w, i32_w]; rfl
          refine pure_ (i := 11) (N := some 35) (v := ?_) (a' := ?_) (bm_ 30 4095) rfl rfl (any_of HT_.out (by kernel_rfl)) (fun _ _ _ h => h) (Or.inl ⟨by rfl, ?_⟩) ?_ ?_
          rotate_left; ·intro w'; go_simp; with_reducible rfl
          rotate_left; ·simp only [Act.put, List.setIfInBounds_toArray, List.set_cons_zero, List.set_cons_succ, i64_w, i32_w]; rfl
          refine pure_ (i := 12) (N := some 36) (v := ?_) (a' := ?_) (bm_ 30 8191) rfl rfl (any_of HT_.out (by kernel_rfl)) (fun _ _ _ h => h) (Or.inl ⟨by rfl, ?_⟩) ?_ ?_
          rotate_left; ·intro w'; go_simp; with_reducible rfl
          rotate_left; ·simp only [Act.put, List.setIfInBounds_toArray, List.set_cons_zero, List.set_cons_succ, i64_w, i32_w]; rfl
          refine take_ (i := 13) (N := some 37) (v := ?_) (a' := ?_) (bm_ 30 16383) rfl rfl (take_ofW HT_.out HW_.out (by kernel_rfl)) (fun _ _ _ h => h) (Or.inl ⟨by rfl, ?_⟩) hHeld ?_ ?_
          rotate_left; ·rintro w' ⟨s0, s1, s2⟩; go_simp; with_reducible rfl
          rotate_left; ·simp only [Act.put, List.setIfInBounds_toArray, List.set_cons_zero, List.set_cons_succ, i64_w, i32_w]; rfl
          refine pure_ (i := 14) (N := some 38) (v := ?_) (a' := ?_) (bm_ 30 32767) rfl rfl (any_of HT_.out (by kernel_rfl)) (fun _ _ _ h => h) (Or.inl ⟨by rfl, ?_⟩) ?_ ?_
          rotate_left; ·intro w'; go_simp; with_reducible rfl
          rotate_left; ·simp only [Act.put, List.setIfInBounds_toArray, List.set_cons_zero, List.set_cons_succ, i64_w, i32_w]; rfl
          refine pure_ (i := 15) (N := some 39) (v := ?_) (a' := ?_) (bm_ 30 65535) rfl rfl (any_of HT_.out (by kernel_rfl)) (fun _ _ _ h => h) (Or.inl ⟨by rfl, ?_⟩) ?_ ?_
          rotate_left; ·intro w'; go_simp; with_reducible rfl
          rotate_left; ·simp only [Act.put, List.setIfInBounds_toArray, List.set_cons_zero, List.set_cons_succ, i64_w, i32_w]; rfl
          refine pure_ (i := 16) (N := some 40) (v := ?_) (a' := ?_) (bm_ 30 131071) rfl rfl (any_of HT_.out (by kernel_rfl)) (fun _ _ _ h => h) (Or.inl ⟨by rfl, ?_⟩) ?_ ?_
          rotate_left; ·intro w'; go_simp; with_reducible rfl
          rotate_left; ·simp only [Act.put, List.setIfInBounds_toArray, List.set_cons_zero, List.set_cons_succ, i64_w, i32_w]; rfl
          refine pure_ (i := 17) (N := some 41) (v := ?_) (a' := ?_) (bm_ 30 262143) rfl rfl (any_of HT_.out (by kernel_rfl)) (fun _ _ _ h => h) (Or.inl ⟨by rfl, ?_⟩) ?_ ?_
          rotate_left; ·intro w'; go_simp; with_reducible rfl
          rotate_left; ·simp only [Act.put, List.setIfInBounds_toArray, List.set_cons_zero, List.set_cons_succ, i64_w, i32_w]; rfl
          refine pure_ (i := 18) (N := some 42) (v := ?_) (a' := ?_) (bm_ 30 524287) rfl rfl (any_of HT_.out (by kernel_rfl)) (fun _ _ _ h => h) (Or.inl ⟨by rfl, ?_⟩) ?_ ?_
          rotate_left; ·intro w'; go_simp; with_reducible rfl
          rotate_left; ·simp only [Act.put, List.setIfInBounds_toArray, List.set_cons_zero, List.set_cons_succ, i64_w, i32_w]; rfl
          refine pure_ (i := 20) (N := some 44) (v := ?_) (a' := ?_) (bm_ 30 1572863) rfl rfl (any_of HT_.out (by kernel_rfl)) (fun _ _ _ h => h) (Or.inl ⟨by rfl, ?_⟩) ?_ ?_
          rotate_left; ·intro w'; go_simp; with_reducible rfl
          rotate_left; ·simp only [Act.put, List.setIfInBounds_toArray, List.set_cons_zero, List.set_cons_succ, i64_w, i32_w]; rfl
          refine pure_ (i := 21) (N := some 45) (v := ?_) (a' := ?_) (bm_ 30 3670015) rfl rfl (any_of HT_.out (by kernel_rfl)) (fun _ _ _ h => h) (Or.inl ⟨by rfl, ?_⟩) ?_ ?_
          rotate_left; ·intro w'; go_simp; with_reducible rfl
          rotate_left; ·simp only [Act.put, List.setIfInBounds_toArray, List.set_cons_zero, List.set_cons_succ, i64_w, i32_w]; rfl
          refine pure_ (i := 22) (N := some 46) (v := ?_) (a' := ?_) (bm_ 30 7864319) rfl rfl (any_of HT_.out (by kernel_rfl)) (fun _ _ _ h => h) (Or.inl ⟨by rfl, ?_⟩) ?_ ?_
          rotate_left; ·intro w'; go_simp; with_reducible rfl
          rotate_left; ·simp only [Act.put, List.setIfInBounds_toArray, List.set_cons_zero, List.set_cons_succ, i64_w, i32_w]; rfl
          refine pure_ (i := 23) (N := some 47) (v := ?_) (a' := ?_) (bm_ 30 16252927) rfl rfl (any_of HT_.out (by kernel_rfl)) (fun _ _ _ h => h) (Or.inl ⟨by rfl, ?_⟩) ?_ ?_
          rotate_left; ·intro w'; go_simp; with_reducible rfl
          rotate_left; ·simp only [Act.put, List.setIfInBounds_toArray, List.set_cons_zero, List.set_cons_succ, i64_w, i32_w]; rfl
          refine pure_ (i := 24) (N := some 48) (v := ?_) (a' := ?_) (bm_ 30 33030143) rfl rfl (any_of HT_.out (by kernel_rfl)) (fun _ _ _ h => h) (Or.inl ⟨by rfl, ?_⟩) ?_ ?_
          rotate_left; ·intro w'; go_simp; with_reducible rfl
          rotate_left; ·simp only [Act.put, List.setIfInBounds_toArray, List.set_cons_zero, List.set_cons_succ, i64_w, i32_w]; rfl
          refine pure_ (i := 25) (N := some 49) (v := ?_) (a' := ?_) (bm_ 30 66584575) rfl rfl (any_of HT_.out (by kernel_rfl)) (fun _ _ _ h => h) (Or.inl ⟨by rfl, ?_⟩) ?_ ?_
          rotate_left; ·intro w'; go_simp; with_reducible rfl
          rotate_left; ·simp only [Act.put, List.setIfInBounds_toArray, List.set_cons_zero, List.set_cons_succ, i64_w, i32_w]; rfl
          refine take_ (i := 19) (N := some 43) (v := ?_) (a' := ?_) (bm_ 30 67108863) rfl rfl (take_ofW HT_.out HW_.out (by kernel_rfl)) (fun _ _ _ h => h) (Or.inl ⟨by rfl, ?_⟩) hHeld ?_ ?_
          rotate_left; ·rintro w' ⟨s0, s1, s2⟩; go_simp; with_reducible rfl
          rotate_left; ·simp only [Act.put, List.setIfInBounds_toArray, List.set_cons_zero, List.set_cons_succ, i64_w, i32_w]; rfl
          refine take_ (i := 27) (N := some 51) (v := ?_) (a' := ?_) (bm_ 30 201326591) rfl rfl (take_ofW HT_.out HW_.out (by kernel_rfl)) (fun _ _ _ h => h) (Or.inl ⟨by rfl, ?_⟩) hHeld ?_ ?_
          rotate_left; ·rintro w' ⟨s0, s1, s2⟩; go_simp; with_reducible rfl
          rotate_left; ·simp only [Act.put, List.setIfInBounds_toArray, List.set_cons_zero, List.set_cons_succ, i64_w, i32_w]; rfl
          refine one_ (i := 26) (N := some 50) (bm_ 30 268435455) rfl rfl (one_of HT_.out (by kernel_rfl)) (by decide) (fun K hK => ?_)
          refine goes_ Tryd.func22 (by kernel_rfl) rfl #[.bool t245, .string (t252 ++ t253), .int .i64 (-(t253.size : Int))] (by rfl) rfl rfl (by (try simp only [List.map_toArray, List.map_cons, List.map_nil]); first | done | rfl | (simp only [List.length_drop, List.length_take]; rfl) | (have z_ : ∀ s_ : ByteArray, s_.size ≤ 9223372036854775807 → -(s_.size : Int) = wrap64 (-(s_.size : Int)) := (fun s_ h_ => by unfold wrap64; omega); rw [← z_ _ (by omega)]; rfl)) ?_
          with_reducible refine (dec_Made.calls k t245 (t252 ++ t253) (-(t253.size : Int)) t255 t256 t257 _ A34.out).mono ?_
          rintro e w36 ⟨rfl, hb⟩
          refine ⟨_, rfl, ?_⟩
          have n0_ := bb_ BK239 hb
          have n1_ := bb_ BK248 hb
          have n2_ := Aside0.mk (below_step (by repeat (first | (with_reducible first | exact HB.out | apply below_alloc | apply pw_below_drewN | apply below_drew1 | refine below_set ?_ GE239.out | refine below_set ?_ GE248.out) | exact HB.out)) hb)
          clear BK239
          clear BK248
          clear HB
          have BK239 := n0_
          have BK248 := n1_
          have HB := n2_
          clear n0_ n1_ n2_
          (try clear hb)
          (try clear hb2)
          (try clear hk)
          (try clear hi)
          refine hK.out _ _ ⟨(blk_cell BK248.out 0).trans rfl, (blk_cell BK248.out 1).trans rfl, (blk_cell BK248.out 2).trans rfl⟩ (fun hHeld => ?_)
          clear hK K
          refine norm_ (a' := ?_) ?_ ?_
          rotate_left
          ·show Act.put _ (some 50) _ = _
           simp only [Act.put, List.setIfInBounds_toArray, List.set_cons_zero, List.set_cons_succ, i64_w, i32_w]
           rfl
          refine pure_ (i := 28) (N := some 52) (v := ?_) (a' := ?_) (bm_ 30 536870911) rfl rfl (any_of HT_.out (by kernel_rfl)) (fun _ _ _ h => h) (Or.inl ⟨by rfl, ?_⟩) ?_ ?_
          rotate_left; ·intro w'; go_simp; with_reducible rfl
          rotate_left; ·simp only [Act.put, List.setIfInBounds_toArray, List.set_cons_zero, List.set_cons_succ, i64_w, i32_w]; rfl
          refine pure_ (i := 29) (N := some 53) (v := ?_) (a' := ?_) (bm_ 30 1073741823) rfl rfl (any_of HT_.out (by kernel_rfl)) (fun _ _ _ h => h) (Or.inl ⟨by rfl, ?_⟩) ?_ ?_
          rotate_left; ·intro w'; go_simp; with_reducible rfl
          rotate_left; ·simp only [Act.put, List.setIfInBounds_toArray, List.set_cons_zero, List.set_cons_succ, i64_w, i32_w]; rfl
          refine done_ (done_of HT_.out (by kernel_rfl)) ?_
          try go_wp2
          go_meet
          case rel => first | (exact ⟨_, ((!(t255 == t245) || (!(t256.toList == t246.toList) || (!(t257 == t247))))), (by first | rfl | (simp; done) | (simp [*]; done) | (simp; first | exact given_isEmpty _ | exact (given_isEmpty _).symm) | (unfold wrap64; omega) | (congr 1; unfold wrap64; omega)), H', ⟨by first | omega | exact Nat.le_refl _⟩, ⟨by (with_reducible repeat (first | refine blk_drewN ?_ _ | refine blk_drew ?_ | refine blk_alloc ?_ _)); exact BK239.out⟩, ⟨by (with_reducible repeat (first | refine blk_drewN ?_ _ | refine blk_drew ?_ | refine blk_alloc ?_ _)); exact BK248.out⟩, ⟨by repeat (first | (with_reducible first | exact HB.out | apply below_alloc | apply pw_below_drewN | apply below_drew1 | refine below_set ?_ GE239.out | refine below_set ?_ GE248.out) | exact HB.out)⟩⟩) | (rw [← hji27] at H'; exact ⟨_, ((!(t255 == t245) || (!(t256.toList == t246.toList) || (!(t257 == t247))))), (by first | rfl | (simp; done) | (simp [*]; done) | (simp; first | exact given_isEmpty _ | exact (given_isEmpty _).symm) | (unfold wrap64; omega) | (congr 1; unfold wrap64; omega)), H', ⟨by first | omega | exact Nat.le_refl _⟩, ⟨by (with_reducible repeat (first | refine blk_drewN ?_ _ | refine blk_drew ?_ | refine blk_alloc ?_ _)); exact BK239.out⟩, ⟨by (with_reducible repeat (first | refine blk_drewN ?_ _ | refine blk_drew ?_ | refine blk_alloc ?_ _)); exact BK248.out⟩, ⟨by repeat (first | (with_reducible first | exact HB.out | apply below_alloc | apply pw_below_drewN | apply below_drew1 | refine below_set ?_ GE239.out | refine below_set ?_ GE248.out) | exact HB.out)⟩⟩)
         ·rw [if_neg c33] at H
          exact absurd H (by simp)
       ·rw [if_neg c29] at H
        exact absurd H (by simp)
      ·rw [if_neg c28] at H
       exact absurd H (by simp)
     ·rw [if_neg c26] at H
      have c26b0 : decide (0 < (t253.size : Int)) = false := decide_eq_false c26
      have c26b1 : decide (0 < t253.size) = false := decide_eq_false (by omega)
      clear c26
      by_cases c37 : t252.size + t253.size ≤ 9223372036854775807
      ·rw [if_pos c37] at H
       have c37b0 := eq_true c37
       have c37b1 : decide (t252.size + t253.size ≤ 9223372036854775807) = true := decide_eq_true c37
       try have c37b2 : (9223372036854775807 < t252.size + t253.size) = False := eq_false (Nat.not_lt.2 c37)
       replace H := Option.bind_eq_some_iff.mp H
       obtain ⟨⟨t258, t259, t260⟩, A380, H⟩ := H
       replace H : (florinlaw02_DecPlaces.j0 k t252 t253 (!(t258 == t245) || (!(t259.toList == t246.toList) || (!(t260 == t247)))) t245 t246 t247) = some r := H
       have A38 := Aside0.mk A380
       clear A380
       have H' := Aside0.mk H
       clear H
       try go_wp2
       have n0_ := Aside0.mk (blk_drew BK239.out)
       have n1_ := Aside0.mk (blk_drew BK248.out)
       have n2_ := Aside0.mk (below_drew1 HB.out)
       clear BK239
       clear BK248
       clear HB
       have BK239 := n0_
       have BK248 := n1_
       have HB := n2_
       clear n0_ n1_ n2_
       refine start_ (n := 30) (S := fun w' => w'.cell? ⟨gb248, 0, none⟩ = some (.bool t245) ∧ w'.cell? ⟨gb248, 1, none⟩ = some (.string t246) ∧ w'.cell? ⟨gb248, 2, none⟩ = some (.int .i64 t247)) (ds := []) #[false, false, false, false, false, false, false, false, false, false, false, false, false, false, false, false, false, false, false, false, false, false, false, false, false, false, false, false, false, false] (by kernel_rfl) rfl rfl ⟨(blk_cell BK248.out 0).trans rfl, (blk_cell BK248.out 1).trans rfl, (blk_cell BK248.out 2).trans rfl⟩ (fun hHeld => ?_); refine with_tabW florinlaw02_DecPlaces.tab7 florinlaw02_DecPlaces.bits7 (fun HT_ HW_ => ?_)
       generalize w23.drew = w39 at BK239 BK248 HB hHeld ⊢
       refine pure_ (i := 0) (N := some 24) (v := ?_) (a' := ?_) (bm_ 30 1) rfl rfl (any_of HT_.out (by kernel_rfl)) (fun _ _ _ h => h) (Or.inl ⟨by rfl, ?_⟩) ?_ ?_
       rotate_left; ·intro w'; go_simp; with_reducible rfl
       rotate_left; ·simp only [Act.put, List.setIfInBounds_toArray, List.set_cons_zero, List.set_cons_succ, i64_w, i32_w]; rfl
       refine pure_ (i := 1) (N := some 25) (v := ?_) (a' := ?_) (bm_ 30 3) rfl rfl (any_of HT_.out (by kernel_rfl)) (fun _ _ _ h => h) (Or.inl ⟨by rfl, ?_⟩) ?_ ?_
       rotate_left; ·intro w'; go_simp; with_reducible rfl
       rotate_left; ·simp only [Act.put, List.setIfInBounds_toArray, List.set_cons_zero, List.set_cons_succ, i64_w, i32_w]; rfl
       refine one_ (i := 2) (N := some 26) (bm_ 30 7) rfl rfl (one_of HT_.out (by kernel_rfl)) (by decide) (fun K hK => ?_)
       refine goes_ Tryd.func21 (by kernel_rfl) rfl #[.string t252] (by rfl) rfl rfl (by (try simp only [List.map_toArray, List.map_cons, List.map_nil]); first | done | rfl | (simp only [List.length_drop, List.length_take]; rfl) | (have z_ : ∀ s_ : ByteArray, s_.size ≤ 9223372036854775807 → -(s_.size : Int) = wrap64 (-(s_.size : Int)) := (fun s_ h_ => by unfold wrap64; omega); rw [← z_ _ (by omega)]; rfl)) ?_
       with_reducible refine (num_Trim.calls k t252 t254 _ A24.out).mono ?_
       rintro e w' ⟨rfl, ⟨nd, rfl⟩⟩
       refine ⟨_, rfl, ?_⟩
       refine hK.out _ _ ⟨(blk_cell BK248.out 0).trans rfl, (blk_cell BK248.out 1).trans rfl, (blk_cell BK248.out 2).trans rfl⟩ (fun hHeld => ?_)
       clear hK K
       refine norm_ (a' := ?_) ?_ ?_
       rotate_left
       ·show Act.put _ (some 26) _ = _
        simp only [Act.put, List.setIfInBounds_toArray, List.set_cons_zero, List.set_cons_succ, i64_w, i32_w]
        rfl
       refine pure_ (i := 3) (N := some 27) (v := ?_) (a' := ?_) (bm_ 30 15) rfl rfl (any_of HT_.out (by kernel_rfl)) (fun _ _ _ h => h) (Or.inl ⟨by rfl, ?_⟩) ?_ ?_
       rotate_left; ·intro w'; go_simp; with_reducible rfl
       rotate_left; ·simp only [Act.put, List.setIfInBounds_toArray, List.set_cons_zero, List.set_cons_succ, i64_w, i32_w]; rfl
       refine pure_ (i := 4) (N := some 28) (v := ?_) (a' := ?_) (bm_ 30 31) rfl rfl (any_of HT_.out (by kernel_rfl)) (fun _ _ _ h => h) (Or.inl ⟨by rfl, ?_⟩) ?_ ?_
       rotate_left; ·intro w'; go_simp; with_reducible rfl
       rotate_left; ·simp only [Act.put, List.setIfInBounds_toArray, List.set_cons_zero, List.set_cons_succ, i64_w, i32_w]; rfl
       refine pure_ (i := 5) (N := some 29) (v := ?_) (a' := ?_) (bm_ 30 63) rfl rfl (any_of HT_.out (by kernel_rfl)) (fun _ _ _ h => h) (Or.inl ⟨by rfl, ?_⟩) ?_ ?_
       rotate_left; ·intro w'; go_simp; with_reducible rfl
       rotate_left; ·simp only [Act.put, List.setIfInBounds_toArray, List.set_cons_zero, List.set_cons_succ, i64_w, i32_w]; rfl
       refine pure_ (i := 6) (N := some 30) (v := ?_) (a' := ?_) (bm_ 30 127) rfl rfl (any_of HT_.out (by kernel_rfl)) (fun _ _ _ h => h) (Or.inl ⟨by rfl, ?_⟩) ?_ ?_
       rotate_left; ·intro w'; go_simp; with_reducible rfl
       rotate_left; ·simp only [Act.put, List.setIfInBounds_toArray, List.set_cons_zero, List.set_cons_succ, i64_w, i32_w]; rfl
       refine pure_ (i := 7) (N := some 31) (v := ?_) (a' := ?_) (bm_ 30 255) rfl rfl (any_of HT_.out (by kernel_rfl)) (fun _ _ _ h => h) (Or.inl ⟨by rfl, ?_⟩) ?_ ?_
       rotate_left; ·intro w'; go_simp; with_reducible rfl
       rotate_left; ·simp only [Act.put, List.setIfInBounds_toArray, List.set_cons_zero, List.set_cons_succ, i64_w, i32_w]; rfl
       refine pure_ (i := 8) (N := some 32) (v := ?_) (a' := ?_) (bm_ 30 511) rfl rfl (any_of HT_.out (by kernel_rfl)) (fun _ _ _ h => h) (Or.inl ⟨by rfl, ?_⟩) ?_ ?_
       rotate_left; ·intro w'; go_simp; with_reducible rfl
       rotate_left; ·simp only [Act.put, List.setIfInBounds_toArray, List.set_cons_zero, List.set_cons_succ, i64_w, i32_w]; rfl
       refine pure_ (i := 9) (N := some 33) (v := undef) (a' := ?_) (bm_ 30 1023) rfl rfl (any_of HT_.out (by kernel_rfl)) (fun _ _ _ h => h) (Or.inr ⟨by rfl, rfl⟩) ?_ ?_
       rotate_left; ·simp only [Act.put, List.setIfInBounds_toArray, List.set_cons_zero, List.set_cons_succ, i64_w, i32_w]; rfl
       refine pure_ (i := 10) (N := some 34) (v := undef) (a' := ?_) (bm_ 30 2047) rfl rfl (any_of HT_.out (by kernel_rfl)) (fun _ _ _ h => h) (Or.inr ⟨by rfl, rfl⟩) ?_ ?_
       rotate_left; ·simp only [Act.put, List.setIfInBounds_toArray, List.set_cons_zero, List.set_cons_succ, i64_w, i32_w]; rfl
       refine pure_ (i := 11) (N := some 35) (v := undef) (a' := ?_) (bm_ 30 4095) rfl rfl (any_of HT_.out (by kernel_rfl)) (fun _ _ _ h => h) (Or.inr ⟨by rfl, rfl⟩) ?_ ?_
       rotate_left; ·simp only [Act.put, List.setIfInBounds_toArray, List.set_cons_zero, List.set_cons_succ, i64_w, i32_w]; rfl
       refine pure_ (i := 12) (N := some 36) (v := undef) (a' := ?_) (bm_ 30 8191) rfl rfl (any_of HT_.out (by kernel_rfl)) (fun _ _ _ h => h) (Or.inr ⟨by rfl, rfl⟩) ?_ ?_
       rotate_left; ·simp only [Act.put, List.setIfInBounds_toArray, List.set_cons_zero, List.set_cons_succ, i64_w, i32_w]; rfl
       refine pure_ (i := 13) (N := some 37) (v := undef) (a' := ?_) (bm_ 30 16383) rfl rfl (any_of HT_.out (by kernel_rfl)) (fun _ _ _ h => h) (Or.inr ⟨by rfl, rfl⟩) ?_ ?_
       rotate_left; ·simp only [Act.put, List.setIfInBounds_toArray, List.set_cons_zero, List.set_cons_succ, i64_w, i32_w]; rfl
       refine pure_ (i := 14) (N := some 38) (v := undef) (a' := ?_) (bm_ 30 32767) rfl rfl (any_of HT_.out (by kernel_rfl)) (fun _ _ _ h => h) (Or.inr ⟨by rfl, rfl⟩) ?_ ?_
       rotate_left; ·simp only [Act.put, List.setIfInBounds_toArray, List.set_cons_zero, List.set_cons_succ, i64_w, i32_w]; rfl
       refine pure_ (i := 15) (N := some 39) (v := ?_) (a' := ?_) (bm_ 30 65535) rfl rfl (any_of HT_.out (by kernel_rfl)) (fun _ _ _ h => h) (Or.inl ⟨by rfl, ?_⟩) ?_ ?_
       rotate_left; ·intro w'; go_simp; with_reducible rfl
       rotate_left; ·simp only [Act.put, List.setIfInBounds_toArray, List.set_cons_zero, List.set_cons_succ, i64_w, i32_w]; rfl
       refine pure_ (i := 16) (N := some 40) (v := ?_) (a' := ?_) (bm_ 30 131071) rfl rfl (any_of HT_.out (by kernel_rfl)) (fun _ _ _ h => h) (Or.inl ⟨by rfl, ?_⟩) ?_ ?_
       rotate_left; ·intro w'; go_simp; with_reducible rfl
       rotate_left; ·simp only [Act.put, List.setIfInBounds_toArray, List.set_cons_zero, List.set_cons_succ, i64_w, i32_w]; rfl
       refine pure_ (i := 17) (N := some 41) (v := ?_) (a' := ?_) (bm_ 30 262143) rfl rfl (any_of HT_.out (by kernel_rfl)) (fun _ _ _ h => h) (Or.inl ⟨by rfl, ?_⟩) ?_ ?_
       rotate_left; ·intro w'; go_simp; with_reducible rfl
       rotate_left; ·simp only [Act.put, List.setIfInBounds_toArray, List.set_cons_zero, List.set_cons_succ, i64_w, i32_w]; rfl
       refine pure_ (i := 18) (N := some 42) (v := ?_) (a' := ?_) (bm_ 30 524287) rfl rfl (any_of HT_.out (by kernel_rfl)) (fun _ _ _ h => h) (Or.inl ⟨by rfl, ?_⟩) ?_ ?_
       rotate_left; ·intro w'; go_simp; with_reducible rfl
       rotate_left; ·simp only [Act.put, List.setIfInBounds_toArray, List.set_cons_zero, List.set_cons_succ, i64_w, i32_w]; rfl
       refine pure_ (i := 20) (N := some 44) (v := ?_) (a' := ?_) (bm_ 30 1572863) rfl rfl (any_of HT_.out (by kernel_rfl)) (fun _ _ _ h => h) (Or.inl ⟨by rfl, ?_⟩) ?_ ?_
       rotate_left; ·intro w'; go_simp; with_reducible rfl
       rotate_left; ·simp only [Act.put, List.setIfInBounds_toArray, List.set_cons_zero, List.set_cons_succ, i64_w, i32_w]; rfl
       refine pure_ (i := 21) (N := some 45) (v := ?_) (a' := ?_) (bm_ 30 3670015) rfl rfl (any_of HT_.out (by kernel_rfl)) (fun _ _ _ h => h) (Or.inl ⟨by rfl, ?_⟩) ?_ ?_
       rotate_left; ·intro w'; go_simp; with_reducible rfl
       rotate_left; ·simp only [Act.put, List.setIfInBounds_toArray, List.set_cons_zero, List.set_cons_succ, i64_w, i32_w]; rfl
       refine pure_ (i := 22) (N := some 46) (v := ?_) (a' := ?_) (bm_ 30 7864319) rfl rfl (any_of HT_.out (by kernel_rfl)) (fun _ _ _ h => h) (Or.inl ⟨by rfl, ?_⟩) ?_ ?_
       rotate_left; ·intro w'; go_simp; with_reducible rfl
       rotate_left; ·simp only [Act.put, List.setIfInBounds_toArray, List.set_cons_zero, List.set_cons_succ, i64_w, i32_w]; rfl
       refine pure_ (i := 23) (N := some 47) (v := ?_) (a' := ?_) (bm_ 30 16252927) rfl rfl (any_of HT_.out (by kernel_rfl)) (fun _ _ _ h => h) (Or.inl ⟨by rfl, ?_⟩) ?_ ?_
       rotate_left; ·intro w'; go_simp; with_reducible rfl
       rotate_left; ·simp only [Act.put, List.setIfInBounds_toArray, List.set_cons_zero, List.set_cons_succ, i64_w, i32_w]; rfl
       refine pure_ (i := 24) (N := some 48) (v := ?_) (a' := ?_) (bm_ 30 33030143) rfl rfl (any_of HT_.out (by kernel_rfl)) (fun _ _ _ h => h) (Or.inl ⟨by rfl, ?_⟩) ?_ ?_
       rotate_left; ·intro w'; go_simp; with_reducible rfl
       rotate_left; ·simp only [Act.put, List.setIfInBounds_toArray, List.set_cons_zero, List.set_cons_succ, i64_w, i32_w]; rfl
       refine pure_ (i := 25) (N := some 49) (v := ?_) (a' := ?_) (bm_ 30 66584575) rfl rfl (any_of HT_.out (by kernel_rfl)) (fun _ _ _ h => h) (Or.inl ⟨by rfl, ?_⟩) ?_ ?_
       rotate_left; ·intro w'; go_simp; with_reducible rfl
       rotate_left; ·simp only [Act.put, List.setIfInBounds_toArray, List.set_cons_zero, List.set_cons_succ, i64_w, i32_w]; rfl
       refine take_ (i := 19) (N := some 43) (v := ?_) (a' := ?_) (bm_ 30 67108863) rfl rfl (take_ofW HT_.out HW_.out (by kernel_rfl)) (fun _ _ _ h => h) (Or.inl ⟨by rfl, ?_⟩) hHeld ?_ ?_
       rotate_left; ·rintro w' ⟨s0, s1, s2⟩; go_simp; with_reducible rfl
       rotate_left; ·simp only [Act.put, List.setIfInBounds_toArray, List.set_cons_zero, List.set_cons_succ, i64_w, i32_w]; rfl
       refine take_ (i := 27) (N := some 51) (v := ?_) (a' := ?_) (bm_ 30 201326591) rfl rfl (take_ofW HT_.out HW_.out (by kernel_rfl)) (fun _ _ _ h => h) (Or.inl ⟨by rfl, ?_⟩) hHeld ?_ ?_
       rotate_left; ·rintro w' ⟨s0, s1, s2⟩; go_simp; with_reducible rfl
       rotate_left; ·simp only [Act.put, List.setIfInBounds_toArray, List.set_cons_zero, List.set_cons_succ, i64_w, i32_w]; rfl
       refine one_ (i := 26) (N := some 50) (bm_ 30 268435455) rfl rfl (one_of HT_.out (by kernel_rfl)) (by decide) (fun K hK => ?_)
       refine goes_ Tryd.func22 (by kernel_rfl) rfl #[.bool t245, .string (t252 ++ t253), .int .i64 (-(t253.size : Int))] (by rfl) rfl rfl (by (try simp only [List.map_toArray, List.map_cons, List.map_nil]); first | done | rfl | (simp only [List.length_drop, List.length_take]; rfl) | (have z_ : ∀ s_ : ByteArray, s_.size ≤ 9223372036854775807 → -(s_.size : Int) = wrap64 (-(s_.size : Int)) := (fun s_ h_ => by unfold wrap64; omega); rw [← z_ _ (by omega)]; rfl)) ?_
       with_reducible refine (dec_Made.calls k t245 (t252 ++ t253) (-(t253.size : Int)) t258 t259 t260 _ A38.out).mono ?_
       rintro e w40 ⟨rfl, hb⟩
       refine ⟨_, rfl, ?_⟩
       have n0_ := bb_ BK239 hb
       have n1_ := bb_ BK248 hb
       have n2_ := Aside0.mk (below_step (by repeat (first | (with_reducible first | exact HB.out | apply below_alloc | apply pw_below_drewN | apply below_drew1 | refine below_set ?_ GE239.out | refine below_set ?_ GE248.out) | exact HB.out)) hb)
       clear BK239
       clear BK248
       clear HB
       have BK239 := n0_
       have BK248 := n1_
       have HB := n2_
       clear n0_ n1_ n2_
       (try clear hb)
       (try clear hb2)
       (try clear hk)
       (try clear hi)
       refine hK.out _ _ ⟨(blk_cell BK248.out 0).trans rfl, (blk_cell BK248.out 1).trans rfl, (blk_cell BK248.out 2).trans rfl⟩ (fun hHeld => ?_)
       clear hK K
       refine norm_ (a' := ?_) ?_ ?_
       rotate_left
       ·show Act.put _ (some 50) _ = _
        simp only [Act.put, List.setIfInBounds_toArray, List.set_cons_zero, List.set_cons_succ, i64_w, i32_w]
        rfl
       refine pure_ (i := 28) (N := some 52) (v := ?_) (a' := ?_) (bm_ 30 536870911) rfl rfl (any_of HT_.out (by kernel_rfl)) (fun _ _ _ h => h) (Or.inl ⟨by rfl, ?_⟩) ?_ ?_
       rotate_left; ·intro w'; go_simp; with_reducible rfl
       rotate_left; ·simp only [Act.put, List.setIfInBounds_toArray, List.set_cons_zero, List.set_cons_succ, i64_w, i32_w]; rfl
       refine pure_ (i := 29) (N := some 53) (v := ?_) (a' := ?_) (bm_ 30 1073741823) rfl rfl (any_of HT_.out (by kernel_rfl)) (fun _ _ _ h => h) (Or.inl ⟨by rfl, ?_⟩) ?_ ?_
       rotate_left; ·intro w'; go_simp; with_reducible rfl
       rotate_left; ·simp only [Act.put, List.setIfInBounds_toArray, List.set_cons_zero, List.set_cons_succ, i64_w, i32_w]; rfl
       refine done_ (done_of HT_.out (by kernel_rfl)) ?_
       try go_wp2
       go_meet
       case rel => exact ⟨_, ((!(t258 == t245) || (!(t259.toList == t246.toList) || (!(t260 == t247))))), (by first | rfl | (simp; done) | (simp [*]; done) | (simp; first | exact given_isEmpty _ | exact (given_isEmpty _).symm) | (unfold wrap64; omega) | (congr 1; unfold wrap64; omega)), H', ⟨by first | omega | exact Nat.le_refl _⟩, ⟨by (with_reducible repeat (first | refine blk_drewN ?_ _ | refine blk_drew ?_ | refine blk_alloc ?_ _)); exact BK239.out⟩, ⟨by (with_reducible repeat (first | refine blk_drewN ?_ _ | refine blk_drew ?_ | refine blk_alloc ?_ _)); exact BK248.out⟩, ⟨by repeat (first | (with_reducible first | exact HB.out | apply below_alloc | apply pw_below_drewN | apply below_drew1 | refine below_set ?_ GE239.out | refine below_set ?_ GE248.out) | exact HB.out)⟩⟩
      ·rw [if_neg c37] at H
       exact absurd H (by simp)
    ·rw [if_neg c25] at H
     have c25b0 : (t252.toList == t254.toList) = false := beq_eq_false_iff_ne.mpr c25
     have c25b1 : (t252.toList != t254.toList) = true := bne_iff_ne.mpr c25
     (first | rw [c25b0] | (simp only [i64_w, i32_w]; rw [c25b0]) | skip)
     have H' := Aside0.mk H
     clear H
     try go_wp2
     have n0_ := Aside0.mk (blk_drew BK239.out)
     have n1_ := Aside0.mk (blk_drew BK248.out)
     have n2_ := Aside0.mk (below_drew1 HB.out)
     clear BK239
     clear BK248
     clear HB
     have BK239 := n0_
     have BK248 := n1_
     have HB := n2_
     clear n0_ n1_ n2_
     refine start_ (n := 30) (S := fun w' => True) (ds := []) #[false, false, false, false, false, false, false, false, false, false, false, false, false, false, false, false, false, false, false, false, false, false, false, false, false, false, false, false, false, false] (by kernel_rfl) rfl rfl trivial (fun hHeld => ?_); refine with_tabW florinlaw02_DecPlaces.tab7 florinlaw02_DecPlaces.bits7 (fun HT_ HW_ => ?_)
     generalize w23.drew = w41 at BK239 BK248 HB hHeld ⊢
     refine pure_ (i := 0) (N := some 24) (v := ?_) (a' := ?_) (bm_ 30 1) rfl rfl (any_of HT_.out (by kernel_rfl)) (fun _ _ _ h => h) (Or.inl ⟨by rfl, ?_⟩) ?_ ?_
     rotate_left; ·intro w'; go_simp; with_reducible rfl
     rotate_left; ·simp only [Act.put, List.setIfInBounds_toArray, List.set_cons_zero, List.set_cons_succ, i64_w, i32_w]; rfl
     refine pure_ (i := 1) (N := some 25) (v := ?_) (a' := ?_) (bm_ 30 3) rfl rfl (any_of HT_.out (by kernel_rfl)) (fun _ _ _ h => h) (Or.inl ⟨by rfl, ?_⟩) ?_ ?_
     rotate_left; ·intro w'; go_simp; with_reducible rfl
     rotate_left; ·simp only [Act.put, List.setIfInBounds_toArray, List.set_cons_zero, List.set_cons_succ, i64_w, i32_w]; rfl
     refine one_ (i := 2) (N := some 26) (bm_ 30 7) rfl rfl (one_of HT_.out (by kernel_rfl)) (by decide) (fun K hK => ?_)
     refine goes_ Tryd.func21 (by kernel_rfl) rfl #[.string t252] (by rfl) rfl rfl (by (try simp only [List.map_toArray, List.map_cons, List.map_nil]); first | done | rfl | (simp only [List.length_drop, List.length_take]; rfl) | (have z_ : ∀ s_ : ByteArray, s_.size ≤ 9223372036854775807 → -(s_.size : Int) = wrap64 (-(s_.size : Int)) := (fun s_ h_ => by unfold wrap64; omega); rw [← z_ _ (by omega)]; rfl)) ?_
     with_reducible refine (num_Trim.calls k t252 t254 _ A24.out).mono ?_
     rintro e w' ⟨rfl, ⟨nd, rfl⟩⟩
     refine ⟨_, rfl, ?_⟩
     refine hK.out _ _ trivial (fun hHeld => ?_)
     clear hK K
     refine norm_ (a' := ?_) ?_ ?_
     rotate_left
     ·show Act.put _ (some 26) _ = _
      simp only [Act.put, List.setIfInBounds_toArray, List.set_cons_zero, List.set_cons_succ, i64_w, i32_w]
      rfl
     refine pure_ (i := 3) (N := some 27) (v := ?_) (a' := ?_) (bm_ 30 15) rfl rfl (any_of HT_.out (by kernel_rfl)) (fun _ _ _ h => h) (Or.inl ⟨by rfl, ?_⟩) ?_ ?_
     rotate_left; ·intro w'; go_simp; with_reducible rfl
     rotate_left; ·simp only [Act.put, List.setIfInBounds_toArray, List.set_cons_zero, List.set_cons_succ, i64_w, i32_w]; rfl
     refine pure_ (i := 4) (N := some 28) (v := ?_) (a' := ?_) (bm_ 30 31) rfl rfl (any_of HT_.out (by kernel_rfl)) (fun _ _ _ h => h) (Or.inl ⟨by rfl, ?_⟩) ?_ ?_
     rotate_left; ·intro w'; go_simp; with_reducible rfl
     rotate_left; ·simp only [Act.put, List.setIfInBounds_toArray, List.set_cons_zero, List.set_cons_succ, i64_w, i32_w]; rfl
     refine pure_ (i := 5) (N := some 29) (v := undef) (a' := ?_) (bm_ 30 63) rfl rfl (any_of HT_.out (by kernel_rfl)) (fun _ _ _ h => h) (Or.inr ⟨by rfl, rfl⟩) ?_ ?_
     rotate_left; ·simp only [Act.put, List.setIfInBounds_toArray, List.set_cons_zero, List.set_cons_succ, i64_w, i32_w]; rfl
     refine pure_ (i := 6) (N := some 30) (v := undef) (a' := ?_) (bm_ 30 127) rfl rfl (any_of HT_.out (by kernel_rfl)) (fun _ _ _ h => h) (Or.inr ⟨by rfl, rfl⟩) ?_ ?_
     rotate_left; ·simp only [Act.put, List.setIfInBounds_toArray, List.set_cons_zero, List.set_cons_succ, i64_w, i32_w]; rfl
     refine pure_ (i := 7) (N := some 31) (v := undef) (a' := ?_) (bm_ 30 255) rfl rfl (any_of HT_.out (by kernel_rfl)) (fun _ _ _ h => h) (Or.inr ⟨by rfl, rfl⟩) ?_ ?_
     rotate_left; ·simp only [Act.put, List.setIfInBounds_toArray, List.set_cons_zero, List.set_cons_succ, i64_w, i32_w]; rfl
     refine pure_ (i := 8) (N := some 32) (v := undef) (a' := ?_) (bm_ 30 511) rfl rfl (any_of HT_.out (by kernel_rfl)) (fun _ _ _ h => h) (Or.inr ⟨by rfl, rfl⟩) ?_ ?_
     rotate_left; ·simp only [Act.put, List.setIfInBounds_toArray, List.set_cons_zero, List.set_cons_succ, i64_w, i32_w]; rfl
     refine pure_ (i := 9) (N := some 33) (v := undef) (a' := ?_) (bm_ 30 1023) rfl rfl (any_of HT_.out (by kernel_rfl)) (fun _ _ _ h => h) (Or.inr ⟨by rfl, rfl⟩) ?_ ?_
     rotate_left; ·simp only [Act.put, List.setIfInBounds_toArray, List.set_cons_zero, List.set_cons_succ, i64_w, i32_w]; rfl
     refine pure_ (i := 10) (N := some 34) (v := undef) (a' := ?_) (bm_ 30 2047) rfl rfl (any_of HT_.out (by kernel_rfl)) (fun _ _ _ h => h) (Or.inr ⟨by rfl, rfl⟩) ?_ ?_
     rotate_left; ·simp only [Act.put, List.setIfInBounds_toArray, List.set_cons_zero, List.set_cons_succ, i64_w, i32_w]; rfl
     refine pure_ (i := 11) (N := some 35) (v := undef) (a' := ?_) (bm_ 30 4095) rfl rfl (any_of HT_.out (by kernel_rfl)) (fun _ _ _ h => h) (Or.inr ⟨by rfl, rfl⟩) ?_ ?_
     rotate_left; ·simp only [Act.put, List.setIfInBounds_toArray, List.set_cons_zero, List.set_cons_succ, i64_w, i32_w]; rfl
     refine pure_ (i := 12) (N := some 36) (v := undef) (a' := ?_) (bm_ 30 8191) rfl rfl (any_of HT_.out (by kernel_rfl)) (fun _ _ _ h => h) (Or.inr ⟨by rfl, rfl⟩) ?_ ?_
     rotate_left; ·simp only [Act.put, List.setIfInBounds_toArray, List.set_cons_zero, List.set_cons_succ, i64_w, i32_w]; rfl
     refine pure_ (i := 13) (N := some 37) (v := undef) (a' := ?_) (bm_ 30 16383) rfl rfl (any_of HT_.out (by kernel_rfl)) (fun _ _ _ h => h) (Or.inr ⟨by rfl, rfl⟩) ?_ ?_
     rotate_left; ·simp only [Act.put, List.setIfInBounds_toArray, List.set_cons_zero, List.set_cons_succ, i64_w, i32_w]; rfl
     refine pure_ (i := 14) (N := some 38) (v := undef) (a' := ?_) (bm_ 30 32767) rfl rfl (any_of HT_.out (by kernel_rfl)) (fun _ _ _ h => h) (Or.inr ⟨by rfl, rfl⟩) ?_ ?_
     rotate_left; ·simp only [Act.put, List.setIfInBounds_toArray, List.set_cons_zero, List.set_cons_succ, i64_w, i32_w]; rfl
     refine pure_ (i := 15) (N := some 39) (v := undef) (a' := ?_) (bm_ 30 65535) rfl rfl (any_of HT_.out (by kernel_rfl)) (fun _ _ _ h => h) (Or.inr ⟨by rfl, rfl⟩) ?_ ?_
     rotate_left; ·simp only [Act.put, List.setIfInBounds_toArray, List.set_cons_zero, List.set_cons_succ, i64_w, i32_w]; rfl
     refine pure_ (i := 16) (N := some 40) (v := ?_) (a' := ?_) (bm_ 30 131071) rfl rfl (any_of HT_.out (by kernel_rfl)) (fun _ _ _ h => h) (Or.inl ⟨by rfl, ?_⟩) ?_ ?_
     rotate_left; ·intro w'; go_simp; with_reducible rfl
     rotate_left; ·simp only [Act.put, List.setIfInBounds_toArray, List.set_cons_zero, List.set_cons_succ, i64_w, i32_w]; rfl
     refine pure_ (i := 17) (N := some 41) (v := ?_) (a' := ?_) (bm_ 30 262143) rfl rfl (any_of HT_.out (by kernel_rfl)) (fun _ _ _ h => h) (Or.inl ⟨by rfl, ?_⟩) ?_ ?_
     rotate_left; ·intro w'; go_simp; with_reducible rfl
     rotate_left; ·simp only [Act.put, List.setIfInBounds_toArray, List.set_cons_zero, List.set_cons_succ, i64_w, i32_w]; rfl
     refine pure_ (i := 18) (N := some 42) (v := undef) (a' := ?_) (bm_ 30 524287) rfl rfl (any_of HT_.out (by kernel_rfl)) (fun _ _ _ h => h) (Or.inr ⟨by rfl, rfl⟩) ?_ ?_
     rotate_left; ·simp only [Act.put, List.setIfInBounds_toArray, List.set_cons_zero, List.set_cons_succ, i64_w, i32_w]; rfl
     refine pure_ (i := 19) (N := some 43) (v := undef) (a' := ?_) (bm_ 30 1048575) rfl rfl (any_of HT_.out (by kernel_rfl)) (fun _ _ _ h => h) (Or.inr ⟨by rfl, rfl⟩) ?_ ?_
     rotate_left; ·simp only [Act.put, List.setIfInBounds_toArray, List.set_cons_zero, List.set_cons_succ, i64_w, i32_w]; rfl
     refine pure_ (i := 20) (N := some 44) (v := undef) (a' := ?_) (bm_ 30 2097151) rfl rfl (any_of HT_.out (by kernel_rfl)) (fun _ _ _ h => h) (Or.inr ⟨by rfl, rfl⟩) ?_ ?_
     rotate_left; ·simp only [Act.put, List.setIfInBounds_toArray, List.set_cons_zero, List.set_cons_succ, i64_w, i32_w]; rfl
     refine pure_ (i := 21) (N := some 45) (v := undef) (a' := ?_) (bm_ 30 4194303) rfl rfl (any_of HT_.out (by kernel_rfl)) (fun _ _ _ h => h) (Or.inr ⟨by rfl, rfl⟩) ?_ ?_
     rotate_left; ·simp only [Act.put, List.setIfInBounds_toArray, List.set_cons_zero, List.set_cons_succ, i64_w, i32_w]; rfl
     refine pure_ (i := 22) (N := some 46) (v := undef) (a' := ?_) (bm_ 30 8388607) rfl rfl (any_of HT_.out (by kernel_rfl)) (fun _ _ _ h => h) (Or.inr ⟨by rfl, rfl⟩) ?_ ?_
     rotate_left; ·simp only [Act.put, List.setIfInBounds_toArray, List.set_cons_zero, List.set_cons_succ, i64_w, i32_w]; rfl
     refine pure_ (i := 23) (N := some 47) (v := undef) (a' := ?_) (bm_ 30 16777215) rfl rfl (any_of HT_.out (by kernel_rfl)) (fun _ _ _ h => h) (Or.inr ⟨by rfl, rfl⟩) ?_ ?_
     rotate_left; ·simp only [Act.put, List.setIfInBounds_toArray, List.set_cons_zero, List.set_cons_succ, i64_w, i32_w]; rfl
     refine pure_ (i := 24) (N := some 48) (v := undef) (a' := ?_) (bm_ 30 33554431) rfl rfl (any_of HT_.out (by kernel_rfl)) (fun _ _ _ h => h) (Or.inr ⟨by rfl, rfl⟩) ?_ ?_
     rotate_left; ·simp only [Act.put, List.setIfInBounds_toArray, List.set_cons_zero, List.set_cons_succ, i64_w, i32_w]; rfl
     refine pure_ (i := 25) (N := some 49) (v := undef) (a' := ?_) (bm_ 30 67108863) rfl rfl (any_of HT_.out (by kernel_rfl)) (fun _ _ _ h => h) (Or.inr ⟨by rfl, rfl⟩) ?_ ?_
     rotate_left; ·simp only [Act.put, List.setIfInBounds_toArray, List.set_cons_zero, List.set_cons_succ, i64_w, i32_w]; rfl
     refine pure_ (i := 26) (N := some 50) (v := undef) (a' := ?_) (bm_ 30 134217727) rfl rfl (any_of HT_.out (by kernel_rfl)) (fun _ _ _ h => h) (Or.inr ⟨by rfl, rfl⟩) ?_ ?_
     rotate_left; ·simp only [Act.put, List.setIfInBounds_toArray, List.set_cons_zero, List.set_cons_succ, i64_w, i32_w]; rfl
     refine pure_ (i := 27) (N := some 51) (v := undef) (a' := ?_) (bm_ 30 268435455) rfl rfl (any_of HT_.out (by kernel_rfl)) (fun _ _ _ h => h) (Or.inr ⟨by rfl, rfl⟩) ?_ ?_
     rotate_left; ·simp only [Act.put, List.setIfInBounds_toArray, List.set_cons_zero, List.set_cons_succ, i64_w, i32_w]; rfl
     refine pure_ (i := 28) (N := some 52) (v := undef) (a' := ?_) (bm_ 30 536870911) rfl rfl (any_of HT_.out (by kernel_rfl)) (fun _ _ _ h => h) (Or.inr ⟨by rfl, rfl⟩) ?_ ?_
     rotate_left; ·simp only [Act.put, List.setIfInBounds_toArray, List.set_cons_zero, List.set_cons_succ, i64_w, i32_w]; rfl
     refine pure_ (i := 29) (N := some 53) (v := ?_) (a' := ?_) (bm_ 30 1073741823) rfl rfl (any_of HT_.out (by kernel_rfl)) (fun _ _ _ h => h) (Or.inl ⟨by rfl, ?_⟩) ?_ ?_
     rotate_left; ·intro w'; go_simp; with_reducible rfl
     rotate_left; ·simp only [Act.put, List.setIfInBounds_toArray, List.set_cons_zero, List.set_cons_succ, i64_w, i32_w]; rfl
     refine done_ (done_of HT_.out (by kernel_rfl)) ?_
     try go_wp2
     go_meet
     case rel => exact ⟨_, (true), (by first | rfl | (simp; done) | (simp [*]; done) | (simp; first | exact given_isEmpty _ | exact (given_isEmpty _).symm) | (unfold wrap64; omega) | (congr 1; unfold wrap64; omega)), H', ⟨by first | omega | exact Nat.le_refl _⟩, ⟨by (with_reducible repeat (first | refine blk_drewN ?_ _ | refine blk_drew ?_ | refine blk_alloc ?_ _)); exact BK239.out⟩, ⟨by (with_reducible repeat (first | refine blk_drewN ?_ _ | refine blk_drew ?_ | refine blk_alloc ?_ _)); exact BK248.out⟩, ⟨by repeat (first | (with_reducible first | exact HB.out | apply below_alloc | apply pw_below_drewN | apply below_drew1 | refine below_set ?_ GE239.out | refine below_set ?_ GE248.out) | exact HB.out)⟩⟩
   case rest =>
    clear HC10
    try clear c2
    try clear p2
    try clear c3
    try clear p6
    try clear c21
    try clear c22
    try clear c25
    try clear c25b0
    try clear c25b1
    try clear c26
    try clear c26b0
    try clear c26b1
    try clear c28
    try clear c29
    try clear c33
    try clear c37
    try clear c37b0
    try clear c37b1
    try clear c37b2
    obtain ⟨kq, x53_9, rfl, HA, HJ9, BK239, BK248, HB⟩ := hcut
    cases kq with
    | zero => exact absurd HA.out (by simp [florinlaw02_DecPlaces.j0])
    | succ kj9 =>
     have H := HA.out
     clear HA
     simp only [florinlaw02_DecPlaces.j0] at H
     by_cases c42 : x53_9 = true
     ·subst c42
      have H1 : (some false) = some r := by rw [if_pos rfl] at H; exact H
      clear H
      have H := H1
      clear H1
      obtain rfl := Option.some.inj H
      go_wp2
      go_ret
      exact ⟨by first | rfl | (simp [errW_none, errW_some] <;> rfl) | (simp [*, errW_none, errW_some] <;> first | rfl | exact given_isEmpty _ | exact (given_isEmpty _).symm), by repeat (first | (with_reducible first | exact HB.out | apply below_alloc | apply pw_below_drewN | apply below_drew1 | refine below_set ?_ GE239.out | refine below_set ?_ GE248.out) | exact HB.out)⟩
     ·replace c42 := Bool.eq_false_iff.mpr c42
      subst c42
      have H1 : (if t252.toList = ([] : List UInt8) then (florinlaw02_DecPlaces.j1 kj9 t252 t253 (⟨#[48]⟩ : ByteArray) t245 t246 t247) else (florinlaw02_DecPlaces.j1 kj9 t252 t253 t252 t245 t246 t247)) = some r := by rw [if_neg (show ¬ (false = true) by decide)] at H; exact H
      clear H
      have H := H1
      clear H1
      have HC43 := Aside0.mk H
      clear H
      go_upto_if 56 with (fail)
      go_cut [6] (fun v6 wc => ∃ (kq : Nat) (x6_42 : ByteArray), v6 = .string x6_42 ∧ Aside0 (florinlaw02_DecPlaces.j1 kq t252 t253 x6_42 t245 t246 t247 = some r) ∧ Aside0 (kq ≤ kj9) ∧ Aside0 (wc.heap[gb239]? = some (.cells #[.bool a0_0, (.slice A0_1 l0_1.length c0_1), .int .i64 a0_2] 33 (0, 0))) ∧ Aside0 (wc.heap[gb248]? = some (.cells #[.bool t245, .string t246, .int .i64 t247] 24 (0, 0))) ∧ Aside0 (Below w.heap.size w wc))
      case first =>
       have H := HC43.out
       clear HC43
       by_cases c44 : t252.toList = ([] : List UInt8)
       ·rw [if_pos c44] at H
        have c44b0 : (t252.toList == ([] : List UInt8)) = true := beq_iff_eq.mpr c44
        have c44b1 : (t252.toList != ([] : List UInt8)) = false := bne_eq_false_iff_eq.mpr c44
        have c44b2 : (t252.toList.isEmpty) = true := by rw [c44]; rfl
        clear c44
        (first | rw [c44b0] | (simp only [i64_w, i32_w]; rw [c44b0]) | rw [c44b2] | skip)
        have H' := Aside0.mk H
        clear H
        go_wp2
        go_meet
        case rel => exact ⟨_, ((⟨#[48]⟩ : ByteArray)), (by first | rfl | (simp; done) | (simp [*]; done) | (simp; first | exact given_isEmpty _ | exact (given_isEmpty _).symm) | (unfold wrap64; omega) | (congr 1; unfold wrap64; omega)), H', ⟨by have := HJ9.out; first | omega | exact Nat.le_refl _⟩, ⟨by (with_reducible repeat (first | refine blk_drewN ?_ _ | refine blk_drew ?_ | refine blk_alloc ?_ _)); exact BK239.out⟩, ⟨by (with_reducible repeat (first | refine blk_drewN ?_ _ | refine blk_drew ?_ | refine blk_alloc ?_ _)); exact BK248.out⟩, ⟨by repeat (first | (with_reducible first | exact HB.out | apply below_alloc | apply pw_below_drewN | apply below_drew1 | refine below_set ?_ GE239.out | refine below_set ?_ GE248.out) | exact HB.out)⟩⟩
       ·rw [if_neg c44] at H
        have c44b0 : (t252.toList == ([] : List UInt8)) = false := beq_eq_false_iff_ne.mpr c44
        have c44b1 : (t252.toList != ([] : List UInt8)) = true := bne_iff_ne.mpr c44
        have c44b2 : (t252.toList.isEmpty) = false := by rw [given_isEmpty, bne_iff_ne.mpr c44]; rfl
        (first | rw [c44b0] | (simp only [i64_w, i32_w]; rw [c44b0]) | rw [c44b2] | skip)
        have H' := Aside0.mk H
        clear H
        go_wp2
        go_meet
        case rel => exact ⟨_, (t252), (by first | rfl | (simp; done) | (simp [*]; done) | (simp; first | exact given_isEmpty _ | exact (given_isEmpty _).symm) | (unfold wrap64; omega) | (congr 1; unfold wrap64; omega)), H', ⟨by have := HJ9.out; first | omega | exact Nat.le_refl _⟩, ⟨by (with_reducible repeat (first | refine blk_drewN ?_ _ | refine blk_drew ?_ | refine blk_alloc ?_ _)); exact BK239.out⟩, ⟨by (with_reducible repeat (first | refine blk_drewN ?_ _ | refine blk_drew ?_ | refine blk_alloc ?_ _)); exact BK248.out⟩, ⟨by repeat (first | (with_reducible first | exact HB.out | apply below_alloc | apply pw_below_drewN | apply below_drew1 | refine below_set ?_ GE239.out | refine below_set ?_ GE248.out) | exact HB.out)⟩⟩
      case rest =>
       clear HC43
       try clear c2
       try clear p2
       try clear c3
       try clear c4
       try clear p6
       try clear c21
       try clear c22
       try clear c25
       try clear c25b0
       try clear c25b1
       try clear c26
       try clear c26b0
       try clear c26b1
       try clear c28
       try clear c29
       try clear c33
       try clear c37
       try clear c37b0
       try clear c37b1
       try clear c37b2
       try clear c42
       try clear c44
       try clear c44b0
       try clear c44b1
       try clear c44b2
       try clear p2
       try clear p6
       obtain ⟨kq, x6_42, rfl, HA, HJ42, BK239, BK248, HB⟩ := hcut
       cases kq with
       | zero => exact absurd HA.out (by simp [florinlaw02_DecPlaces.j1])
       | succ kj42 =>
        have H := HA.out
        clear HA
        simp only [florinlaw02_DecPlaces.j1] at H
        have HC45 := Aside0.mk H
        clear H
        go_upto_if 58 with (fail)
        go_cut [6] (fun v6 wc => ∃ (kq : Nat) (x6_44 : ByteArray), v6 = .string x6_44 ∧ Aside0 (florinlaw02_DecPlaces.j2 kq t252 t253 x6_44 t245 t246 t247 = some r) ∧ Aside0 (kq ≤ kj42) ∧ Aside0 (wc.heap[gb239]? = some (.cells #[.bool a0_0, (.slice A0_1 l0_1.length c0_1), .int .i64 a0_2] 33 (0, 0))) ∧ Aside0 (wc.heap[gb248]? = some (.cells #[.bool t245, .string t246, .int .i64 t247] 24 (0, 0))) ∧ Aside0 (Below w.heap.size w wc))
        case first =>
         have H := HC45.out
         clear HC45
         by_cases c46 : t253.toList = ([] : List UInt8)
         ·rw [if_pos c46] at H
          have c46b0 : (t253.toList == ([] : List UInt8)) = true := beq_iff_eq.mpr c46
          have c46b1 : (t253.toList != ([] : List UInt8)) = false := bne_eq_false_iff_eq.mpr c46
          have c46b2 : (t253.toList.isEmpty) = true := by rw [c46]; rfl
          clear c46
          (first | rw [c46b0] | (simp only [i64_w, i32_w]; rw [c46b0]) | rw [c46b2] | skip)
          have H' := Aside0.mk H
          clear H
          go_wp2
          go_meet
          case rel => exact ⟨_, (x6_42), (by first | rfl | (simp; done) | (simp [*]; done) | (simp; first | exact given_isEmpty _ | exact (given_isEmpty _).symm) | (unfold wrap64; omega) | (congr 1; unfold wrap64; omega)), H', ⟨by have := HJ9.out; have := HJ42.out; first | omega | exact Nat.le_refl _⟩, ⟨by (with_reducible repeat (first | refine blk_drewN ?_ _ | refine blk_drew ?_ | refine blk_alloc ?_ _)); exact BK239.out⟩, ⟨by (with_reducible repeat (first | refine blk_drewN ?_ _ | refine blk_drew ?_ | refine blk_alloc ?_ _)); exact BK248.out⟩, ⟨by repeat (first | (with_reducible first | exact HB.out | apply below_alloc | apply pw_below_drewN | apply below_drew1 | refine below_set ?_ GE239.out | refine below_set ?_ GE248.out) | exact HB.out)⟩⟩
         ·rw [if_neg c46] at H
          have c46b0 : (t253.toList == ([] : List UInt8)) = false := beq_eq_false_iff_ne.mpr c46
          have c46b1 : (t253.toList != ([] : List UInt8)) = true := bne_iff_ne.mpr c46
          have c46b2 : (t253.toList.isEmpty) = false := by rw [given_isEmpty, bne_iff_ne.mpr c46]; rfl
          (first | rw [c46b0] | (simp only [i64_w, i32_w]; rw [c46b0]) | rw [c46b2] | skip)
          by_cases c47 : x6_42.size + 1 ≤ 9223372036854775807
          ·rw [if_pos c47] at H
           have c47b0 := eq_true c47
           have c47b1 : decide (x6_42.size + 1 ≤ 9223372036854775807) = true := decide_eq_true c47
           try have c47b2 : (9223372036854775807 < x6_42.size + 1) = False := eq_false (Nat.not_lt.2 c47)
           by_cases c48 : (x6_42 ++ (⟨#[46]⟩ : ByteArray)).size + t253.size ≤ 9223372036854775807
           ·rw [if_pos c48] at H
            have c48b0 := eq_true c48
            have c48b1 : decide ((x6_42 ++ (⟨#[46]⟩ : ByteArray)).size + t253.size ≤ 9223372036854775807) = true := decide_eq_true c48
            try (have c48b5 := c48b0; simp only [ByteArray.size_append, Int.natCast_add] at c48b5)
            try have c48b2 : (9223372036854775807 < (x6_42 ++ (⟨#[46]⟩ : ByteArray)).size + t253.size) = False := eq_false (Nat.not_lt.2 c48)
            try have c48b3 : (9223372036854775807 < x6_42.size + 1 + t253.size) = False := eq_false (Nat.not_lt.2 (by have h_ := c48; simp only [ByteArray.size_append] at h_; exact h_))
            try have c48b4 : (x6_42.size + 1 + t253.size ≤ 9223372036854775807) = True := eq_true (by have h_ := c48; simp only [ByteArray.size_append] at h_; exact h_)
            have H' := Aside0.mk H
            clear H
            go_wp2
            go_meet
            case rel => exact ⟨_, ((x6_42 ++ (⟨#[46]⟩ : ByteArray)) ++ t253), (by first | rfl | (simp; done) | (simp [*]; done) | (simp; first | exact given_isEmpty _ | exact (given_isEmpty _).symm) | (unfold wrap64; omega) | (congr 1; unfold wrap64; omega)), H', ⟨by have := HJ9.out; have := HJ42.out; first | omega | exact Nat.le_refl _⟩, ⟨by (with_reducible repeat (first | refine blk_drewN ?_ _ | refine blk_drew ?_ | refine blk_alloc ?_ _)); exact BK239.out⟩, ⟨by (with_reducible repeat (first | refine blk_drewN ?_ _ | refine blk_drew ?_ | refine blk_alloc ?_ _)); exact BK248.out⟩, ⟨by repeat (first | (with_reducible first | exact HB.out | apply below_alloc | apply pw_below_drewN | apply below_drew1 | refine below_set ?_ GE239.out | refine below_set ?_ GE248.out) | exact HB.out)⟩⟩
           ·rw [if_neg c48] at H
            exact absurd H (by simp)
          ·rw [if_neg c47] at H
           exact absurd H (by simp)
        case rest =>
         clear HC45
         try clear c2
         try clear p2
         try clear c3
         try clear c4
         try clear p6
         try clear c21
         try clear c22
         try clear c25
         try clear c25b0
         try clear c25b1
         try clear c26
         try clear c26b0
         try clear c26b1
         try clear c28
         try clear c29
         try clear c33
         try clear c37
         try clear c37b0
         try clear c37b1
         try clear c37b2
         try clear c42
         try clear c44
         try clear c44b0
         try clear c44b1
         try clear c44b2
         try clear c46
         try clear c46b0
         try clear c46b1
         try clear c46b2
         try clear c47
         try clear c47b0
         try clear c47b1
         try clear c47b2
         try clear c48
         try clear c48b0
         try clear c48b1
         try clear c48b2
         try clear p2
         try clear p6
         obtain ⟨kq, x6_44, rfl, HA, HJ44, BK239, BK248, HB⟩ := hcut
         cases kq with
         | zero => exact absurd HA.out (by simp [florinlaw02_DecPlaces.j2])
         | succ kj44 =>
          have H := HA.out
          clear HA
          simp only [florinlaw02_DecPlaces.j2] at H
          have HC49 := Aside0.mk H
          clear H
          have hnb50 := NB248_239.out
          have hnc50 := NB239_248.out
          have hcz51_0 : wc.cell? ⟨gb248, 0, none⟩ = some (.bool t245) := (blk_cell BK248.out 0).trans rfl
          have hcz51_1 : wc.cell? ⟨gb248, 1, none⟩ = some (.string t246) := (blk_cell BK248.out 1).trans rfl
          have hcz51_2 : wc.cell? ⟨gb248, 2, none⟩ = some (.int .i64 t247) := (blk_cell BK248.out 2).trans rfl
          have hfz51_0 := blk_frozen BK248.out 0
          have hfz51_1 := blk_frozen BK248.out 1
          have hfz51_2 := blk_frozen BK248.out 2
          go_upto_if 64 with (fail)
          go_cut [6] (fun v6 wc => ∃ (kq : Nat) (x6_48 : ByteArray), v6 = .string x6_48 ∧ Aside0 (florinlaw02_DecPlaces.j3 kq t252 t253 x6_48 t245 t246 t247 = some r) ∧ Aside0 (kq ≤ kj44) ∧ Aside0 (wc.heap[gb239]? = some (.cells #[.bool a0_0, (.slice A0_1 l0_1.length c0_1), .int .i64 a0_2] 33 (0, 0))) ∧ Aside0 (wc.heap[gb248]? = some (.cells #[.bool t245, .string t246, .int .i64 t247] 24 (0, 0))) ∧ Aside0 (Below w.heap.size w wc))
          case first =>
           have H := HC49.out
           clear HC49
           by_cases c52 : t245 = true
           ·subst c52
            have H1 : (if 1 + x6_44.size ≤ 9223372036854775807 then (florinlaw02_DecPlaces.j3 kj44 t252 t253 ((⟨#[45]⟩ : ByteArray) ++ x6_44) true t246 t247) else (none)) = some r := by rw [if_pos rfl] at H; exact H
            clear H
            have H := H1
            clear H1
            by_cases c53 : 1 + x6_44.size ≤ 9223372036854775807
            ·rw [if_pos c53] at H
             have c53b0 := eq_true c53
             have c53b1 : decide (1 + x6_44.size ≤ 9223372036854775807) = true := decide_eq_true c53
             try have c53b2 : (9223372036854775807 < 1 + x6_44.size) = False := eq_false (Nat.not_lt.2 c53)
             have H' := Aside0.mk H
             clear H
             go_wp2
             go_meet
             case rel => exact ⟨_, ((⟨#[45]⟩ : ByteArray) ++ x6_44), (by first | rfl | (simp; done) | (simp [*]; done) | (simp; first | exact given_isEmpty _ | exact (given_isEmpty _).symm) | (unfold wrap64; omega) | (congr 1; unfold wrap64; omega)), H', ⟨by have := HJ9.out; have := HJ42.out; have := HJ44.out; first | omega | exact Nat.le_refl _⟩, ⟨by (with_reducible repeat (first | refine blk_drewN ?_ _ | refine blk_drew ?_ | refine blk_alloc ?_ _)); exact BK239.out⟩, ⟨by (with_reducible repeat (first | refine blk_drewN ?_ _ | refine blk_drew ?_ | refine blk_alloc ?_ _)); exact BK248.out⟩, ⟨by repeat (first | (with_reducible first | exact HB.out | apply below_alloc | apply pw_below_drewN | apply below_drew1 | refine below_set ?_ GE239.out | refine below_set ?_ GE248.out) | exact HB.out)⟩⟩
            ·rw [if_neg c53] at H
             exact absurd H (by simp)
           ·replace c52 := Bool.eq_false_iff.mpr c52
            subst c52
            have H1 : (florinlaw02_DecPlaces.j3 kj44 t252 t253 x6_44 false t246 t247) = some r := by rw [if_neg (show ¬ (false = true) by decide)] at H; exact H
            clear H
            have H := H1
            clear H1
            have H' := Aside0.mk H
            clear H
            go_wp2
            go_meet
            case rel => exact ⟨_, (x6_44), (by first | rfl | (simp; done) | (simp [*]; done) | (simp; first | exact given_isEmpty _ | exact (given_isEmpty _).symm) | (unfold wrap64; omega) | (congr 1; unfold wrap64; omega)), H', ⟨by have := HJ9.out; have := HJ42.out; have := HJ44.out; first | omega | exact Nat.le_refl _⟩, ⟨by (with_reducible repeat (first | refine blk_drewN ?_ _ | refine blk_drew ?_ | refine blk_alloc ?_ _)); exact BK239.out⟩, ⟨by (with_reducible repeat (first | refine blk_drewN ?_ _ | refine blk_drew ?_ | refine blk_alloc ?_ _)); exact BK248.out⟩, ⟨by repeat (first | (with_reducible first | exact HB.out | apply below_alloc | apply pw_below_drewN | apply below_drew1 | refine below_set ?_ GE239.out | refine below_set ?_ GE248.out) | exact HB.out)⟩⟩
          case rest =>
           clear HC49
           try clear c2
           try clear p2
           try clear c3
           try clear c4
           try clear c5
           try clear p6
           try clear c21
           try clear c22
           try clear c25
           try clear c25b0
           try clear c25b1
           try clear c26
           try clear c26b0
           try clear c26b1
           try clear c28
           try clear c29
           try clear c33
           try clear c37
           try clear c37b0
           try clear c37b1
           try clear c37b2
           try clear c42
           try clear c44
           try clear c44b0
           try clear c44b1
           try clear c44b2
           try clear c46
           try clear c46b0
           try clear c46b1
           try clear c46b2
           try clear c47
           try clear c47b0
           try clear c47b1
           try clear c47b2
           try clear c48
           try clear c48b0
           try clear c48b1
           try clear c48b2
           try clear c50
           try clear c52
           try clear c53
           try clear c53b0
           try clear c53b1
           try clear c53b2
           try clear hcz51_0
           try clear hcz51_1
           try clear hcz51_2
           try clear hfz51_0
           try clear hfz51_1
           try clear hfz51_2
           try clear p2
           try clear p6
           obtain ⟨kq, x6_48, rfl, HA, HJ48, BK239, BK248, HB⟩ := hcut
           cases kq with
           | zero => exact absurd HA.out (by simp [florinlaw02_DecPlaces.j3])
           | succ kj48 =>
            have H := HA.out
            clear HA
            simp only [florinlaw02_DecPlaces.j3] at H
            replace H := Option.bind_eq_some_iff.mp H
            obtain ⟨⟨t261, t262⟩, A540, H⟩ := H
            replace H : ((dec_Dec_Zero.f kj48 t245 t246 t247).bind fun t263 => (if t263 = true then (if t262 = true then (some false) else (if t261 = 0 then ((dec_Dec_Plain.f kj48 t245 t246 t247).bind fun t264 => (if t264.toList = ([48] : List UInt8) then ((dec_Dec_String.f kj48 t245 t246 t247).bind fun t265 => (some (t265.toList == ([48] : List UInt8)))) else (some false))) else (some false))) else (if t252.toList = ([] : List UInt8) then (florinlaw02_DecPlaces.l0 kj48 t253 x6_48 t261 t262 0 t245 t246 t247) else ((dec_Dec_Plain.f kj48 t245 t246 t247).bind fun t268 => (if t268.toList = x6_48.toList then (if t262 = true then (some (t261 == (wrap64 ((t252.size : Int) - 1)))) else (some false)) else (some false)))))) = some r := H
            have A54 := Aside0.mk A540
            clear A540
            replace H := Option.bind_eq_some_iff.mp H
            obtain ⟨t263, A550, H⟩ := H
            replace H : (if t263 = true then (if t262 = true then (some false) else (if t261 = 0 then ((dec_Dec_Plain.f kj48 t245 t246 t247).bind fun t264 => (if t264.toList = ([48] : List UInt8) then ((dec_Dec_String.f kj48 t245 t246 t247).bind fun t265 => (some (t265.toList == ([48] : List UInt8)))) else (some false))) else (some false))) else (if t252.toList = ([] : List UInt8) then (florinlaw02_DecPlaces.l0 kj48 t253 x6_48 t261 t262 0 t245 t246 t247) else ((dec_Dec_Plain.f kj48 t245 t246 t247).bind fun t268 => (if t268.toList = x6_48.toList then (if t262 = true then (some (t261 == (wrap64 ((t252.size : Int) - 1)))) else (some false)) else (some false))))) = some r := H
            have A55 := Aside0.mk A550
            clear A550
            by_cases c56 : t263 = true
            ·subst c56
             have H1 : (if t262 = true then (some false) else (if t261 = 0 then ((dec_Dec_Plain.f kj48 t245 t246 t247).bind fun t264 => (if t264.toList = ([48] : List UInt8) then ((dec_Dec_String.f kj48 t245 t246 t247).bind fun t265 => (some (t265.toList == ([48] : List UInt8)))) else (some false))) else (some false))) = some r := by rw [if_pos rfl] at H; exact H
             clear H
             have H := H1
             clear H1
             by_cases c57 : t262 = true
             ·subst c57
              have H1 : (some false) = some r := by rw [if_pos rfl] at H; exact H
              clear H
              have H := H1
              clear H1
              obtain rfl := Option.some.inj H
              have hnb58 := NB248_239.out
              have hnc58 := NB239_248.out
              have hcz59_0 : wc.cell? ⟨gb248, 0, none⟩ = some (.bool t245) := (blk_cell BK248.out 0).trans rfl
              have hcz59_1 : wc.cell? ⟨gb248, 1, none⟩ = some (.string t246) := (blk_cell BK248.out 1).trans rfl
              have hcz59_2 : wc.cell? ⟨gb248, 2, none⟩ = some (.int .i64 t247) := (blk_cell BK248.out 2).trans rfl
              have hfz59_0 := blk_frozen BK248.out 0
              have hfz59_1 := blk_frozen BK248.out 1
              have hfz59_2 := blk_frozen BK248.out 2
              go_wp2_with (first | ((with_reducible refine gate_callee (f := 23) rfl ?_); refine goesL_ (some 69) rfl rfl Tryd.func23 (by kernel_rfl) rfl #[.agg #[.bool t245, .string t246, .int .i64 t247]] rfl (by (try simp only [List.map_toArray, List.map_cons, List.map_nil]); first | done | rfl | (simp only [List.length_drop, List.length_take]; rfl) | (have z_ : ∀ s_ : ByteArray, s_.size ≤ 9223372036854775807 → -(s_.size : Int) = wrap64 (-(s_.size : Int)) := (fun s_ h_ => by unfold wrap64; omega); rw [← z_ _ (by omega)]; rfl)) ?_; (with_reducible refine (dec_Dec_Mag.calls kj48 t245 t246 t247 t261 true _ A54.out).mono ?_); rintro e w60 ⟨rfl, hb⟩; refine ⟨_, rfl, ?_⟩; have n0_ := bb_ BK239 hb; have n1_ := bb_ BK248 hb; have n2_ := Aside0.mk (below_step (by repeat (first | (with_reducible first | exact HB.out | apply below_alloc | apply pw_below_drewN | apply below_drew1 | refine below_set ?_ GE239.out | refine below_set ?_ GE248.out) | exact HB.out)) hb); clear BK239; clear BK248; clear HB; have BK239 := n0_; have BK248 := n1_; have HB := n2_; clear n0_ n1_ n2_; (try clear hb); (try clear hb2); (try clear hk); (try clear hi); have hcz61_0 : w60.cell? ⟨gb248, 0, none⟩ = some (.bool t245) := (blk_cell BK248.out 0).trans rfl; have hcz61_1 : w60.cell? ⟨gb248, 1, none⟩ = some (.string t246) := (blk_cell BK248.out 1).trans rfl; have hcz61_2 : w60.cell? ⟨gb248, 2, none⟩ = some (.int .i64 t247) := (blk_cell BK248.out 2).trans rfl; have hfz61_0 := blk_frozen BK248.out 0; have hfz61_1 := blk_frozen BK248.out 1; have hfz61_2 := blk_frozen BK248.out 2) | ((with_reducible refine gate_callee (f := 24) rfl ?_); refine goesL_ (some 73) rfl rfl Tryd.func24 (by kernel_rfl) rfl #[.agg #[.bool t245, .string t246, .int .i64 t247]] rfl (by (try simp only [List.map_toArray, List.map_cons, List.map_nil]); first | done | rfl | (simp only [List.length_drop, List.length_take]; rfl) | (have z_ : ∀ s_ : ByteArray, s_.size ≤ 9223372036854775807 → -(s_.size : Int) = wrap64 (-(s_.size : Int)) := (fun s_ h_ => by unfold wrap64; omega); rw [← z_ _ (by omega)]; rfl)) ?_; (with_reducible refine (dec_Dec_Zero.calls kj48 t245 t246 t247 true _ A55.out).mono ?_); rintro e w62 ⟨rfl, hb⟩; refine ⟨_, rfl, ?_⟩; have n0_ := bb_ BK239 hb; have n1_ := bb_ BK248 hb; have n2_ := Aside0.mk (below_step (by repeat (first | (with_reducible first | exact HB.out | apply below_alloc | apply pw_below_drewN | apply below_drew1 | refine below_set ?_ GE239.out | refine below_set ?_ GE248.out) | exact HB.out)) hb); clear BK239; clear BK248; clear HB; have BK239 := n0_; have BK248 := n1_; have HB := n2_; clear n0_ n1_ n2_; (try clear hb); (try clear hb2); (try clear hk); (try clear hi)))
              go_ret
              exact ⟨by first | rfl | (simp [errW_none, errW_some] <;> rfl) | (simp [*, errW_none, errW_some] <;> first | rfl | exact given_isEmpty _ | exact (given_isEmpty _).symm), by repeat (first | (with_reducible first | exact HB.out | apply below_alloc | apply pw_below_drewN | apply below_drew1 | refine below_set ?_ GE239.out | refine below_set ?_ GE248.out) | exact HB.out)⟩
             ·replace c57 := Bool.eq_false_iff.mpr c57
              subst c57
              have H1 : (if t261 = 0 then ((dec_Dec_Plain.f kj48 t245 t246 t247).bind fun t264 => (if t264.toList = ([48] : List UInt8) then ((dec_Dec_String.f kj48 t245 t246 t247).bind fun t265 => (some (t265.toList == ([48] : List UInt8)))) else (some false))) else (some false)) = some r := by rw [if_neg (show ¬ (false = true) by decide)] at H; exact H
              clear H
              have H := H1
              clear H1
              by_cases c63 : t261 = 0
              ·rw [if_pos c63] at H
               have c63b0 : (t261 == 0) = true := beq_iff_eq.mpr c63
               have c63b1 : (t261 != 0) = false := bne_eq_false_iff_eq.mpr c63
               clear c63
               replace H := Option.bind_eq_some_iff.mp H
               obtain ⟨t264, A640, H⟩ := H
               replace H : (if t264.toList = ([48] : List UInt8) then ((dec_Dec_String.f kj48 t245 t246 t247).bind fun t265 => (some (t265.toList == ([48] : List UInt8)))) else (some false)) = some r := H
               have A64 := Aside0.mk A640
               clear A640
               by_cases c65 : t264.toList = ([48] : List UInt8)
               ·rw [if_pos c65] at H
                have c65b0 : (t264.toList == ([48] : List UInt8)) = true := beq_iff_eq.mpr c65
                have c65b1 : (t264.toList != ([48] : List UInt8)) = false := bne_eq_false_iff_eq.mpr c65
                clear c65
                replace H := Option.bind_eq_some_iff.mp H
                obtain ⟨t265, A660, H⟩ := H
                replace H : (some (t265.toList == ([48] : List UInt8))) = some r := H
                have A66 := Aside0.mk A660
                clear A660
                obtain rfl := Option.some.inj H
                have hnb67 := NB248_239.out
                have hnc67 := NB239_248.out
                have hcz68_0 : wc.cell? ⟨gb248, 0, none⟩ = some (.bool t245) := (blk_cell BK248.out 0).trans rfl
                have hcz68_1 : wc.cell? ⟨gb248, 1, none⟩ = some (.string t246) := (blk_cell BK248.out 1).trans rfl
                have hcz68_2 : wc.cell? ⟨gb248, 2, none⟩ = some (.int .i64 t247) := (blk_cell BK248.out 2).trans rfl
                have hfz68_0 := blk_frozen BK248.out 0
                have hfz68_1 := blk_frozen BK248.out 1
                have hfz68_2 := blk_frozen BK248.out 2
                go_wp2_with (first | ((with_reducible refine gate_callee (f := 23) rfl ?_); refine goesL_ (some 69) rfl rfl Tryd.func23 (by kernel_rfl) rfl #[.agg #[.bool t245, .string t246, .int .i64 t247]] rfl (by (try simp only [List.map_toArray, List.map_cons, List.map_nil]); first | done | rfl | (simp only [List.length_drop, List.length_take]; rfl) | (have z_ : ∀ s_ : ByteArray, s_.size ≤ 9223372036854775807 → -(s_.size : Int) = wrap64 (-(s_.size : Int)) := (fun s_ h_ => by unfold wrap64; omega); rw [← z_ _ (by omega)]; rfl)) ?_; (with_reducible refine (dec_Dec_Mag.calls kj48 t245 t246 t247 t261 false _ A54.out).mono ?_); rintro e w69 ⟨rfl, hb⟩; refine ⟨_, rfl, ?_⟩; have n0_ := bb_ BK239 hb; have n1_ := bb_ BK248 hb; have n2_ := Aside0.mk (below_step (by repeat (first | (with_reducible first | exact HB.out | apply below_alloc | apply pw_below_drewN | apply below_drew1 | refine below_set ?_ GE239.out | refine below_set ?_ GE248.out) | exact HB.out)) hb); clear BK239; clear BK248; clear HB; have BK239 := n0_; have BK248 := n1_; have HB := n2_; clear n0_ n1_ n2_; (try clear hb); (try clear hb2); (try clear hk); (try clear hi); have hcz70_0 : w69.cell? ⟨gb248, 0, none⟩ = some (.bool t245) := (blk_cell BK248.out 0).trans rfl; have hcz70_1 : w69.cell? ⟨gb248, 1, none⟩ = some (.string t246) := (blk_cell BK248.out 1).trans rfl; have hcz70_2 : w69.cell? ⟨gb248, 2, none⟩ = some (.int .i64 t247) := (blk_cell BK248.out 2).trans rfl; have hfz70_0 := blk_frozen BK248.out 0; have hfz70_1 := blk_frozen BK248.out 1; have hfz70_2 := blk_frozen BK248.out 2) | ((with_reducible refine gate_callee (f := 24) rfl ?_); refine goesL_ (some 73) rfl rfl Tryd.func24 (by kernel_rfl) rfl #[.agg #[.bool t245, .string t246, .int .i64 t247]] rfl (by (try simp only [List.map_toArray, List.map_cons, List.map_nil]); first | done | rfl | (simp only [List.length_drop, List.length_take]; rfl) | (have z_ : ∀ s_ : ByteArray, s_.size ≤ 9223372036854775807 → -(s_.size : Int) = wrap64 (-(s_.size : Int)) := (fun s_ h_ => by unfold wrap64; omega); rw [← z_ _ (by omega)]; rfl)) ?_; (with_reducible refine (dec_Dec_Zero.calls kj48 t245 t246 t247 true _ A55.out).mono ?_); rintro e w71 ⟨rfl, hb⟩; refine ⟨_, rfl, ?_⟩; have n0_ := bb_ BK239 hb; have n1_ := bb_ BK248 hb; have n2_ := Aside0.mk (below_step (by repeat (first | (with_reducible first | exact HB.out | apply below_alloc | apply pw_below_drewN | apply below_drew1 | refine below_set ?_ GE239.out | refine below_set ?_ GE248.out) | exact HB.out)) hb); clear BK239; clear BK248; clear HB; have BK239 := n0_; have BK248 := n1_; have HB := n2_; clear n0_ n1_ n2_; (try clear hb); (try clear hb2); (try clear hk); (try clear hi); have hcz72_0 : w71.cell? ⟨gb248, 0, none⟩ = some (.bool t245) := (blk_cell BK248.out 0).trans rfl; have hcz72_1 : w71.cell? ⟨gb248, 1, none⟩ = some (.string t246) := (blk_cell BK248.out 1).trans rfl; have hcz72_2 : w71.cell? ⟨gb248, 2, none⟩ = some (.int .i64 t247) := (blk_cell BK248.out 2).trans rfl; have hfz72_0 := blk_frozen BK248.out 0; have hfz72_1 := blk_frozen BK248.out 1; have hfz72_2 := blk_frozen BK248.out 2) | (go_at_call 16; (with_reducible refine (dec_Dec_Plain.calls kj48 t245 t246 t247 t264 _ A64.out).mono ?_); rintro e w73 ⟨rfl, hb⟩; have n0_ := bb_ BK239 hb; have n1_ := bb_ BK248 hb; have n2_ := Aside0.mk (below_step (by repeat (first | (with_reducible first | exact HB.out | apply below_alloc | apply pw_below_drewN | apply below_drew1 | refine below_set ?_ GE239.out | refine below_set ?_ GE248.out) | exact HB.out)) hb); clear BK239; clear BK248; clear HB; have BK239 := n0_; have BK248 := n1_; have HB := n2_; clear n0_ n1_ n2_; (try clear hb); (try clear hb2); (try clear hk); (try clear hi); have hcz74_0 : w73.cell? ⟨gb248, 0, none⟩ = some (.bool t245) := (blk_cell BK248.out 0).trans rfl; have hcz74_1 : w73.cell? ⟨gb248, 1, none⟩ = some (.string t246) := (blk_cell BK248.out 1).trans rfl; have hcz74_2 : w73.cell? ⟨gb248, 2, none⟩ = some (.int .i64 t247) := (blk_cell BK248.out 2).trans rfl; have hfz74_0 := blk_frozen BK248.out 0; have hfz74_1 := blk_frozen BK248.out 1; have hfz74_2 := blk_frozen BK248.out 2) | (go_at_call 15; (with_reducible refine (dec_Dec_String.calls kj48 t245 t246 t247 t265 _ A66.out).mono ?_); rintro e w75 ⟨rfl, hb⟩; have n0_ := bb_ BK239 hb; have n1_ := bb_ BK248 hb; have n2_ := Aside0.mk (below_step (by repeat (first | (with_reducible first | exact HB.out | apply below_alloc | apply pw_below_drewN | apply below_drew1 | refine below_set ?_ GE239.out | refine below_set ?_ GE248.out) | exact HB.out)) hb); clear BK239; clear BK248; clear HB; have BK239 := n0_; have BK248 := n1_; have HB := n2_; clear n0_ n1_ n2_; (try clear hb); (try clear hb2); (try clear hk); (try clear hi)))
                go_ret
                exact ⟨by first | rfl | (simp [errW_none, errW_some] <;> rfl) | (simp [*, errW_none, errW_some] <;> first | rfl | exact given_isEmpty _ | exact (given_isEmpty _).symm), by repeat (first | (with_reducible first | exact HB.out | apply below_alloc | apply pw_below_drewN | apply below_drew1 | refine below_set ?_ GE239.out | refine below_set ?_ GE248.out) | exact HB.out)⟩
               ·rw [if_neg c65] at H
                have c65b0 : (t264.toList == ([48] : List UInt8)) = false := beq_eq_false_iff_ne.mpr c65
                have c65b1 : (t264.toList != ([48] : List UInt8)) = true := bne_iff_ne.mpr c65
                obtain rfl := Option.some.inj H
                have hnb76 := NB248_239.out
                have hnc76 := NB239_248.out
                have hcz77_0 : wc.cell? ⟨gb248, 0, none⟩ = some (.bool t245) := (blk_cell BK248.out 0).trans rfl
                have hcz77_1 : wc.cell? ⟨gb248, 1, none⟩ = some (.string t246) := (blk_cell BK248.out 1).trans rfl
                have hcz77_2 : wc.cell? ⟨gb248, 2, none⟩ = some (.int .i64 t247) := (blk_cell BK248.out 2).trans rfl
                have hfz77_0 := blk_frozen BK248.out 0
                have hfz77_1 := blk_frozen BK248.out 1
                have hfz77_2 := blk_frozen BK248.out 2
                go_wp2_with (first | ((with_reducible refine gate_callee (f := 23) rfl ?_); refine goesL_ (some 69) rfl rfl Tryd.func23 (by kernel_rfl) rfl #[.agg #[.bool t245, .string t246, .int .i64 t247]] rfl (by (try simp only [List.map_toArray, List.map_cons, List.map_nil]); first | done | rfl | (simp only [List.length_drop, List.length_take]; rfl) | (have z_ : ∀ s_ : ByteArray, s_.size ≤ 9223372036854775807 → -(s_.size : Int) = wrap64 (-(s_.size : Int)) := (fun s_ h_ => by unfold wrap64; omega); rw [← z_ _ (by omega)]; rfl)) ?_; (with_reducible refine (dec_Dec_Mag.calls kj48 t245 t246 t247 t261 false _ A54.out).mono ?_); rintro e w78 ⟨rfl, hb⟩; refine ⟨_, rfl, ?_⟩; have n0_ := bb_ BK239 hb; have n1_ := bb_ BK248 hb; have n2_ := Aside0.mk (below_step (by repeat (first | (with_reducible first | exact HB.out | apply below_alloc | apply pw_below_drewN | apply below_drew1 | refine below_set ?_ GE239.out | refine below_set ?_ GE248.out) | exact HB.out)) hb); clear BK239; clear BK248; clear HB; have BK239 := n0_; have BK248 := n1_; have HB := n2_; clear n0_ n1_ n2_; (try clear hb); (try clear hb2); (try clear hk); (try clear hi); have hcz79_0 : w78.cell? ⟨gb248, 0, none⟩ = some (.bool t245) := (blk_cell BK248.out 0).trans rfl; have hcz79_1 : w78.cell? ⟨gb248, 1, none⟩ = some (.string t246) := (blk_cell BK248.out 1).trans rfl; have hcz79_2 : w78.cell? ⟨gb248, 2, none⟩ = some (.int .i64 t247) := (blk_cell BK248.out 2).trans rfl; have hfz79_0 := blk_frozen BK248.out 0; have hfz79_1 := blk_frozen BK248.out 1; have hfz79_2 := blk_frozen BK248.out 2) | ((with_reducible refine gate_callee (f := 24) rfl ?_); refine goesL_ (some 73) rfl rfl Tryd.func24 (by kernel_rfl) rfl #[.agg #[.bool t245, .string t246, .int .i64 t247]] rfl (by (try simp only [List.map_toArray, List.map_cons, List.map_nil]); first | done | rfl | (simp only [List.length_drop, List.length_take]; rfl) | (have z_ : ∀ s_ : ByteArray, s_.size ≤ 9223372036854775807 → -(s_.size : Int) = wrap64 (-(s_.size : Int)) := (fun s_ h_ => by unfold wrap64; omega); rw [← z_ _ (by omega)]; rfl)) ?_; (with_reducible refine (dec_Dec_Zero.calls kj48 t245 t246 t247 true _ A55.out).mono ?_); rintro e w80 ⟨rfl, hb⟩; refine ⟨_, rfl, ?_⟩; have n0_ := bb_ BK239 hb; have n1_ := bb_ BK248 hb; have n2_ := Aside0.mk (below_step (by repeat (first | (with_reducible first | exact HB.out | apply below_alloc | apply pw_below_drewN | apply below_drew1 | refine below_set ?_ GE239.out | refine below_set ?_ GE248.out) | exact HB.out)) hb); clear BK239; clear BK248; clear HB; have BK239 := n0_; have BK248 := n1_; have HB := n2_; clear n0_ n1_ n2_; (try clear hb); (try clear hb2); (try clear hk); (try clear hi); have hcz81_0 : w80.cell? ⟨gb248, 0, none⟩ = some (.bool t245) := (blk_cell BK248.out 0).trans rfl; have hcz81_1 : w80.cell? ⟨gb248, 1, none⟩ = some (.string t246) := (blk_cell BK248.out 1).trans rfl; have hcz81_2 : w80.cell? ⟨gb248, 2, none⟩ = some (.int .i64 t247) := (blk_cell BK248.out 2).trans rfl; have hfz81_0 := blk_frozen BK248.out 0; have hfz81_1 := blk_frozen BK248.out 1; have hfz81_2 := blk_frozen BK248.out 2) | (go_at_call 16; (with_reducible refine (dec_Dec_Plain.calls kj48 t245 t246 t247 t264 _ A64.out).mono ?_); rintro e w82 ⟨rfl, hb⟩; have n0_ := bb_ BK239 hb; have n1_ := bb_ BK248 hb; have n2_ := Aside0.mk (below_step (by repeat (first | (with_reducible first | exact HB.out | apply below_alloc | apply pw_below_drewN | apply below_drew1 | refine below_set ?_ GE239.out | refine below_set ?_ GE248.out) | exact HB.out)) hb); clear BK239; clear BK248; clear HB; have BK239 := n0_; have BK248 := n1_; have HB := n2_; clear n0_ n1_ n2_; (try clear hb); (try clear hb2); (try clear hk); (try clear hi)))
                go_ret
                exact ⟨by first | rfl | (simp [errW_none, errW_some] <;> rfl) | (simp [*, errW_none, errW_some] <;> first | rfl | exact given_isEmpty _ | exact (given_isEmpty _).symm), by repeat (first | (with_reducible first | exact HB.out | apply below_alloc | apply pw_below_drewN | apply below_drew1 | refine below_set ?_ GE239.out | refine below_set ?_ GE248.out) | exact HB.out)⟩
              ·rw [if_neg c63] at H
               have c63b0 : (t261 == 0) = false := beq_eq_false_iff_ne.mpr c63
               have c63b1 : (t261 != 0) = true := bne_iff_ne.mpr c63
               obtain rfl := Option.some.inj H
               have hnb83 := NB248_239.out
               have hnc83 := NB239_248.out
               have hcz84_0 : wc.cell? ⟨gb248, 0, none⟩ = some (.bool t245) := (blk_cell BK248.out 0).trans rfl
               have hcz84_1 : wc.cell? ⟨gb248, 1, none⟩ = some (.string t246) := (blk_cell BK248.out 1).trans rfl
               have hcz84_2 : wc.cell? ⟨gb248, 2, none⟩ = some (.int .i64 t247) := (blk_cell BK248.out 2).trans rfl
               have hfz84_0 := blk_frozen BK248.out 0
               have hfz84_1 := blk_frozen BK248.out 1
               have hfz84_2 := blk_frozen BK248.out 2
               go_wp2_with (first | ((with_reducible refine gate_callee (f := 23) rfl ?_); refine goesL_ (some 69) rfl rfl Tryd.func23 (by kernel_rfl) rfl #[.agg #[.bool t245, .string t246, .int .i64 t247]] rfl (by (try simp only [List.map_toArray, List.map_cons, List.map_nil]); first | done | rfl | (simp only [List.length_drop, List.length_take]; rfl) | (have z_ : ∀ s_ : ByteArray, s_.size ≤ 9223372036854775807 → -(s_.size : Int) = wrap64 (-(s_.size : Int)) := (fun s_ h_ => by unfold wrap64; omega); rw [← z_ _ (by omega)]; rfl)) ?_; (with_reducible refine (dec_Dec_Mag.calls kj48 t245 t246 t247 t261 false _ A54.out).mono ?_); rintro e w85 ⟨rfl, hb⟩; refine ⟨_, rfl, ?_⟩; have n0_ := bb_ BK239 hb; have n1_ := bb_ BK248 hb; have n2_ := Aside0.mk (below_step (by repeat (first | (with_reducible first | exact HB.out | apply below_alloc | apply pw_below_drewN | apply below_drew1 | refine below_set ?_ GE239.out | refine below_set ?_ GE248.out) | exact HB.out)) hb); clear BK239; clear BK248; clear HB; have BK239 := n0_; have BK248 := n1_; have HB := n2_; clear n0_ n1_ n2_; (try clear hb); (try clear hb2); (try clear hk); (try clear hi); have hcz86_0 : w85.cell? ⟨gb248, 0, none⟩ = some (.bool t245) := (blk_cell BK248.out 0).trans rfl; have hcz86_1 : w85.cell? ⟨gb248, 1, none⟩ = some (.string t246) := (blk_cell BK248.out 1).trans rfl; have hcz86_2 : w85.cell? ⟨gb248, 2, none⟩ = some (.int .i64 t247) := (blk_cell BK248.out 2).trans rfl; have hfz86_0 := blk_frozen BK248.out 0; have hfz86_1 := blk_frozen BK248.out 1; have hfz86_2 := blk_frozen BK248.out 2) | ((with_reducible refine gate_callee (f := 24) rfl ?_); refine goesL_ (some 73) rfl rfl Tryd.func24 (by kernel_rfl) rfl #[.agg #[.bool t245, .string t246, .int .i64 t247]] rfl (by (try simp only [List.map_toArray, List.map_cons, List.map_nil]); first | done | rfl | (simp only [List.length_drop, List.length_take]; rfl) | (have z_ : ∀ s_ : ByteArray, s_.size ≤ 9223372036854775807 → -(s_.size : Int) = wrap64 (-(s_.size : Int)) := (fun s_ h_ => by unfold wrap64; omega); rw [← z_ _ (by omega)]; rfl)) ?_; (with_reducible refine (dec_Dec_Zero.calls kj48 t245 t246 t247 true _ A55.out).mono ?_); rintro e w87 ⟨rfl, hb⟩; refine ⟨_, rfl, ?_⟩; have n0_ := bb_ BK239 hb; have n1_ := bb_ BK248 hb; have n2_ := Aside0.mk (below_step (by repeat (first | (with_reducible first | exact HB.out | apply below_alloc | apply pw_below_drewN | apply below_drew1 | refine below_set ?_ GE239.out | refine below_set ?_ GE248.out) | exact HB.out)) hb); clear BK239; clear BK248; clear HB; have BK239 := n0_; have BK248 := n1_; have HB := n2_; clear n0_ n1_ n2_; (try clear hb); (try clear hb2); (try clear hk); (try clear hi)))
               go_ret
               exact ⟨by first | rfl | (simp [errW_none, errW_some] <;> rfl) | (simp [*, errW_none, errW_some] <;> first | rfl | exact given_isEmpty _ | exact (given_isEmpty _).symm), by repeat (first | (with_reducible first | exact HB.out | apply below_alloc | apply pw_below_drewN | apply below_drew1 | refine below_set ?_ GE239.out | refine below_set ?_ GE248.out) | exact HB.out)⟩
            ·replace c56 := Bool.eq_false_iff.mpr c56
             subst c56
             have H1 : (if t252.toList = ([] : List UInt8) then (florinlaw02_DecPlaces.l0 kj48 t253 x6_48 t261 t262 0 t245 t246 t247) else ((dec_Dec_Plain.f kj48 t245 t246 t247).bind fun t268 => (if t268.toList = x6_48.toList then (if t262 = true then (some (t261 == (wrap64 ((t252.size : Int) - 1)))) else (some false)) else (some false)))) = some r := by rw [if_neg (show ¬ (false = true) by decide)] at H; exact H
             clear H
             have H := H1
             clear H1
             by_cases c88 : t252.toList = ([] : List UInt8)
             ·rw [if_pos c88] at H
              have c88b0 : (t252.toList == ([] : List UInt8)) = true := beq_iff_eq.mpr c88
              have c88b1 : (t252.toList != ([] : List UInt8)) = false := bne_eq_false_iff_eq.mpr c88
              have c88b2 : (t252.toList.isEmpty) = true := by rw [c88]; rfl
              clear c88
              have H' := Aside0.mk H
              clear H
              have hnb89 := NB248_239.out
              have hnc89 := NB239_248.out
              have hcz90_0 : wc.cell? ⟨gb248, 0, none⟩ = some (.bool t245) := (blk_cell BK248.out 0).trans rfl
              have hcz90_1 : wc.cell? ⟨gb248, 1, none⟩ = some (.string t246) := (blk_cell BK248.out 1).trans rfl
              have hcz90_2 : wc.cell? ⟨gb248, 2, none⟩ = some (.int .i64 t247) := (blk_cell BK248.out 2).trans rfl
              have hfz90_0 := blk_frozen BK248.out 0
              have hfz90_1 := blk_frozen BK248.out 1
              have hfz90_2 := blk_frozen BK248.out 2
              go_wp2_with (first | ((with_reducible refine gate_callee (f := 23) rfl ?_); refine goesL_ (some 69) rfl rfl Tryd.func23 (by kernel_rfl) rfl #[.agg #[.bool t245, .string t246, .int .i64 t247]] rfl (by (try simp only [List.map_toArray, List.map_cons, List.map_nil]); first | done | rfl | (simp only [List.length_drop, List.length_take]; rfl) | (have z_ : ∀ s_ : ByteArray, s_.size ≤ 9223372036854775807 → -(s_.size : Int) = wrap64 (-(s_.size : Int)) := (fun s_ h_ => by unfold wrap64; omega); rw [← z_ _ (by omega)]; rfl)) ?_; (with_reducible refine (dec_Dec_Mag.calls kj48 t245 t246 t247 t261 t262 _ A54.out).mono ?_); rintro e w91 ⟨rfl, hb⟩; refine ⟨_, rfl, ?_⟩; have n0_ := bb_ BK239 hb; have n1_ := bb_ BK248 hb; have n2_ := Aside0.mk (below_step (by repeat (first | (with_reducible first | exact HB.out | apply below_alloc | apply pw_below_drewN | apply below_drew1 | refine below_set ?_ GE239.out | refine below_set ?_ GE248.out) | exact HB.out)) hb); clear BK239; clear BK248; clear HB; have BK239 := n0_; have BK248 := n1_; have HB := n2_; clear n0_ n1_ n2_; (try clear hb); (try clear hb2); (try clear hk); (try clear hi); have hcz92_0 : w91.cell? ⟨gb248, 0, none⟩ = some (.bool t245) := (blk_cell BK248.out 0).trans rfl; have hcz92_1 : w91.cell? ⟨gb248, 1, none⟩ = some (.string t246) := (blk_cell BK248.out 1).trans rfl; have hcz92_2 : w91.cell? ⟨gb248, 2, none⟩ = some (.int .i64 t247) := (blk_cell BK248.out 2).trans rfl; have hfz92_0 := blk_frozen BK248.out 0; have hfz92_1 := blk_frozen BK248.out 1; have hfz92_2 := blk_frozen BK248.out 2) | ((with_reducible refine gate_callee (f := 24) rfl ?_); refine goesL_ (some 73) rfl rfl Tryd.func24 (by kernel_rfl) rfl #[.agg #[.bool t245, .string t246, .int .i64 t247]] rfl (by (try simp only [List.map_toArray, List.map_cons, List.map_nil]); first | done | rfl | (simp only [List.length_drop, List.length_take]; rfl) | (have z_ : ∀ s_ : ByteArray, s_.size ≤ 9223372036854775807 → -(s_.size : Int) = wrap64 (-(s_.size : Int)) := (fun s_ h_ => by unfold wrap64; omega); rw [← z_ _ (by omega)]; rfl)) ?_; (with_reducible refine (dec_Dec_Zero.calls kj48 t245 t246 t247 false _ A55.out).mono ?_); rintro e w93 ⟨rfl, hb⟩; refine ⟨_, rfl, ?_⟩; have n0_ := bb_ BK239 hb; have n1_ := bb_ BK248 hb; have n2_ := Aside0.mk (below_step (by repeat (first | (with_reducible first | exact HB.out | apply below_alloc | apply pw_below_drewN | apply below_drew1 | refine below_set ?_ GE239.out | refine below_set ?_ GE248.out) | exact HB.out)) hb); clear BK239; clear BK248; clear HB; have BK239 := n0_; have BK248 := n1_; have HB := n2_; clear n0_ n1_ n2_; (try clear hb); (try clear hb2); (try clear hk); (try clear hi)))
              go_loopg [9] kj48 (fun kq v9 w' => ∃ (x9_5 : Int), v9 = .int .i64 x9_5 ∧ Aside0 (florinlaw02_DecPlaces.l0 kq t253 x6_48 t261 t262 x9_5 t245 t246 t247 = some r) ∧ Aside0 (kq ≤ kj48) ∧ Aside0 (w'.heap[gb239]? = some (.cells #[.bool a0_0, (.slice A0_1 l0_1.length c0_1), .int .i64 a0_2] 33 (0, 0))) ∧ Aside0 (w'.heap[gb248]? = some (.cells #[.bool t245, .string t246, .int .i64 t247] 24 (0, 0))) ∧ Aside0 (Below w.heap.size w w'))
              case atStart => exact ⟨(0), (by first | rfl | (simp; done) | (simp [*]; done) | (simp; first | exact given_isEmpty _ | exact (given_isEmpty _).symm) | (unfold wrap64; omega) | (congr 1; unfold wrap64; omega)), H', ⟨Nat.le_refl _⟩, ⟨by (with_reducible repeat (first | refine blk_drewN ?_ _ | refine blk_drew ?_ | refine blk_alloc ?_ _)); exact BK239.out⟩, ⟨by (with_reducible repeat (first | refine blk_drewN ?_ _ | refine blk_drew ?_ | refine blk_alloc ?_ _)); exact BK248.out⟩, ⟨by repeat (first | (with_reducible first | exact HB.out | apply below_alloc | apply pw_below_drewN | apply below_drew1 | refine below_set ?_ GE239.out | refine below_set ?_ GE248.out) | exact HB.out)⟩⟩
              case round =>
               clear H'
               try clear c2
               try clear p2
               try clear c3
               try clear c4
               try clear c5
               try clear c6
               try clear p6
               try clear c7
               try clear c8
               try clear c21
               try clear c22
               try clear c23
               try clear c24
               try clear c25
               try clear c25b0
               try clear c25b1
               try clear c26
               try clear c26b0
               try clear c26b1
               try clear c28
               try clear c29
               try clear c33
               try clear c37
               try clear c37b0
               try clear c37b1
               try clear c37b2
               try clear c42
               try clear c44
               try clear c44b0
               try clear c44b1
               try clear c44b2
               try clear c46
               try clear c46b0
               try clear c46b1
               try clear c46b2
               try clear c47
               try clear c47b0
               try clear c47b1
               try clear c47b2
               try clear c48
               try clear c48b0
               try clear c48b1
               try clear c48b2
               try clear c50
               try clear c52
               try clear c53
               try clear c53b0
               try clear c53b1
               try clear c53b2
               try clear c56
               try clear c57
               try clear c58
               try clear c63
               try clear c63b0
               try clear c63b1
               try clear p64
               try clear c65
               try clear c65b0
               try clear c65b1
               try clear c67
               try clear c76
               try clear c83
               try clear c88
               try clear c88b0
               try clear c88b1
               try clear c88b2
               try clear c89
               try clear hcz51_0
               try clear hcz51_1
               try clear hcz51_2
               try clear hcz59_0
               try clear hcz59_1
               try clear hcz59_2
               try clear hcz61_0
               try clear hcz61_1
               try clear hcz61_2
               try clear hcz68_0
               try clear hcz68_1
               try clear hcz68_2
               try clear hcz70_0
               try clear hcz70_1
               try clear hcz70_2
               try clear hcz72_0
               try clear hcz72_1
               try clear hcz72_2
               try clear hcz74_0
               try clear hcz74_1
               try clear hcz74_2
               try clear hcz77_0
               try clear hcz77_1
               try clear hcz77_2
               try clear hcz79_0
               try clear hcz79_1
               try clear hcz79_2
               try clear hcz81_0
               try clear hcz81_1
               try clear hcz81_2
               try clear hcz84_0
               try clear hcz84_1
               try clear hcz84_2
               try clear hcz86_0
               try clear hcz86_1
               try clear hcz86_2
               try clear hcz90_0
               try clear hcz90_1
               try clear hcz90_2
               try clear hcz92_0
               try clear hcz92_1
               try clear hcz92_2
               try clear hfz51_0
               try clear hfz51_1
               try clear hfz51_2
               try clear hfz59_0
               try clear hfz59_1
               try clear hfz59_2
               try clear hfz61_0
               try clear hfz61_1
               try clear hfz61_2
               try clear hfz68_0
               try clear hfz68_1
               try clear hfz68_2
               try clear hfz70_0
               try clear hfz70_1
               try clear hfz70_2
               try clear hfz72_0
               try clear hfz72_1
               try clear hfz72_2
               try clear hfz74_0
               try clear hfz74_1
               try clear hfz74_2
               try clear hfz77_0
               try clear hfz77_1
               try clear hfz77_2
               try clear hfz79_0
               try clear hfz79_1
               try clear hfz79_2
               try clear hfz81_0
               try clear hfz81_1
               try clear hfz81_2
               try clear hfz84_0
               try clear hfz84_1
               try clear hfz84_2
               try clear hfz86_0
               try clear hfz86_1
               try clear hfz86_2
               try clear hfz90_0
               try clear hfz90_1
               try clear hfz90_2
               try clear hfz92_0
               try clear hfz92_1
               try clear hfz92_2
               try clear p2
               try clear p6
               obtain ⟨x9_5, rfl, HA, HK5, BK239, BK248, HB⟩ := hrel
               cases gk with
               | zero => exact absurd HA.out (by simp [florinlaw02_DecPlaces.l0])
               | succ k5 =>
                have H := HA.out
                clear HA
                simp only [florinlaw02_DecPlaces.l0] at H
                by_cases c94 : (wrap64 (-x9_5)) < (t253.size : Int)
                ·rw [if_pos c94] at H
                 have c94b0 : decide ((wrap64 (-x9_5)) < (t253.size : Int)) = true := decide_eq_true c94
                 clear c94
                 obtain ⟨ji95, hji95⟩ : ∃ j_ : Int, (wrap64 (-x9_5)) = j_ := ⟨_, rfl⟩
                 replace H : (if 0 ≤ (ji95) then (if (bt t253 (ji95)) = 48 then (florinlaw02_DecPlaces.l0 k5 t253 x6_48 t261 t262 (wrap64 (x9_5 - 1)) t245 t246 t247) else ((dec_Dec_Plain.f k5 t245 t246 t247).bind fun t266 => (if t266.toList = x6_48.toList then (if t262 = true then (some (t261 == (wrap64 (x9_5 - 1)))) else (some false)) else (some false)))) else (none)) = some r := by first | (rw [hji95] at H; exact H) | (simp only [hji95] at H ⊢; exact H)
                 (try rw [hji95] at c94b0)
                 have hji95w : (IntKind.i64.wrap (-x9_5)) = ji95 := (i64_w _).trans hji95
                 by_cases c96 : 0 ≤ (ji95)
                 ·rw [if_pos c96] at H
                  have c96b0 : decide (0 ≤ (ji95)) = true := decide_eq_true c96
                  clear c96
                  by_cases c98 : (bt t253 (ji95)) = 48
                  ·rw [if_pos c98] at H
                   have c98b0 : ((bt t253 (ji95)) == 48) = true := beq_iff_eq.mpr c98
                   have c98b1 : ((bt t253 (ji95)) != 48) = false := bne_eq_false_iff_eq.mpr c98
                   clear c98
                   have H' := Aside0.mk H
                   clear H
                   have p97 : 0 ≤ ((ji95) : Int) := of_decide_eq_true (by first | (with_reducible assumption) | assumption)
                   have q97 : (ji95) < (t253.size : Int) := of_decide_eq_true (by first | (with_reducible assumption) | assumption)
                   have hx97 := bt_at t253 (ji95)
                   replace p97 := eq_true p97
                   replace q97 := eq_true q97
                   go_wp2
                   go_roundg k5
                   case measure => have := HJ9.out; have := HJ42.out; have := HJ44.out; have := HJ48.out; have := HK5.out; omega
                   case rel => exact ⟨(wrap64 (x9_5 - 1)), (by first | rfl | (simp; done) | (simp [*]; done) | (simp; first | exact given_isEmpty _ | exact (given_isEmpty _).symm) | (unfold wrap64; omega) | (congr 1; unfold wrap64; omega)), H', ⟨by have := HJ9.out; have := HJ42.out; have := HJ44.out; have := HJ48.out; have := HK5.out; omega⟩, ⟨by (with_reducible repeat (first | refine blk_drewN ?_ _ | refine blk_drew ?_ | refine blk_alloc ?_ _)); exact BK239.out⟩, ⟨by (with_reducible repeat (first | refine blk_drewN ?_ _ | refine blk_drew ?_ | refine blk_alloc ?_ _)); exact BK248.out⟩, ⟨by repeat (first | (with_reducible first | exact HB.out | apply below_alloc | apply pw_below_drewN | apply below_drew1 | refine below_set ?_ GE239.out | refine below_set ?_ GE248.out) | exact HB.out)⟩⟩
                  ·rw [if_neg c98] at H
                   have c98b0 : ((bt t253 (ji95)) == 48) = false := beq_eq_false_iff_ne.mpr c98
                   have c98b1 : ((bt t253 (ji95)) != 48) = true := bne_iff_ne.mpr c98
                   replace H := Option.bind_eq_some_iff.mp H
                   obtain ⟨t266, A990, H⟩ := H
                   replace H : (if t266.toList = x6_48.toList then (if t262 = true then (some (t261 == (wrap64 (x9_5 - 1)))) else (some false)) else (some false)) = some r := H
                   have A99 := Aside0.mk A990
                   clear A990
                   by_cases c100 : t266.toList = x6_48.toList
                   ·rw [if_pos c100] at H
                    have c100b0 : (t266.toList == x6_48.toList) = true := beq_iff_eq.mpr c100
                    have c100b1 : (t266.toList != x6_48.toList) = false := bne_eq_false_iff_eq.mpr c100
                    clear c100
                    by_cases c101 : t262 = true
                    ·subst c101
                     have H1 : (some (t261 == (wrap64 (x9_5 - 1)))) = some r := by rw [if_pos rfl] at H; exact H
                     clear H
                     have H := H1
                     clear H1
                     obtain rfl := Option.some.inj H
                     have p97 : 0 ≤ ((ji95) : Int) := of_decide_eq_true (by first | (with_reducible assumption) | assumption)
                     have q97 : (ji95) < (t253.size : Int) := of_decide_eq_true (by first | (with_reducible assumption) | assumption)
                     have hx97 := bt_at t253 (ji95)
                     replace p97 := eq_true p97
                     replace q97 := eq_true q97
                     have hnb102 := NB248_239.out
                     have hnc102 := NB239_248.out
                     have hcz103_0 : wr.cell? ⟨gb248, 0, none⟩ = some (.bool t245) := (blk_cell BK248.out 0).trans rfl
                     have hcz103_1 : wr.cell? ⟨gb248, 1, none⟩ = some (.string t246) := (blk_cell BK248.out 1).trans rfl
                     have hcz103_2 : wr.cell? ⟨gb248, 2, none⟩ = some (.int .i64 t247) := (blk_cell BK248.out 2).trans rfl
                     have hfz103_0 := blk_frozen BK248.out 0
                     have hfz103_1 := blk_frozen BK248.out 1
                     have hfz103_2 := blk_frozen BK248.out 2
                     go_wp2_with (first | ((with_reducible refine gate_callee (f := 16) rfl ?_); refine goesL_ (some 112) rfl rfl Tryd.func16 (by kernel_rfl) rfl #[.agg #[.bool t245, .string t246, .int .i64 t247]] rfl (by (try simp only [List.map_toArray, List.map_cons, List.map_nil]); first | done | rfl | (simp only [List.length_drop, List.length_take]; rfl) | (have z_ : ∀ s_ : ByteArray, s_.size ≤ 9223372036854775807 → -(s_.size : Int) = wrap64 (-(s_.size : Int)) := (fun s_ h_ => by unfold wrap64; omega); rw [← z_ _ (by omega)]; rfl)) ?_; (with_reducible refine (dec_Dec_Plain.calls k5 t245 t246 t247 t266 _ A99.out).mono ?_); rintro e w104 ⟨rfl, hb⟩; refine ⟨_, rfl, ?_⟩; have n0_ := bb_ BK239 hb; have n1_ := bb_ BK248 hb; have n2_ := Aside0.mk (below_step (by repeat (first | (with_reducible first | exact HB.out | apply below_alloc | apply pw_below_drewN | apply below_drew1 | refine below_set ?_ GE239.out | refine below_set ?_ GE248.out) | exact HB.out)) hb); clear BK239; clear BK248; clear HB; have BK239 := n0_; have BK248 := n1_; have HB := n2_; clear n0_ n1_ n2_; (try clear hb); (try clear hb2); (try clear hk); (try clear hi)))
                     go_ret
                     exact ⟨by first | rfl | (simp [errW_none, errW_some] <;> rfl) | (simp only [← hji95]; first | rfl | (simp [errW_none, errW_some] <;> rfl)) | (simp [*, errW_none, errW_some] <;> first | rfl | exact given_isEmpty _ | exact (given_isEmpty _).symm), by repeat (first | (with_reducible first | exact HB.out | apply below_alloc | apply pw_below_drewN | apply below_drew1 | refine below_set ?_ GE239.out | refine below_set ?_ GE248.out) | exact HB.out)⟩
                    ·replace c101 := Bool.eq_false_iff.mpr c101
                     subst c101
                     have H1 : (some false) = some r := by rw [if_neg (show ¬ (false = true) by decide)] at H; exact H
                     clear H
                     have H := H1
                     clear H1
                     obtain rfl := Option.some.inj H
                     have p97 : 0 ≤ ((ji95) : Int) := of_decide_eq_true (by first | (with_reducible assumption) | assumption)
                     have q97 : (ji95) < (t253.size : Int) := of_decide_eq_true (by first | (with_reducible assumption) | assumption)
                     have hx97 := bt_at t253 (ji95)
                     replace p97 := eq_true p97
                     replace q97 := eq_true q97
                     have hnb105 := NB248_239.out
                     have hnc105 := NB239_248.out
                     have hcz106_0 : wr.cell? ⟨gb248, 0, none⟩ = some (.bool t245) := (blk_cell BK248.out 0).trans rfl
                     have hcz106_1 : wr.cell? ⟨gb248, 1, none⟩ = some (.string t246) := (blk_cell BK248.out 1).trans rfl
                     have hcz106_2 : wr.cell? ⟨gb248, 2, none⟩ = some (.int .i64 t247) := (blk_cell BK248.out 2).trans rfl
                     have hfz106_0 := blk_frozen BK248.out 0
                     have hfz106_1 := blk_frozen BK248.out 1
                     have hfz106_2 := blk_frozen BK248.out 2
                     go_wp2_with (first | ((with_reducible refine gate_callee (f := 16) rfl ?_); refine goesL_ (some 112) rfl rfl Tryd.func16 (by kernel_rfl) rfl #[.agg #[.bool t245, .string t246, .int .i64 t247]] rfl (by (try simp only [List.map_toArray, List.map_cons, List.map_nil]); first | done | rfl | (simp only [List.length_drop, List.length_take]; rfl) | (have z_ : ∀ s_ : ByteArray, s_.size ≤ 9223372036854775807 → -(s_.size : Int) = wrap64 (-(s_.size : Int)) := (fun s_ h_ => by unfold wrap64; omega); rw [← z_ _ (by omega)]; rfl)) ?_; (with_reducible refine (dec_Dec_Plain.calls k5 t245 t246 t247 t266 _ A99.out).mono ?_); rintro e w107 ⟨rfl, hb⟩; refine ⟨_, rfl, ?_⟩; have n0_ := bb_ BK239 hb; have n1_ := bb_ BK248 hb; have n2_ := Aside0.mk (below_step (by repeat (first | (with_reducible first | exact HB.out | apply below_alloc | apply pw_below_drewN | apply below_drew1 | refine below_set ?_ GE239.out | refine below_set ?_ GE248.out) | exact HB.out)) hb); clear BK239; clear BK248; clear HB; have BK239 := n0_; have BK248 := n1_; have HB := n2_; clear n0_ n1_ n2_; (try clear hb); (try clear hb2); (try clear hk); (try clear hi)))
                     go_ret
                     exact ⟨by first | rfl | (simp [errW_none, errW_some] <;> rfl) | (simp only [← hji95]; first | rfl | (simp [errW_none, errW_some] <;> rfl)) | (simp [*, errW_none, errW_some] <;> first | rfl | exact given_isEmpty _ | exact (given_isEmpty _).symm), by repeat (first | (with_reducible first | exact HB.out | apply below_alloc | apply pw_below_drewN | apply below_drew1 | refine below_set ?_ GE239.out | refine below_set ?_ GE248.out) | exact HB.out)⟩
                   ·rw [if_neg c100] at H
                    have c100b0 : (t266.toList == x6_48.toList) = false := beq_eq_false_iff_ne.mpr c100
                    have c100b1 : (t266.toList != x6_48.toList) = true := bne_iff_ne.mpr c100
                    obtain rfl := Option.some.inj H
                    have p97 : 0 ≤ ((ji95) : Int) := of_decide_eq_true (by first | (with_reducible assumption) | assumption)
                    have q97 : (ji95) < (t253.size : Int) := of_decide_eq_true (by first | (with_reducible assumption) | assumption)
                    have hx97 := bt_at t253 (ji95)
                    replace p97 := eq_true p97
                    replace q97 := eq_true q97
                    have hnb108 := NB248_239.out
                    have hnc108 := NB239_248.out
                    have hcz109_0 : wr.cell? ⟨gb248, 0, none⟩ = some (.bool t245) := (blk_cell BK248.out 0).trans rfl
                    have hcz109_1 : wr.cell? ⟨gb248, 1, none⟩ = some (.string t246) := (blk_cell BK248.out 1).trans rfl
                    have hcz109_2 : wr.cell? ⟨gb248, 2, none⟩ = some (.int .i64 t247) := (blk_cell BK248.out 2).trans rfl
                    have hfz109_0 := blk_frozen BK248.out 0
                    have hfz109_1 := blk_frozen BK248.out 1
                    have hfz109_2 := blk_frozen BK248.out 2
                    go_wp2_with (first | ((with_reducible refine gate_callee (f := 16) rfl ?_); refine goesL_ (some 112) rfl rfl Tryd.func16 (by kernel_rfl) rfl #[.agg #[.bool t245, .string t246, .int .i64 t247]] rfl (by (try simp only [List.map_toArray, List.map_cons, List.map_nil]); first | done | rfl | (simp only [List.length_drop, List.length_take]; rfl) | (have z_ : ∀ s_ : ByteArray, s_.size ≤ 9223372036854775807 → -(s_.size : Int) = wrap64 (-(s_.size : Int)) := (fun s_ h_ => by unfold wrap64; omega); rw [← z_ _ (by omega)]; rfl)) ?_; (with_reducible refine (dec_Dec_Plain.calls k5 t245 t246 t247 t266 _ A99.out).mono ?_); rintro e w110 ⟨rfl, hb⟩; refine ⟨_, rfl, ?_⟩; have n0_ := bb_ BK239 hb; have n1_ := bb_ BK248 hb; have n2_ := Aside0.mk (below_step (by repeat (first | (with_reducible first | exact HB.out | apply below_alloc | apply pw_below_drewN | apply below_drew1 | refine below_set ?_ GE239.out | refine below_set ?_ GE248.out) | exact HB.out)) hb); clear BK239; clear BK248; clear HB; have BK239 := n0_; have BK248 := n1_; have HB := n2_; clear n0_ n1_ n2_; (try clear hb); (try clear hb2); (try clear hk); (try clear hi)))
                    go_ret
                    exact ⟨by first | rfl | (simp [errW_none, errW_some] <;> rfl) | (simp only [← hji95]; first | rfl | (simp [errW_none, errW_some] <;> rfl)) | (simp [*, errW_none, errW_some] <;> first | rfl | exact given_isEmpty _ | exact (given_isEmpty _).symm), by repeat (first | (with_reducible first | exact HB.out | apply below_alloc | apply pw_below_drewN | apply below_drew1 | refine below_set ?_ GE239.out | refine below_set ?_ GE248.out) | exact HB.out)⟩
                 ·rw [if_neg c96] at H
                  exact absurd H (by simp)
                ·rw [if_neg c94] at H
                 have c94b0 : decide ((wrap64 (-x9_5)) < (t253.size : Int)) = false := decide_eq_false c94
                 clear c94
                 replace H := Option.bind_eq_some_iff.mp H
                 obtain ⟨t267, A1110, H⟩ := H
                 replace H : (if t267.toList = x6_48.toList then (if t262 = true then (some (t261 == (wrap64 (x9_5 - 1)))) else (some false)) else (some false)) = some r := H
                 have A111 := Aside0.mk A1110
                 clear A1110
                 by_cases c112 : t267.toList = x6_48.toList
                 ·rw [if_pos c112] at H
                  have c112b0 : (t267.toList == x6_48.toList) = true := beq_iff_eq.mpr c112
                  have c112b1 : (t267.toList != x6_48.toList) = false := bne_eq_false_iff_eq.mpr c112
                  clear c112
                  by_cases c113 : t262 = true
                  ·subst c113
                   have H1 : (some (t261 == (wrap64 (x9_5 - 1)))) = some r := by rw [if_pos rfl] at H; exact H
                   clear H
                   have H := H1
                   clear H1
                   obtain rfl := Option.some.inj H
                   have hnb114 := NB248_239.out
                   have hnc114 := NB239_248.out
                   have hcz115_0 : wr.cell? ⟨gb248, 0, none⟩ = some (.bool t245) := (blk_cell BK248.out 0).trans rfl
                   have hcz115_1 : wr.cell? ⟨gb248, 1, none⟩ = some (.string t246) := (blk_cell BK248.out 1).trans rfl
                   have hcz115_2 : wr.cell? ⟨gb248, 2, none⟩ = some (.int .i64 t247) := (blk_cell BK248.out 2).trans rfl
                   have hfz115_0 := blk_frozen BK248.out 0
                   have hfz115_1 := blk_frozen BK248.out 1
                   have hfz115_2 := blk_frozen BK248.out 2
                   go_wp2_with (first | ((with_reducible refine gate_callee (f := 16) rfl ?_); refine goesL_ (some 112) rfl rfl Tryd.func16 (by kernel_rfl) rfl #[.agg #[.bool t245, .string t246, .int .i64 t247]] rfl (by (try simp only [List.map_toArray, List.map_cons, List.map_nil]); first | done | rfl | (simp only [List.length_drop, List.length_take]; rfl) | (have z_ : ∀ s_ : ByteArray, s_.size ≤ 9223372036854775807 → -(s_.size : Int) = wrap64 (-(s_.size : Int)) := (fun s_ h_ => by unfold wrap64; omega); rw [← z_ _ (by omega)]; rfl)) ?_; (with_reducible refine (dec_Dec_Plain.calls k5 t245 t246 t247 t267 _ A111.out).mono ?_); rintro e w116 ⟨rfl, hb⟩; refine ⟨_, rfl, ?_⟩; have n0_ := bb_ BK239 hb; have n1_ := bb_ BK248 hb; have n2_ := Aside0.mk (below_step (by repeat (first | (with_reducible first | exact HB.out | apply below_alloc | apply pw_below_drewN | apply below_drew1 | refine below_set ?_ GE239.out | refine below_set ?_ GE248.out) | exact HB.out)) hb); clear BK239; clear BK248; clear HB; have BK239 := n0_; have BK248 := n1_; have HB := n2_; clear n0_ n1_ n2_; (try clear hb); (try clear hb2); (try clear hk); (try clear hi)))
                   go_ret
                   exact ⟨by first | rfl | (simp [errW_none, errW_some] <;> rfl) | (simp [*, errW_none, errW_some] <;> first | rfl | exact given_isEmpty _ | exact (given_isEmpty _).symm), by repeat (first | (with_reducible first | exact HB.out | apply below_alloc | apply pw_below_drewN | apply below_drew1 | refine below_set ?_ GE239.out | refine below_set ?_ GE248.out) | exact HB.out)⟩
                  ·replace c113 := Bool.eq_false_iff.mpr c113
                   subst c113
                   have H1 : (some false) = some r := by rw [if_neg (show ¬ (false = true) by decide)] at H; exact H
                   clear H
                   have H := H1
                   clear H1
                   obtain rfl := Option.some.inj H
                   have hnb117 := NB248_239.out
                   have hnc117 := NB239_248.out
                   have hcz118_0 : wr.cell? ⟨gb248, 0, none⟩ = some (.bool t245) := (blk_cell BK248.out 0).trans rfl
                   have hcz118_1 : wr.cell? ⟨gb248, 1, none⟩ = some (.string t246) := (blk_cell BK248.out 1).trans rfl
                   have hcz118_2 : wr.cell? ⟨gb248, 2, none⟩ = some (.int .i64 t247) := (blk_cell BK248.out 2).trans rfl
                   have hfz118_0 := blk_frozen BK248.out 0
                   have hfz118_1 := blk_frozen BK248.out 1
                   have hfz118_2 := blk_frozen BK248.out 2
                   go_wp2_with (first | ((with_reducible refine gate_callee (f := 16) rfl ?_); refine goesL_ (some 112) rfl rfl Tryd.func16 (by kernel_rfl) rfl #[.agg #[.bool t245, .string t246, .int .i64 t247]] rfl (by (try simp only [List.map_toArray, List.map_cons, List.map_nil]); first | done | rfl | (simp only [List.length_drop, List.length_take]; rfl) | (have z_ : ∀ s_ : ByteArray, s_.size ≤ 9223372036854775807 → -(s_.size : Int) = wrap64 (-(s_.size : Int)) := (fun s_ h_ => by unfold wrap64; omega); rw [← z_ _ (by omega)]; rfl)) ?_; (with_reducible refine (dec_Dec_Plain.calls k5 t245 t246 t247 t267 _ A111.out).mono ?_); rintro e w119 ⟨rfl, hb⟩; refine ⟨_, rfl, ?_⟩; have n0_ := bb_ BK239 hb; have n1_ := bb_ BK248 hb; have n2_ := Aside0.mk (below_step (by repeat (first | (with_reducible first | exact HB.out | apply below_alloc | apply pw_below_drewN | apply below_drew1 | refine below_set ?_ GE239.out | refine below_set ?_ GE248.out) | exact HB.out)) hb); clear BK239; clear BK248; clear HB; have BK239 := n0_; have BK248 := n1_; have HB := n2_; clear n0_ n1_ n2_; (try clear hb); (try clear hb2); (try clear hk); (try clear hi)))
                   go_ret
                   exact ⟨by first | rfl | (simp [errW_none, errW_some] <;> rfl) | (simp [*, errW_none, errW_some] <;> first | rfl | exact given_isEmpty _ | exact (given_isEmpty _).symm), by repeat (first | (with_reducible first | exact HB.out | apply below_alloc | apply pw_below_drewN | apply below_drew1 | refine below_set ?_ GE239.out | refine below_set ?_ GE248.out) | exact HB.out)⟩
                 ·rw [if_neg c112] at H
                  have c112b0 : (t267.toList == x6_48.toList) = false := beq_eq_false_iff_ne.mpr c112
                  have c112b1 : (t267.toList != x6_48.toList) = true := bne_iff_ne.mpr c112
                  obtain rfl := Option.some.inj H
                  have hnb120 := NB248_239.out
                  have hnc120 := NB239_248.out
                  have hcz121_0 : wr.cell? ⟨gb248, 0, none⟩ = some (.bool t245) := (blk_cell BK248.out 0).trans rfl
                  have hcz121_1 : wr.cell? ⟨gb248, 1, none⟩ = some (.string t246) := (blk_cell BK248.out 1).trans rfl
                  have hcz121_2 : wr.cell? ⟨gb248, 2, none⟩ = some (.int .i64 t247) := (blk_cell BK248.out 2).trans rfl
                  have hfz121_0 := blk_frozen BK248.out 0
                  have hfz121_1 := blk_frozen BK248.out 1
                  have hfz121_2 := blk_frozen BK248.out 2
                  go_wp2_with (first | ((with_reducible refine gate_callee (f := 16) rfl ?_); refine goesL_ (some 112) rfl rfl Tryd.func16 (by kernel_rfl) rfl #[.agg #[.bool t245, .string t246, .int .i64 t247]] rfl (by (try simp only [List.map_toArray, List.map_cons, List.map_nil]); first | done | rfl | (simp only [List.length_drop, List.length_take]; rfl) | (have z_ : ∀ s_ : ByteArray, s_.size ≤ 9223372036854775807 → -(s_.size : Int) = wrap64 (-(s_.size : Int)) := (fun s_ h_ => by unfold wrap64; omega); rw [← z_ _ (by omega)]; rfl)) ?_; (with_reducible refine (dec_Dec_Plain.calls k5 t245 t246 t247 t267 _ A111.out).mono ?_); rintro e w122 ⟨rfl, hb⟩; refine ⟨_, rfl, ?_⟩; have n0_ := bb_ BK239 hb; have n1_ := bb_ BK248 hb; have n2_ := Aside0.mk (below_step (by repeat (first | (with_reducible first | exact HB.out | apply below_alloc | apply pw_below_drewN | apply below_drew1 | refine below_set ?_ GE239.out | refine below_set ?_ GE248.out) | exact HB.out)) hb); clear BK239; clear BK248; clear HB; have BK239 := n0_; have BK248 := n1_; have HB := n2_; clear n0_ n1_ n2_; (try clear hb); (try clear hb2); (try clear hk); (try clear hi)))
                  go_ret
                  exact ⟨by first | rfl | (simp [errW_none, errW_some] <;> rfl) | (simp [*, errW_none, errW_some] <;> first | rfl | exact given_isEmpty _ | exact (given_isEmpty _).symm), by repeat (first | (with_reducible first | exact HB.out | apply below_alloc | apply pw_below_drewN | apply below_drew1 | refine below_set ?_ GE239.out | refine below_set ?_ GE248.out) | exact HB.out)⟩
             ·rw [if_neg c88] at H
              have c88b0 : (t252.toList == ([] : List UInt8)) = false := beq_eq_false_iff_ne.mpr c88
              have c88b1 : (t252.toList != ([] : List UInt8)) = true := bne_iff_ne.mpr c88
              have c88b2 : (t252.toList.isEmpty) = false := by rw [given_isEmpty, bne_iff_ne.mpr c88]; rfl
              replace H := Option.bind_eq_some_iff.mp H
              obtain ⟨t268, A1230, H⟩ := H
              replace H : (if t268.toList = x6_48.toList then (if t262 = true then (some (t261 == (wrap64 ((t252.size : Int) - 1)))) else (some false)) else (some false)) = some r := H
              have A123 := Aside0.mk A1230
              clear A1230
              by_cases c124 : t268.toList = x6_48.toList
              ·rw [if_pos c124] at H
               have c124b0 : (t268.toList == x6_48.toList) = true := beq_iff_eq.mpr c124
               have c124b1 : (t268.toList != x6_48.toList) = false := bne_eq_false_iff_eq.mpr c124
               clear c124
               by_cases c125 : t262 = true
               ·subst c125
                have H1 : (some (t261 == (wrap64 ((t252.size : Int) - 1)))) = some r := by rw [if_pos rfl] at H; exact H
                clear H
                have H := H1
                clear H1
                obtain rfl := Option.some.inj H
                have hnb126 := NB248_239.out
                have hnc126 := NB239_248.out
                have hcz127_0 : wc.cell? ⟨gb248, 0, none⟩ = some (.bool t245) := (blk_cell BK248.out 0).trans rfl
                have hcz127_1 : wc.cell? ⟨gb248, 1, none⟩ = some (.string t246) := (blk_cell BK248.out 1).trans rfl
                have hcz127_2 : wc.cell? ⟨gb248, 2, none⟩ = some (.int .i64 t247) := (blk_cell BK248.out 2).trans rfl
                have hfz127_0 := blk_frozen BK248.out 0
                have hfz127_1 := blk_frozen BK248.out 1
                have hfz127_2 := blk_frozen BK248.out 2
                go_wp2_with (first | ((with_reducible refine gate_callee (f := 23) rfl ?_); refine goesL_ (some 69) rfl rfl Tryd.func23 (by kernel_rfl) rfl #[.agg #[.bool t245, .string t246, .int .i64 t247]] rfl (by (try simp only [List.map_toArray, List.map_cons, List.map_nil]); first | done | rfl | (simp only [List.length_drop, List.length_take]; rfl) | (have z_ : ∀ s_ : ByteArray, s_.size ≤ 9223372036854775807 → -(s_.size : Int) = wrap64 (-(s_.size : Int)) := (fun s_ h_ => by unfold wrap64; omega); rw [← z_ _ (by omega)]; rfl)) ?_; (with_reducible refine (dec_Dec_Mag.calls kj48 t245 t246 t247 t261 true _ A54.out).mono ?_); rintro e w128 ⟨rfl, hb⟩; refine ⟨_, rfl, ?_⟩; have n0_ := bb_ BK239 hb; have n1_ := bb_ BK248 hb; have n2_ := Aside0.mk (below_step (by repeat (first | (with_reducible first | exact HB.out | apply below_alloc | apply pw_below_drewN | apply below_drew1 | refine below_set ?_ GE239.out | refine below_set ?_ GE248.out) | exact HB.out)) hb); clear BK239; clear BK248; clear HB; have BK239 := n0_; have BK248 := n1_; have HB := n2_; clear n0_ n1_ n2_; (try clear hb); (try clear hb2); (try clear hk); (try clear hi); have hcz129_0 : w128.cell? ⟨gb248, 0, none⟩ = some (.bool t245) := (blk_cell BK248.out 0).trans rfl; have hcz129_1 : w128.cell? ⟨gb248, 1, none⟩ = some (.string t246) := (blk_cell BK248.out 1).trans rfl; have hcz129_2 : w128.cell? ⟨gb248, 2, none⟩ = some (.int .i64 t247) := (blk_cell BK248.out 2).trans rfl; have hfz129_0 := blk_frozen BK248.out 0; have hfz129_1 := blk_frozen BK248.out 1; have hfz129_2 := blk_frozen BK248.out 2) | ((with_reducible refine gate_callee (f := 24) rfl ?_); refine goesL_ (some 73) rfl rfl Tryd.func24 (by kernel_rfl) rfl #[.agg #[.bool t245, .string t246, .int .i64 t247]] rfl (by (try simp only [List.map_toArray, List.map_cons, List.map_nil]); first | done | rfl | (simp only [List.length_drop, List.length_take]; rfl) | (have z_ : ∀ s_ : ByteArray, s_.size ≤ 9223372036854775807 → -(s_.size : Int) = wrap64 (-(s_.size : Int)) := (fun s_ h_ => by unfold wrap64; omega); rw [← z_ _ (by omega)]; rfl)) ?_; (with_reducible refine (dec_Dec_Zero.calls kj48 t245 t246 t247 false _ A55.out).mono ?_); rintro e w130 ⟨rfl, hb⟩; refine ⟨_, rfl, ?_⟩; have n0_ := bb_ BK239 hb; have n1_ := bb_ BK248 hb; have n2_ := Aside0.mk (below_step (by repeat (first | (with_reducible first | exact HB.out | apply below_alloc | apply pw_below_drewN | apply below_drew1 | refine below_set ?_ GE239.out | refine below_set ?_ GE248.out) | exact HB.out)) hb); clear BK239; clear BK248; clear HB; have BK239 := n0_; have BK248 := n1_; have HB := n2_; clear n0_ n1_ n2_; (try clear hb); (try clear hb2); (try clear hk); (try clear hi); have hcz131_0 : w130.cell? ⟨gb248, 0, none⟩ = some (.bool t245) := (blk_cell BK248.out 0).trans rfl; have hcz131_1 : w130.cell? ⟨gb248, 1, none⟩ = some (.string t246) := (blk_cell BK248.out 1).trans rfl; have hcz131_2 : w130.cell? ⟨gb248, 2, none⟩ = some (.int .i64 t247) := (blk_cell BK248.out 2).trans rfl; have hfz131_0 := blk_frozen BK248.out 0; have hfz131_1 := blk_frozen BK248.out 1; have hfz131_2 := blk_frozen BK248.out 2) | ((with_reducible refine gate_callee (f := 16) rfl ?_); refine goesL_ (some 112) rfl rfl Tryd.func16 (by kernel_rfl) rfl #[.agg #[.bool t245, .string t246, .int .i64 t247]] rfl (by (try simp only [List.map_toArray, List.map_cons, List.map_nil]); first | done | rfl | (simp only [List.length_drop, List.length_take]; rfl) | (have z_ : ∀ s_ : ByteArray, s_.size ≤ 9223372036854775807 → -(s_.size : Int) = wrap64 (-(s_.size : Int)) := (fun s_ h_ => by unfold wrap64; omega); rw [← z_ _ (by omega)]; rfl)) ?_; (with_reducible refine (dec_Dec_Plain.calls kj48 t245 t246 t247 t268 _ A123.out).mono ?_); rintro e w132 ⟨rfl, hb⟩; refine ⟨_, rfl, ?_⟩; have n0_ := bb_ BK239 hb; have n1_ := bb_ BK248 hb; have n2_ := Aside0.mk (below_step (by repeat (first | (with_reducible first | exact HB.out | apply below_alloc | apply pw_below_drewN | apply below_drew1 | refine below_set ?_ GE239.out | refine below_set ?_ GE248.out) | exact HB.out)) hb); clear BK239; clear BK248; clear HB; have BK239 := n0_; have BK248 := n1_; have HB := n2_; clear n0_ n1_ n2_; (try clear hb); (try clear hb2); (try clear hk); (try clear hi)))
                go_ret
                exact ⟨by first | rfl | (simp [errW_none, errW_some] <;> rfl) | (simp [*, errW_none, errW_some] <;> first | rfl | exact given_isEmpty _ | exact (given_isEmpty _).symm), by repeat (first | (with_reducible first | exact HB.out | apply below_alloc | apply pw_below_drewN | apply below_drew1 | refine below_set ?_ GE239.out | refine below_set ?_ GE248.out) | exact HB.out)⟩
               ·replace c125 := Bool.eq_false_iff.mpr c125
                subst c125
                have H1 : (some false) = some r := by rw [if_neg (show ¬ (false = true) by decide)] at H; exact H
                clear H
                have H := H1
                clear H1
                obtain rfl := Option.some.inj H
                have hnb133 := NB248_239.out
                have hnc133 := NB239_248.out
                have hcz134_0 : wc.cell? ⟨gb248, 0, none⟩ = some (.bool t245) := (blk_cell BK248.out 0).trans rfl
                have hcz134_1 : wc.cell? ⟨gb248, 1, none⟩ = some (.string t246) := (blk_cell BK248.out 1).trans rfl
                have hcz134_2 : wc.cell? ⟨gb248, 2, none⟩ = some (.int .i64 t247) := (blk_cell BK248.out 2).trans rfl
                have hfz134_0 := blk_frozen BK248.out 0
                have hfz134_1 := blk_frozen BK248.out 1
                have hfz134_2 := blk_frozen BK248.out 2
                go_wp2_with (first | ((with_reducible refine gate_callee (f := 23) rfl ?_); refine goesL_ (some 69) rfl rfl Tryd.func23 (by kernel_rfl) rfl #[.agg #[.bool t245, .string t246, .int .i64 t247]] rfl (by (try simp only [List.map_toArray, List.map_cons, List.map_nil]); first | done | rfl | (simp only [List.length_drop, List.length_take]; rfl) | (have z_ : ∀ s_ : ByteArray, s_.size ≤ 9223372036854775807 → -(s_.size : Int) = wrap64 (-(s_.size : Int)) := (fun s_ h_ => by unfold wrap64; omega); rw [← z_ _ (by omega)]; rfl)) ?_; (with_reducible refine (dec_Dec_Mag.calls kj48 t245 t246 t247 t261 false _ A54.out).mono ?_); rintro e w135 ⟨rfl, hb⟩; refine ⟨_, rfl, ?_⟩; have n0_ := bb_ BK239 hb; have n1_ := bb_ BK248 hb; have n2_ := Aside0.mk (below_step (by repeat (first | (with_reducible first | exact HB.out | apply below_alloc | apply pw_below_drewN | apply below_drew1 | refine below_set ?_ GE239.out | refine below_set ?_ GE248.out) | exact HB.out)) hb); clear BK239; clear BK248; clear HB; have BK239 := n0_; have BK248 := n1_; have HB := n2_; clear n0_ n1_ n2_; (try clear hb); (try clear hb2); (try clear hk); (try clear hi); have hcz136_0 : w135.cell? ⟨gb248, 0, none⟩ = some (.bool t245) := (blk_cell BK248.out 0).trans rfl; have hcz136_1 : w135.cell? ⟨gb248, 1, none⟩ = some (.string t246) := (blk_cell BK248.out 1).trans rfl; have hcz136_2 : w135.cell? ⟨gb248, 2, none⟩ = some (.int .i64 t247) := (blk_cell BK248.out 2).trans rfl; have hfz136_0 := blk_frozen BK248.out 0; have hfz136_1 := blk_frozen BK248.out 1; have hfz136_2 := blk_frozen BK248.out 2) | ((with_reducible refine gate_callee (f := 24) rfl ?_); refine goesL_ (some 73) rfl rfl Tryd.func24 (by kernel_rfl) rfl #[.agg #[.bool t245, .string t246, .int .i64 t247]] rfl (by (try simp only [List.map_toArray, List.map_cons, List.map_nil]); first | done | rfl | (simp only [List.length_drop, List.length_take]; rfl) | (have z_ : ∀ s_ : ByteArray, s_.size ≤ 9223372036854775807 → -(s_.size : Int) = wrap64 (-(s_.size : Int)) := (fun s_ h_ => by unfold wrap64; omega); rw [← z_ _ (by omega)]; rfl)) ?_; (with_reducible refine (dec_Dec_Zero.calls kj48 t245 t246 t247 false _ A55.out).mono ?_); rintro e w137 ⟨rfl, hb⟩; refine ⟨_, rfl, ?_⟩; have n0_ := bb_ BK239 hb; have n1_ := bb_ BK248 hb; have n2_ := Aside0.mk (below_step (by repeat (first | (with_reducible first | exact HB.out | apply below_alloc | apply pw_below_drewN | apply below_drew1 | refine below_set ?_ GE239.out | refine below_set ?_ GE248.out) | exact HB.out)) hb); clear BK239; clear BK248; clear HB; have BK239 := n0_; have BK248 := n1_; have HB := n2_; clear n0_ n1_ n2_; (try clear hb); (try clear hb2); (try clear hk); (try clear hi); have hcz138_0 : w137.cell? ⟨gb248, 0, none⟩ = some (.bool t245) := (blk_cell BK248.out 0).trans rfl; have hcz138_1 : w137.cell? ⟨gb248, 1, none⟩ = some (.string t246) := (blk_cell BK248.out 1).trans rfl; have hcz138_2 : w137.cell? ⟨gb248, 2, none⟩ = some (.int .i64 t247) := (blk_cell BK248.out 2).trans rfl; have hfz138_0 := blk_frozen BK248.out 0; have hfz138_1 := blk_frozen BK248.out 1; have hfz138_2 := blk_frozen BK248.out 2) | ((with_reducible refine gate_callee (f := 16) rfl ?_); refine goesL_ (some 112) rfl rfl Tryd.func16 (by kernel_rfl) rfl #[.agg #[.bool t245, .string t246, .int .i64 t247]] rfl (by (try simp only [List.map_toArray, List.map_cons, List.map_nil]); first | done | rfl | (simp only [List.length_drop, List.length_take]; rfl) | (have z_ : ∀ s_ : ByteArray, s_.size ≤ 9223372036854775807 → -(s_.size : Int) = wrap64 (-(s_.size : Int)) := (fun s_ h_ => by unfold wrap64; omega); rw [← z_ _ (by omega)]; rfl)) ?_; (with_reducible refine (dec_Dec_Plain.calls kj48 t245 t246 t247 t268 _ A123.out).mono ?_); rintro e w139 ⟨rfl, hb⟩; refine ⟨_, rfl, ?_⟩; have n0_ := bb_ BK239 hb; have n1_ := bb_ BK248 hb; have n2_ := Aside0.mk (below_step (by repeat (first | (with_reducible first | exact HB.out | apply below_alloc | apply pw_below_drewN | apply below_drew1 | refine below_set ?_ GE239.out | refine below_set ?_ GE248.out) | exact HB.out)) hb); clear BK239; clear BK248; clear HB; have BK239 := n0_; have BK248 := n1_; have HB := n2_; clear n0_ n1_ n2_; (try clear hb); (try clear hb2); (try clear hk); (try clear hi)))
                go_ret
                exact ⟨by first | rfl | (simp [errW_none, errW_some] <;> rfl) | (simp [*, errW_none, errW_some] <;> first | rfl | exact given_isEmpty _ | exact (given_isEmpty _).symm), by repeat (first | (with_reducible first | exact HB.out | apply below_alloc | apply pw_below_drewN | apply below_drew1 | refine below_set ?_ GE239.out | refine below_set ?_ GE248.out) | exact HB.out)⟩
              ·rw [if_neg c124] at H
               have c124b0 : (t268.toList == x6_48.toList) = false := beq_eq_false_iff_ne.mpr c124
               have c124b1 : (t268.toList != x6_48.toList) = true := bne_iff_ne.mpr c124
               obtain rfl := Option.some.inj H
               have hnb140 := NB248_239.out
               have hnc140 := NB239_248.out
               have hcz141_0 : wc.cell? ⟨gb248, 0, none⟩ = some (.bool t245) := (blk_cell BK248.out 0).trans rfl
               have hcz141_1 : wc.cell? ⟨gb248, 1, none⟩ = some (.string t246) := (blk_cell BK248.out 1).trans rfl
               have hcz141_2 : wc.cell? ⟨gb248, 2, none⟩ = some (.int .i64 t247) := (blk_cell BK248.out 2).trans rfl
               have hfz141_0 := blk_frozen BK248.out 0
               have hfz141_1 := blk_frozen BK248.out 1
               have hfz141_2 := blk_frozen BK248.out 2
               go_wp2_with (first | ((with_reducible refine gate_callee (f := 23) rfl ?_); refine goesL_ (some 69) rfl rfl Tryd.func23 (by kernel_rfl) rfl #[.agg #[.bool t245, .string t246, .int .i64 t247]] rfl (by (try simp only [List.map_toArray, List.map_cons, List.map_nil]); first | done | rfl | (simp only [List.length_drop, List.length_take]; rfl) | (have z_ : ∀ s_ : ByteArray, s_.size ≤ 9223372036854775807 → -(s_.size : Int) = wrap64 (-(s_.size : Int)) := (fun s_ h_ => by unfold wrap64; omega); rw [← z_ _ (by omega)]; rfl)) ?_; (with_reducible refine (dec_Dec_Mag.calls kj48 t245 t246 t247 t261 t262 _ A54.out).mono ?_); rintro e w142 ⟨rfl, hb⟩; refine ⟨_, rfl, ?_⟩; have n0_ := bb_ BK239 hb; have n1_ := bb_ BK248 hb; have n2_ := Aside0.mk (below_step (by repeat (first | (with_reducible first | exact HB.out | apply below_alloc | apply pw_below_drewN | apply below_drew1 | refine below_set ?_ GE239.out | refine below_set ?_ GE248.out) | exact HB.out)) hb); clear BK239; clear BK248; clear HB; have BK239 := n0_; have BK248 := n1_; have HB := n2_; clear n0_ n1_ n2_; (try clear hb); (try clear hb2); (try clear hk); (try clear hi); have hcz143_0 : w142.cell? ⟨gb248, 0, none⟩ = some (.bool t245) := (blk_cell BK248.out 0).trans rfl; have hcz143_1 : w142.cell? ⟨gb248, 1, none⟩ = some (.string t246) := (blk_cell BK248.out 1).trans rfl; have hcz143_2 : w142.cell? ⟨gb248, 2, none⟩ = some (.int .i64 t247) := (blk_cell BK248.out 2).trans rfl; have hfz143_0 := blk_frozen BK248.out 0; have hfz143_1 := blk_frozen BK248.out 1; have hfz143_2 := blk_frozen BK248.out 2) | ((with_reducible refine gate_callee (f := 24) rfl ?_); refine goesL_ (some 73) rfl rfl Tryd.func24 (by kernel_rfl) rfl #[.agg #[.bool t245, .string t246, .int .i64 t247]] rfl (by (try simp only [List.map_toArray, List.map_cons, List.map_nil]); first | done | rfl | (simp only [List.length_drop, List.length_take]; rfl) | (have z_ : ∀ s_ : ByteArray, s_.size ≤ 9223372036854775807 → -(s_.size : Int) = wrap64 (-(s_.size : Int)) := (fun s_ h_ => by unfold wrap64; omega); rw [← z_ _ (by omega)]; rfl)) ?_; (with_reducible refine (dec_Dec_Zero.calls kj48 t245 t246 t247 false _ A55.out).mono ?_); rintro e w144 ⟨rfl, hb⟩; refine ⟨_, rfl, ?_⟩; have n0_ := bb_ BK239 hb; have n1_ := bb_ BK248 hb; have n2_ := Aside0.mk (below_step (by repeat (first | (with_reducible first | exact HB.out | apply below_alloc | apply pw_below_drewN | apply below_drew1 | refine below_set ?_ GE239.out | refine below_set ?_ GE248.out) | exact HB.out)) hb); clear BK239; clear BK248; clear HB; have BK239 := n0_; have BK248 := n1_; have HB := n2_; clear n0_ n1_ n2_; (try clear hb); (try clear hb2); (try clear hk); (try clear hi); have hcz145_0 : w144.cell? ⟨gb248, 0, none⟩ = some (.bool t245) := (blk_cell BK248.out 0).trans rfl; have hcz145_1 : w144.cell? ⟨gb248, 1, none⟩ = some (.string t246) := (blk_cell BK248.out 1).trans rfl; have hcz145_2 : w144.cell? ⟨gb248, 2, none⟩ = some (.int .i64 t247) := (blk_cell BK248.out 2).trans rfl; have hfz145_0 := blk_frozen BK248.out 0; have hfz145_1 := blk_frozen BK248.out 1; have hfz145_2 := blk_frozen BK248.out 2) | ((with_reducible refine gate_callee (f := 16) rfl ?_); refine goesL_ (some 112) rfl rfl Tryd.func16 (by kernel_rfl) rfl #[.agg #[.bool t245, .string t246, .int .i64 t247]] rfl (by (try simp only [List.map_toArray, List.map_cons, List.map_nil]); first | done | rfl | (simp only [List.length_drop, List.length_take]; rfl) | (have z_ : ∀ s_ : ByteArray, s_.size ≤ 9223372036854775807 → -(s_.size : Int) = wrap64 (-(s_.size : Int)) := (fun s_ h_ => by unfold wrap64; omega); rw [← z_ _ (by omega)]; rfl)) ?_; (with_reducible refine (dec_Dec_Plain.calls kj48 t245 t246 t247 t268 _ A123.out).mono ?_); rintro e w146 ⟨rfl, hb⟩; refine ⟨_, rfl, ?_⟩; have n0_ := bb_ BK239 hb; have n1_ := bb_ BK248 hb; have n2_ := Aside0.mk (below_step (by repeat (first | (with_reducible first | exact HB.out | apply below_alloc | apply pw_below_drewN | apply below_drew1 | refine below_set ?_ GE239.out | refine below_set ?_ GE248.out) | exact HB.out)) hb); clear BK239; clear BK248; clear HB; have BK239 := n0_; have BK248 := n1_; have HB := n2_; clear n0_ n1_ n2_; (try clear hb); (try clear hb2); (try clear hk); (try clear hi)))
               go_ret
               exact ⟨by first | rfl | (simp [errW_none, errW_some] <;> rfl) | (simp [*, errW_none, errW_some] <;> first | rfl | exact given_isEmpty _ | exact (given_isEmpty _).symm), by repeat (first | (with_reducible first | exact HB.out | apply below_alloc | apply pw_below_drewN | apply below_drew1 | refine below_set ?_ GE239.out | refine below_set ?_ GE248.out) | exact HB.out)⟩
  ·replace c5 := Bool.eq_false_iff.mpr c5
   subst c5
   have H1 : (some true) = some r := by rw [if_neg (show ¬ (false = true) by decide)] at H; exact H
   clear H
   have H := H1
   clear H1
   obtain rfl := Option.some.inj H
   go_enter Tryd.func4, Tryd.ntmps4
   go_wp2_with (first | ((with_reducible refine gate_dst (N := 1) rfl ?_); (try (refine gate_guard (by rfl) ?_; dsimp only)); refine box_event ?hg (N := 1) ?hd (cs := #[.bool a0_0, .slice A0_1 l0_1.length c0_1, .int .i64 a0_2]) (t := 33) ?hr ?_; (case hd => rfl); (case hg => rfl); (case hr => first | (go_simp; done) | (go_simp; rfl)); intro gb239 hg w147 hbox hb; have n0_ := Aside0.mk (below_step (by repeat (first | (with_reducible first | exact HB.out | apply below_alloc | apply pw_below_drewN | apply below_drew1) | exact HB.out)) hb); have n1_ := Aside0.mk (hbox); have n2_ := Aside0.mk ((by rw [hg]; exact (below_size (by repeat (first | (with_reducible first | exact HB.out | apply below_alloc | apply pw_below_drewN | apply below_drew1) | exact HB.out))) : w.heap.size ≤ gb239)); have n3_ := Aside0.mk ((by rw [hg]; exact (below_size (by repeat (first | (with_reducible first | exact HB.out | apply below_alloc | apply pw_below_drewN | apply below_drew1) | exact HB.out))) : w.heap.size ≤ gb239)); clear HB; have HB := n0_; have BK239 := n1_; have GW239 := n2_; have GE239 := n3_; clear n0_ n1_ n2_ n3_; clear hb hbox hg) | ((with_reducible refine gate_callee (f := 11) rfl ?_); refine goesL_ (some 10) rfl rfl Tryd.func11 (by kernel_rfl) rfl #[] rfl (by (try simp only [List.map_toArray, List.map_cons, List.map_nil]); first | done | rfl | (simp only [List.length_drop, List.length_take]; rfl) | (have z_ : ∀ s_ : ByteArray, s_.size ≤ 9223372036854775807 → -(s_.size : Int) = wrap64 (-(s_.size : Int)) := (fun s_ h_ => by unfold wrap64; omega); rw [← z_ _ (by omega)]; rfl)) ?_; (with_reducible refine (florinlaw02_head.calls k  true _ A2.out).mono ?_); rintro e w148 ⟨rfl, hb⟩; refine ⟨_, rfl, ?_⟩; have n0_ := bb_ BK239 hb; have n1_ := Aside0.mk (below_step (by repeat (first | (with_reducible first | exact HB.out | apply below_alloc | apply pw_below_drewN | apply below_drew1 | refine below_set ?_ GE239.out) | exact HB.out)) hb); clear BK239; clear HB; have BK239 := n0_; have HB := n1_; clear n0_ n1_; (try clear hb); (try clear hb2); (try clear hk); (try clear hi); have hcz149_0 : w148.cell? ⟨gb239, 0, none⟩ = some (.bool a0_0) := (blk_cell BK239.out 0).trans rfl; have hcz149_1 : w148.cell? ⟨gb239, 1, none⟩ = some (.slice A0_1 l0_1.length c0_1) := (blk_cell BK239.out 1).trans rfl; have hcz149_2 : w148.cell? ⟨gb239, 2, none⟩ = some (.int .i64 a0_2) := (blk_cell BK239.out 2).trans rfl; have hfz149_0 := blk_frozen BK239.out 0; have hfz149_1 := blk_frozen BK239.out 1; have hfz149_2 := blk_frozen BK239.out 2) | ((with_reducible refine gate_callee (f := 17) rfl ?_); refine goesL_ (some 13) rfl rfl Tryd.func17 (by kernel_rfl) rfl #[.agg #[.bool a0_0, .slice A0_1 l0_1.length c0_1, .int .i64 a0_2], .int .i64 80] rfl (by (try simp only [List.map_toArray, List.map_cons, List.map_nil]); first | done | rfl | (simp only [List.length_drop, List.length_take]; rfl) | (have z_ : ∀ s_ : ByteArray, s_.size ≤ 9223372036854775807 → -(s_.size : Int) = wrap64 (-(s_.size : Int)) := (fun s_ h_ => by unfold wrap64; omega); rw [← z_ _ (by omega)]; rfl)) ?_; (with_reducible refine (florinlaw02_Raw_Few.calls a0_0 _ _ l0_1 a0_2 80 false _ ?side1 ?side2 A4.out).mono ?_); (case side1 => repeat (first | exact (Kd.C_below HR0_1.out HB.out) | (with_reducible refine Kd.C_alloc ?_ _) | (with_reducible refine Kd.C_drewN ?_ _) | (with_reducible refine Kd.C_drew ?_))); (case side2 => exact HC0_1.out); rintro e w150 ⟨rfl, hb⟩; refine ⟨_, rfl, ?_⟩; have n0_ := bb_ BK239 hb; have n1_ := Aside0.mk (below_step (by repeat (first | (with_reducible first | exact HB.out | apply below_alloc | apply pw_below_drewN | apply below_drew1 | refine below_set ?_ GE239.out) | exact HB.out)) hb); clear BK239; clear HB; have BK239 := n0_; have HB := n1_; clear n0_ n1_; (try clear hb); (try clear hb2); (try clear hk); (try clear hi)))
   go_ret
   exact ⟨by first | rfl | (simp [errW_none, errW_some] <;> rfl) | (simp [*, errW_none, errW_some] <;> first | rfl | exact given_isEmpty _ | exact (given_isEmpty _).symm), by repeat (first | (with_reducible first | exact HB.out | apply below_alloc | apply pw_below_drewN | apply below_drew1 | refine below_set ?_ GE239.out) | exact HB.out)⟩
 ·replace c3 := Bool.eq_false_iff.mpr c3
  subst c3
  have H1 : (some false) = some r := by rw [if_neg (show ¬ (false = true) by decide)] at H; exact H
  clear H
  have H := H1
  clear H1
  obtain rfl := Option.some.inj H
  go_enter Tryd.func4, Tryd.ntmps4
  go_wp2_with (first | ((with_reducible refine gate_dst (N := 1) rfl ?_); (try (refine gate_guard (by rfl) ?_; dsimp only)); refine box_event ?hg (N := 1) ?hd (cs := #[.bool a0_0, .slice A0_1 l0_1.length c0_1, .int .i64 a0_2]) (t := 33) ?hr ?_; (case hd => rfl); (case hg => rfl); (case hr => first | (go_simp; done) | (go_simp; rfl)); intro gb239 hg w151 hbox hb; have n0_ := Aside0.mk (below_step (by repeat (first | (with_reducible first | exact HB.out | apply below_alloc | apply pw_below_drewN | apply below_drew1) | exact HB.out)) hb); have n1_ := Aside0.mk (hbox); have n2_ := Aside0.mk ((by rw [hg]; exact (below_size (by repeat (first | (with_reducible first | exact HB.out | apply below_alloc | apply pw_below_drewN | apply below_drew1) | exact HB.out))) : w.heap.size ≤ gb239)); have n3_ := Aside0.mk ((by rw [hg]; exact (below_size (by repeat (first | (with_reducible first | exact HB.out | apply below_alloc | apply pw_below_drewN | apply below_drew1) | exact HB.out))) : w.heap.size ≤ gb239)); clear HB; have HB := n0_; have BK239 := n1_; have GW239 := n2_; have GE239 := n3_; clear n0_ n1_ n2_ n3_; clear hb hbox hg) | ((with_reducible refine gate_callee (f := 11) rfl ?_); refine goesL_ (some 10) rfl rfl Tryd.func11 (by kernel_rfl) rfl #[] rfl (by (try simp only [List.map_toArray, List.map_cons, List.map_nil]); first | done | rfl | (simp only [List.length_drop, List.length_take]; rfl) | (have z_ : ∀ s_ : ByteArray, s_.size ≤ 9223372036854775807 → -(s_.size : Int) = wrap64 (-(s_.size : Int)) := (fun s_ h_ => by unfold wrap64; omega); rw [← z_ _ (by omega)]; rfl)) ?_; (with_reducible refine (florinlaw02_head.calls k  false _ A2.out).mono ?_); rintro e w152 ⟨rfl, hb⟩; refine ⟨_, rfl, ?_⟩; have n0_ := bb_ BK239 hb; have n1_ := Aside0.mk (below_step (by repeat (first | (with_reducible first | exact HB.out | apply below_alloc | apply pw_below_drewN | apply below_drew1 | refine below_set ?_ GE239.out) | exact HB.out)) hb); clear BK239; clear HB; have BK239 := n0_; have HB := n1_; clear n0_ n1_; (try clear hb); (try clear hb2); (try clear hk); (try clear hi)))
  go_ret
  exact ⟨by first | rfl | (simp [errW_none, errW_some] <;> rfl) | (simp [*, errW_none, errW_some] <;> first | rfl | exact given_isEmpty _ | exact (given_isEmpty _).symm), by repeat (first | (with_reducible first | exact HB.out | apply below_alloc | apply pw_below_drewN | apply below_drew1 | refine below_set ?_ GE239.out) | exact HB.out)⟩

end Go.Proofs.YtlkiaeipbekpkaaDoor.P
