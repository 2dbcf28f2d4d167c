-- written by a program of this session (wip/p2)
import Derived.Test.YtlkiaeipbekpkaaDoorPx0
import Derived.Test.YtlkiaeipbekpkaaDoorPx1
import Derived.Test.YtlkiaeipbekpkaaDoorPx2
import Derived.Test.YtlkiaeipbekpkaaDoorPx3
import Derived.Test.YtlkiaeipbekpkaaDoorPx5
import Derived.Test.YtlkiaeipbekpkaaDoorPx7
import Derived.Test.YtlkiaeipbekpkaaDoorPx9
import Derived.Test.YtlkiaeipbekpkaaDoorPx11
import Derived.Test.YtlkiaeipbekpkaaDoorPx19
import Derived.Test.YtlkiaeipbekpkaaDoorPx20
namespace Go.Proofs.YtlkiaeipbekpkaaDoor.P
open Go.RowKit Go.Proofs.YtlkiaeipbekpkaaDoorW.PrintWords Go.Proofs.YtlkiaeipbekpkaaDoorW.PrintLast Go.Proofs.YtlkiaeipbekpkaaDoorW.PrintMore
attribute [local go_sem] max2_int min2_int max_two min_two max_three min_three max_four min_four   -- for this text's walks alone
set_option linter.unusedVariables false
set_option linter.unusedSimpArgs false

attribute [local go_sem high] eqA24
/-! ### florinlaw02_DecForms: function 8 -/
mutual
def florinlaw02_DecForms.j0 : Nat → ByteArray → Bool → Bool → List Int → Int → Option (Bool)
 | 0, _, _, _, _, _ => none
 | k + 1, x1, x16, x383000, x383001, x383002 => if x16 = true then (some true) else ((florinlaw02_Raw_Make.f k x383000 x383001 x383002).bind fun bt385 => ((dec_Dec_Norm.f k bt385.1 bt385.2.1 bt385.2.2).bind fun bt389 => ((florinlaw02_normal.f k bt389.1 bt389.2.1 bt389.2.2).bind fun t393 => (if t393 = true then ((dec_Made.f k x383000 bt385.2.1 x383002).bind fun bt394 => (if (!(bt389.1 == bt394.1) || (!(bt389.2.1.toList == bt394.2.1.toList) || (!(bt389.2.2 == bt394.2.2)))) = true then (florinlaw02_DecForms.j1 k x1 true x383000 x383001 x383002 bt385.1 bt385.2.1 bt385.2.2 bt389.1 bt389.2.1 bt389.2.2) else ((dec_Dec_Norm.f k bt389.1 bt389.2.1 bt389.2.2).bind fun bt397 => (if (!(bt397.1 == bt389.1) || (!(bt397.2.1.toList == bt389.2.1.toList) || (!(bt397.2.2 == bt389.2.2)))) = true then (florinlaw02_DecForms.j1 k x1 true x383000 x383001 x383002 bt385.1 bt385.2.1 bt385.2.2 bt389.1 bt389.2.1 bt389.2.2) else ((dec_Dec_Zero.f k bt389.1 bt389.2.1 bt389.2.2).bind fun t400 => ((num_Trim.f k bt385.2.1).bind fun t401 => (if (t400 != (t401.toList == ([] : List UInt8))) = true then (florinlaw02_DecForms.j1 k x1 true x383000 x383001 x383002 bt385.1 bt385.2.1 bt385.2.2 bt389.1 bt389.2.1 bt389.2.2) else ((dec_Dec_Zero.f k bt385.1 bt385.2.1 bt385.2.2).bind fun t402 => ((dec_Dec_Zero.f k bt389.1 bt389.2.1 bt389.2.2).bind fun t403 => (florinlaw02_DecForms.j1 k x1 (t402 != t403) x383000 x383001 x383002 bt385.1 bt385.2.1 bt385.2.2 bt389.1 bt389.2.1 bt389.2.2)))))))))) else (florinlaw02_DecForms.j1 k x1 true x383000 x383001 x383002 bt385.1 bt385.2.1 bt385.2.2 bt389.1 bt389.2.1 bt389.2.2)))))
def florinlaw02_DecForms.j1 : Nat → ByteArray → Bool → Bool → List Int → Int → Bool → ByteArray → Int → Bool → ByteArray → Int → Option (Bool)
 | 0, _, _, _, _, _, _, _, _, _, _, _ => none
 | k + 1, x1, x56, x383000, x383001, x383002, x389000, x389001, x389002, x393000, x393001, x393002 => if x56 = true then (some false) else ((num_Is.f k x1).bind fun t404 => (if t404 = true then (florinlaw02_DecForms.j2 k false x383000 x383001 x383002 x389000 x389001 x389002 x393000 x393001 x393002) else ((dec_Made.f k true x1 3).bind fun bt405 => (if (bt405.1 || (!(bt405.2.1.toList == ([] : List UInt8)) || (!(bt405.2.2 == 0)))) = true then (florinlaw02_DecForms.j2 k true x383000 x383001 x383002 x389000 x389001 x389002 x393000 x393001 x393002) else ((dec_Dec_Zero.f k false x1 0).bind fun t408 => (florinlaw02_DecForms.j2 k (!t408) x383000 x383001 x383002 x389000 x389001 x389002 x393000 x393001 x393002))))))
def florinlaw02_DecForms.j2 : Nat → Bool → Bool → List Int → Int → Bool → ByteArray → Int → Bool → ByteArray → Int → Option (Bool)
 | 0, _, _, _, _, _, _, _, _, _, _ => none
 | k + 1, x71, x383000, x383001, x383002, x389000, x389001, x389002, x393000, x393001, x393002 => if x71 = true then (some false) else ((dec_Dec_Zero.f k x393000 x393001 x393002).bind fun t409 => (if t409 = true then (some true) else (if (x393000 == x383000) = true then ((florinlaw02_Places.f k x393000 x393001 x393002 60).bind fun t410 => ((florinlaw02_Places.f k x389000 x389001 x389002 60).bind fun t411 => ((num_Cmp.f k t410 t411).bind fun t412 => (some (t412 == 0))))) else (some false))))
end
def florinlaw02_DecForms.f (k : Nat) (a0_0 : Bool) (l0_1 : List Int) (a0_2 : Int) (a1 : ByteArray) : Option (Bool) := (florinlaw02_head.f k).bind fun t383 => (if t383 = true then ((florinlaw02_Raw_Few.f a0_0 l0_1 a0_2 60).bind fun t384 => (if t384 = true then (florinlaw02_DecForms.j0 k a1 (decide ((a1.size : Int) > 60)) a0_0 l0_1 a0_2) else (florinlaw02_DecForms.j0 k a1 true a0_0 l0_1 a0_2))) else (some false))
theorem florinlaw02_DecForms.mono_l : ∀ k, (∀ y0 y1 y2 y3 y4, LeO (florinlaw02_DecForms.j0 k y0 y1 y2 y3 y4) (florinlaw02_DecForms.j0 (k + 1) y0 y1 y2 y3 y4)) ∧ (∀ y0 y1 y2 y3 y4 y5 y6 y7 y8 y9 y10, LeO (florinlaw02_DecForms.j1 k y0 y1 y2 y3 y4 y5 y6 y7 y8 y9 y10) (florinlaw02_DecForms.j1 (k + 1) y0 y1 y2 y3 y4 y5 y6 y7 y8 y9 y10)) ∧ (∀ y0 y1 y2 y3 y4 y5 y6 y7 y8 y9, LeO (florinlaw02_DecForms.j2 k y0 y1 y2 y3 y4 y5 y6 y7 y8 y9) (florinlaw02_DecForms.j2 (k + 1) y0 y1 y2 y3 y4 y5 y6 y7 y8 y9))
 | 0 => ⟨fun _ _ _ _ _ r h => by simp [florinlaw02_DecForms.j0] at h, fun _ _ _ _ _ _ _ _ _ _ _ r h => by simp [florinlaw02_DecForms.j1] at h, fun _ _ _ _ _ _ _ _ _ _ r h => by simp [florinlaw02_DecForms.j2] at h⟩
 | k + 1 => by
  obtain ⟨ih0, ih1, ih2⟩ := florinlaw02_DecForms.mono_l k
  refine ⟨?_, ?_, ?_⟩
  ·intro y0 y1 y2 y3 y4
   unfold florinlaw02_DecForms.j0
   repeat' first
   | (with_reducible exact ih0 _ _ _ _ _)
   | (with_reducible exact ih1 _ _ _ _ _ _ _ _ _ _ _)
   | (with_reducible exact ih2 _ _ _ _ _ _ _ _ _ _)
   | (with_reducible exact dec_Dec_Norm.mono _ _ _ _)
   | (with_reducible exact dec_Dec_Zero.mono _ _ _ _)
   | (with_reducible exact dec_Made.mono _ _ _ _)
   | (with_reducible exact florinlaw02_Places.mono _ _ _ _ _)
   | (with_reducible exact florinlaw02_Raw_Make.mono _ _ _ _)
   | (with_reducible exact florinlaw02_head.mono _)
   | (with_reducible exact florinlaw02_normal.mono _ _ _ _)
   | (with_reducible exact num_Cmp.mono _ _ _)
   | (with_reducible exact num_Is.mono _ _)
   | (with_reducible exact num_Trim.mono _ _)
   | (with_reducible exact LeO.refl _)
   | (with_reducible exact LeO.none _)
   | (with_reducible refine LeO.ite ?_ ?_)
   | (with_reducible refine LeO.bind ?_ (fun _ => ?_))
   | exact ih0 _ _ _ _ _
   | exact ih1 _ _ _ _ _ _ _ _ _ _ _
   | exact ih2 _ _ _ _ _ _ _ _ _ _
   | exact dec_Dec_Norm.mono _ _ _ _
   | exact dec_Dec_Zero.mono _ _ _ _
   | exact dec_Made.mono _ _ _ _
   | exact florinlaw02_Places.mono _ _ _ _ _
   | exact florinlaw02_Raw_Make.mono _ _ _ _
   | exact florinlaw02_head.mono _
   | exact florinlaw02_normal.mono _ _ _ _
   | exact num_Cmp.mono _ _ _
   | exact num_Is.mono _ _
   | exact num_Trim.mono _ _
   | exact LeO.none _
   | refine LeO.ite ?_ ?_
   | refine LeO.bind ?_ (fun _ => ?_)
  ·intro y0 y1 y2 y3 y4 y5 y6 y7 y8 y9 y10
   unfold florinlaw02_DecForms.j1
   repeat' first
   | (with_reducible exact ih0 _ _ _ _ _)
   | (with_reducible exact ih1 _ _ _ _ _ _ _ _ _ _ _)
   | (with_reducible exact ih2 _ _ _ _ _ _ _ _ _ _)
   | (with_reducible exact dec_Dec_Norm.mono _ _ _ _)
   | (with_reducible exact dec_Dec_Zero.mono _ _ _ _)
   | (with_reducible exact dec_Made.mono _ _ _ _)
   | (with_reducible exact florinlaw02_Places.mono _ _ _ _ _)
   | (with_reducible exact florinlaw02_Raw_Make.mono _ _ _ _)
   | (with_reducible exact florinlaw02_head.mono _)
   | (with_reducible exact florinlaw02_normal.mono _ _ _ _)
   | (with_reducible exact num_Cmp.mono _ _ _)
   | (with_reducible exact num_Is.mono _ _)
   | (with_reducible exact num_Trim.mono _ _)
   | (with_reducible exact LeO.refl _)
   | (with_reducible exact LeO.none _)
   | (with_reducible refine LeO.ite ?_ ?_)
   | (with_reducible refine LeO.bind ?_ (fun _ => ?_))
   | exact ih0 _ _ _ _ _
   | exact ih1 _ _ _ _ _ _ _ _ _ _ _
   | exact ih2 _ _ _ _ _ _ _ _ _ _
   | exact dec_Dec_Norm.mono _ _ _ _
   | exact dec_Dec_Zero.mono _ _ _ _
   | exact dec_Made.mono _ _ _ _
   | exact florinlaw02_Places.mono _ _ _ _ _
   | exact florinlaw02_Raw_Make.mono _ _ _ _
   | exact florinlaw02_head.mono _
   | exact florinlaw02_normal.mono _ _ _ _
   | exact num_Cmp.mono _ _ _
   | exact num_Is.mono _ _
   | exact num_Trim.mono _ _
   | exact LeO.none _
   | refine LeO.ite ?_ ?_
   | refine LeO.bind ?_ (fun _ => ?_)
  ·intro y0 y1 y2 y3 y4 y5 y6 y7 y8 y9
   unfold florinlaw02_DecForms.j2
   repeat' first
   | (with_reducible exact ih0 _ _ _ _ _)
   | (with_reducible exact ih1 _ _ _ _ _ _ _ _ _ _ _)
   | (with_reducible exact ih2 _ _ _ _ _ _ _ _ _ _)
   | (with_reducible exact dec_Dec_Norm.mono _ _ _ _)
   | (with_reducible exact dec_Dec_Zero.mono _ _ _ _)
   | (with_reducible exact dec_Made.mono _ _ _ _)
   | (with_reducible exact florinlaw02_Places.mono _ _ _ _ _)
   | (with_reducible exact florinlaw02_Raw_Make.mono _ _ _ _)
   | (with_reducible exact florinlaw02_head.mono _)
   | (with_reducible exact florinlaw02_normal.mono _ _ _ _)
   | (with_reducible exact num_Cmp.mono _ _ _)
   | (with_reducible exact num_Is.mono _ _)
   | (with_reducible exact num_Trim.mono _ _)
   | (with_reducible exact LeO.refl _)
   | (with_reducible exact LeO.none _)
   | (with_reducible refine LeO.ite ?_ ?_)
   | (with_reducible refine LeO.bind ?_ (fun _ => ?_))
   | exact ih0 _ _ _ _ _
   | exact ih1 _ _ _ _ _ _ _ _ _ _ _
   | exact ih2 _ _ _ _ _ _ _ _ _ _
   | exact dec_Dec_Norm.mono _ _ _ _
   | exact dec_Dec_Zero.mono _ _ _ _
   | exact dec_Made.mono _ _ _ _
   | exact florinlaw02_Places.mono _ _ _ _ _
   | exact florinlaw02_Raw_Make.mono _ _ _ _
   | exact florinlaw02_head.mono _
   | exact florinlaw02_normal.mono _ _ _ _
   | exact num_Cmp.mono _ _ _
   | exact num_Is.mono _ _
   | exact num_Trim.mono _ _
   | exact LeO.none _
   | refine LeO.ite ?_ ?_
   | refine LeO.bind ?_ (fun _ => ?_)
theorem florinlaw02_DecForms.mono : ∀ a0 a1 a2 a3 k, LeO (florinlaw02_DecForms.f k a0 a1 a2 a3) (florinlaw02_DecForms.f (k + 1) a0 a1 a2 a3) := by
 intro a0 a1 a2 a3 k
 obtain ⟨ih0, ih1, ih2⟩ := florinlaw02_DecForms.mono_l k
 unfold florinlaw02_DecForms.f
 repeat' first
   | (with_reducible exact ih0 _ _ _ _ _)
   | (with_reducible exact ih1 _ _ _ _ _ _ _ _ _ _ _)
   | (with_reducible exact ih2 _ _ _ _ _ _ _ _ _ _)
   | (with_reducible exact dec_Dec_Norm.mono _ _ _ _)
   | (with_reducible exact dec_Dec_Zero.mono _ _ _ _)
   | (with_reducible exact dec_Made.mono _ _ _ _)
   | (with_reducible exact florinlaw02_Places.mono _ _ _ _ _)
   | (with_reducible exact florinlaw02_Raw_Make.mono _ _ _ _)
   | (with_reducible exact florinlaw02_head.mono _)
   | (with_reducible exact florinlaw02_normal.mono _ _ _ _)
   | (with_reducible exact num_Cmp.mono _ _ _)
   | (with_reducible exact num_Is.mono _ _)
   | (with_reducible exact num_Trim.mono _ _)
   | (with_reducible exact LeO.refl _)
   | (with_reducible exact LeO.none _)
   | (with_reducible refine LeO.ite ?_ ?_)
   | (with_reducible refine LeO.bind ?_ (fun _ => ?_))
   | exact ih0 _ _ _ _ _
   | exact ih1 _ _ _ _ _ _ _ _ _ _ _
   | exact ih2 _ _ _ _ _ _ _ _ _ _
   | exact dec_Dec_Norm.mono _ _ _ _
   | exact dec_Dec_Zero.mono _ _ _ _
   | exact dec_Made.mono _ _ _ _
   | exact florinlaw02_Places.mono _ _ _ _ _
   | exact florinlaw02_Raw_Make.mono _ _ _ _
   | exact florinlaw02_head.mono _
   | exact florinlaw02_normal.mono _ _ _ _
   | exact num_Cmp.mono _ _ _
   | exact num_Is.mono _ _
   | exact num_Trim.mono _ _
   | exact LeO.none _
   | refine LeO.ite ?_ ?_
   | refine LeO.bind ?_ (fun _ => ?_)
def florinlaw02_DecForms.T7 : Bool × List (List Nat × List Nat) := (true, [([], []), ([0], [0]), ([1], [1]), ([2, 1], [2]), ([3], [3]), ([3], [3]), ([5, 3], [3, 5]), ([3], [3]), ([7, 3], [3, 7]), ([3], [3]), ([9, 3], [3, 9]), ([6, 8, 10, 3, 3], [3, 6, 8, 10]), ([4, 11, 3], [3, 4, 11]), ([3, 12], [3, 12]), ([13, 11], [13]), ([14], [14]), ([15, 14, 14], [14, 15]), ([14], [14]), ([16, 17, 14], [14, 16, 17]), ([14, 18], [14, 18]), ([19, 16], [19]), ([20], [20]), ([21, 20, 20], [20, 21]), ([20], [20]), ([23, 20], [20, 23]), ([24, 22, 20], [20, 24]), ([25, 20], [20, 25]), ([22, 26, 20], [20, 22, 26]), ([20, 27], [20, 27]), ([28, 25], [28]), ([29], [29]), ([30, 29, 29], [29, 30]), ([29], [29]), ([32, 31, 29], [29, 32]), ([31, 33, 29], [29, 31, 33]), ([29, 34], [29, 34])])
def florinlaw02_DecForms.B7 : List Nat := [0, 1, 3, 7, 15, 15, 47, 15, 143, 15, 527, 2031, 4095, 8191, 16383, 32767, 65535, 32767, 262143, 524287, 1048575, 2097151, 4194303, 2097151, 10485759, 33554431, 67108863, 134217727, 268435455, 536870911, 1073741823, 2147483647, 1073741823, 8589934591, 17179869183, 34359738367]
theorem florinlaw02_DecForms.tab7 : rtab .any (opsOf Tryd.f8 7) = florinlaw02_DecForms.T7 := by kernel_rfl
theorem florinlaw02_DecForms.bits7 : waitsOk florinlaw02_DecForms.T7.2 florinlaw02_DecForms.B7 = true := by kernel_rfl
def florinlaw02_DecForms.T13 : Bool × List (List Nat × List Nat) := (true, [([], []), ([0], [0]), ([], []), ([2], [2]), ([1, 3], [1, 3]), ([4], [4]), ([5], [5]), ([6, 5, 5], [5, 6]), ([5], [5]), ([8, 7, 5], [5, 8]), ([7, 9, 9, 5], [5, 7, 9]), ([10, 5], [5, 10]), ([5, 11], [5, 11]), ([12, 10, 0, 1, 2, 3, 4, 5, 6, 7, 8, 9, 10, 11, 12], [12])])
def florinlaw02_DecForms.B13 : List Nat := [0, 1, 0, 4, 15, 31, 63, 127, 63, 511, 1023, 2047, 4095, 8191]
theorem florinlaw02_DecForms.tab13 : rtab .any (opsOf Tryd.f8 13) = florinlaw02_DecForms.T13 := by kernel_rfl
theorem florinlaw02_DecForms.bits13 : waitsOk florinlaw02_DecForms.T13.2 florinlaw02_DecForms.B13 = true := by kernel_rfl
set_option maxHeartbeats 8000000 in
set_option maxRecDepth 100000 in
theorem florinlaw02_DecForms.calls (k : Nat) (a0_0 : Bool) (A0_1 : Option Addr) (c0_1 : Nat) (l0_1 : List Int) (a0_2 : Int) (a1 : ByteArray) (r : Bool) (w : World) (hr0_1 : Kd.C (Kd.int .u8) w A0_1 l0_1.length l0_1) (hc0_1 : l0_1.length ≤ c0_1) (h : florinlaw02_DecForms.f k a0_0 l0_1 a0_2 a1 = some r) :
  Calls Tryd.prog 8 #[.agg #[.bool a0_0, .slice A0_1 l0_1.length c0_1, .int .i64 a0_2], .string a1] w fun e w' => e = .returned (.bool r) ∧ Below w.heap.size w w' := by
 have hu33 := Tryd.underlying33
 have hu24 := Tryd.underlying24
 have HR0_1 := Aside0.mk hr0_1
 have HC0_1 := Aside0.mk hc0_1
 clear hr0_1 hc0_1
 have HB := Aside0.mk (Below.refl w.heap.size w)
 have H : ((florinlaw02_head.f k).bind fun t383 => (if t383 = true then ((florinlaw02_Raw_Few.f a0_0 l0_1 a0_2 60).bind fun t384 => (if t384 = true then (florinlaw02_DecForms.j0 k a1 (decide ((a1.size : Int) > 60)) a0_0 l0_1 a0_2) else (florinlaw02_DecForms.j0 k a1 true a0_0 l0_1 a0_2))) else (some false))) = some r := h
 clear h
 replace H := Option.bind_eq_some_iff.mp H
 obtain ⟨t383, A30, H⟩ := H
 replace H : (if t383 = true then ((florinlaw02_Raw_Few.f a0_0 l0_1 a0_2 60).bind fun t384 => (if t384 = true then (florinlaw02_DecForms.j0 k a1 (decide ((a1.size : Int) > 60)) a0_0 l0_1 a0_2) else (florinlaw02_DecForms.j0 k a1 true a0_0 l0_1 a0_2))) else (some false)) = some r := H
 have A3 := Aside0.mk A30
 clear A30
 by_cases c4 : t383 = true
 ·subst c4
  have H1 : ((florinlaw02_Raw_Few.f a0_0 l0_1 a0_2 60).bind fun t384 => (if t384 = true then (florinlaw02_DecForms.j0 k a1 (decide ((a1.size : Int) > 60)) a0_0 l0_1 a0_2) else (florinlaw02_DecForms.j0 k a1 true a0_0 l0_1 a0_2))) = some r := by rw [if_pos rfl] at H; exact H
  clear H
  have H := H1
  clear H1
  have HC5 := Aside0.mk H
  clear H
  go_enter Tryd.func8, Tryd.ntmps8
  go_upto_region 3 with (first | ((with_reducible refine gate_dst (N := 2) rfl ?_); (try (refine gate_guard (by rfl) ?_; dsimp only)); refine box_event ?hg (N := 2) ?hd (cs := #[.bool a0_0, .slice A0_1 l0_1.length c0_1, .int .i64 a0_2]) (t := 33) ?hr ?_; (case hd => rfl); (case hg => rfl); (case hr => first | (go_simp; done) | (go_simp; rfl)); intro gb382 hg w6 hbox hb; have n0_ := Aside0.mk (below_step (by repeat (first | (with_reducible first | exact HB.out | apply below_alloc | apply pw_below_drewN | apply below_drew1) | exact HB.out)) hb); have n1_ := Aside0.mk (hbox); have n2_ := Aside0.mk ((by rw [hg]; exact (below_size (by repeat (first | (with_reducible first | exact HB.out | apply below_alloc | apply pw_below_drewN | apply below_drew1) | exact HB.out))) : w.heap.size ≤ gb382)); have n3_ := Aside0.mk ((by rw [hg]; exact (below_size (by repeat (first | (with_reducible first | exact HB.out | apply below_alloc | apply pw_below_drewN | apply below_drew1) | exact HB.out))) : w.heap.size ≤ gb382)); clear HB; have HB := n0_; have BK382 := n1_; have GW382 := n2_; have GE382 := n3_; clear n0_ n1_ n2_ n3_; clear hb hbox hg) | ((with_reducible refine gate_callee (f := 11) rfl ?_); refine goesL_ (some 7) rfl rfl Tryd.func11 (by kernel_rfl) rfl #[] rfl (by (try simp only [List.map_toArray, List.map_cons, List.map_nil]); first | done | rfl | (simp only [List.length_drop, List.length_take]; rfl) | (have z_ : ∀ s_ : ByteArray, s_.size ≤ 9223372036854775807 → -(s_.size : Int) = wrap64 (-(s_.size : Int)) := (fun s_ h_ => by unfold wrap64; omega); rw [← z_ _ (by omega)]; rfl)) ?_; (with_reducible refine (florinlaw02_head.calls k  true _ A3.out).mono ?_); rintro e w7 ⟨rfl, hb⟩; refine ⟨_, rfl, ?_⟩; have n0_ := bb_ BK382 hb; have n1_ := Aside0.mk (below_step (by repeat (first | (with_reducible first | exact HB.out | apply below_alloc | apply pw_below_drewN | apply below_drew1 | refine below_set ?_ GE382.out) | exact HB.out)) hb); clear BK382; clear HB; have BK382 := n0_; have HB := n1_; clear n0_ n1_; (try clear hb); (try clear hb2); (try clear hk); (try clear hi)))
  (try simp only [Act.put, List.setIfInBounds_toArray, List.set_cons_zero, List.set_cons_succ])
  go_cut [16] (fun v16 wc => ∃ (kq : Nat) (x16_4 : Bool), v16 = .bool x16_4 ∧ Aside0 (florinlaw02_DecForms.j0 kq a1 x16_4 a0_0 l0_1 a0_2 = some r) ∧ Aside0 (kq ≤ k) ∧ Aside0 (wc.heap[gb382]? = some (.cells #[.bool a0_0, (.slice A0_1 l0_1.length c0_1), .int .i64 a0_2] 33 (0, 0))) ∧ Aside0 (Below w.heap.size w wc))
  case first =>
   have H := HC5.out
   clear HC5
   replace H := Option.bind_eq_some_iff.mp H
   obtain ⟨t384, A80, H⟩ := H
   replace H : (if t384 = true then (florinlaw02_DecForms.j0 k a1 (decide ((a1.size : Int) > 60)) a0_0 l0_1 a0_2) else (florinlaw02_DecForms.j0 k a1 true a0_0 l0_1 a0_2)) = some r := H
   have A8 := Aside0.mk A80
   clear A80
   by_cases c9 : t384 = true
   ·subst c9
    have H1 : (florinlaw02_DecForms.j0 k a1 (decide ((a1.size : Int) > 60)) a0_0 l0_1 a0_2) = some r := by rw [if_pos rfl] at H; exact H
    clear H
    have H := H1
    clear H1
    have H' := Aside0.mk H
    clear H
    have hcz10_0 : w7.cell? ⟨gb382, 0, none⟩ = some (.bool a0_0) := (blk_cell BK382.out 0).trans rfl
    have hcz10_1 : w7.cell? ⟨gb382, 1, none⟩ = some (.slice A0_1 l0_1.length c0_1) := (blk_cell BK382.out 1).trans rfl
    have hcz10_2 : w7.cell? ⟨gb382, 2, none⟩ = some (.int .i64 a0_2) := (blk_cell BK382.out 2).trans rfl
    have hfz10_0 := blk_frozen BK382.out 0
    have hfz10_1 := blk_frozen BK382.out 1
    have hfz10_2 := blk_frozen BK382.out 2
    go_wp2_with (first | ((with_reducible refine gate_callee (f := 17) rfl ?_); refine goesL_ (some 10) rfl rfl Tryd.func17 (by kernel_rfl) rfl #[.agg #[.bool a0_0, .slice A0_1 l0_1.length c0_1, .int .i64 a0_2], .int .i64 60] rfl (by (try simp only [List.map_toArray, List.map_cons, List.map_nil]); first | done | rfl | (simp only [List.length_drop, List.length_take]; rfl) | (have z_ : ∀ s_ : ByteArray, s_.size ≤ 9223372036854775807 → -(s_.size : Int) = wrap64 (-(s_.size : Int)) := (fun s_ h_ => by unfold wrap64; omega); rw [← z_ _ (by omega)]; rfl)) ?_; (with_reducible refine (florinlaw02_Raw_Few.calls a0_0 _ _ l0_1 a0_2 60 true _ ?side1 ?side2 A8.out).mono ?_); (case side1 => repeat (first | exact (Kd.C_below HR0_1.out HB.out) | (with_reducible refine Kd.C_alloc ?_ _) | (with_reducible refine Kd.C_drewN ?_ _) | (with_reducible refine Kd.C_drew ?_))); (case side2 => exact HC0_1.out); rintro e w11 ⟨rfl, hb⟩; refine ⟨_, rfl, ?_⟩; have n0_ := bb_ BK382 hb; have n1_ := Aside0.mk (below_step (by repeat (first | (with_reducible first | exact HB.out | apply below_alloc | apply pw_below_drewN | apply below_drew1 | refine below_set ?_ GE382.out) | exact HB.out)) hb); clear BK382; clear HB; have BK382 := n0_; have HB := n1_; clear n0_ n1_; (try clear hb); (try clear hb2); (try clear hk); (try clear hi)))
    go_meet
    case rel => exact ⟨_, (decide ((a1.size : Int) > 60)), (by first | rfl | (simp; done) | (simp [*]; done) | (simp; first | exact given_isEmpty _ | exact (given_isEmpty _).symm) | (unfold wrap64; omega) | (congr 1; unfold wrap64; omega)), H', ⟨by first | omega | exact Nat.le_refl _⟩, ⟨by (with_reducible repeat (first | refine blk_drewN ?_ _ | refine blk_drew ?_ | refine blk_alloc ?_ _)); exact BK382.out⟩, ⟨by repeat (first | (with_reducible first | exact HB.out | apply below_alloc | apply pw_below_drewN | apply below_drew1 | refine below_set ?_ GE382.out) | exact HB.out)⟩⟩
   ·replace c9 := Bool.eq_false_iff.mpr c9
    subst c9
    have H1 : (florinlaw02_DecForms.j0 k a1 true a0_0 l0_1 a0_2) = some r := by rw [if_neg (show ¬ (false = true) by decide)] at H; exact H
    clear H
    have H := H1
    clear H1
    have H' := Aside0.mk H
    clear H
    have hcz12_0 : w7.cell? ⟨gb382, 0, none⟩ = some (.bool a0_0) := (blk_cell BK382.out 0).trans rfl
    have hcz12_1 : w7.cell? ⟨gb382, 1, none⟩ = some (.slice A0_1 l0_1.length c0_1) := (blk_cell BK382.out 1).trans rfl
    have hcz12_2 : w7.cell? ⟨gb382, 2, none⟩ = some (.int .i64 a0_2) := (blk_cell BK382.out 2).trans rfl
    have hfz12_0 := blk_frozen BK382.out 0
    have hfz12_1 := blk_frozen BK382.out 1
    have hfz12_2 := blk_frozen BK382.out 2
    go_wp2_with (first | ((with_reducible refine gate_callee (f := 17) rfl ?_); refine goesL_ (some 10) rfl rfl Tryd.func17 (by kernel_rfl) rfl #[.agg #[.bool a0_0, .slice A0_1 l0_1.length c0_1, .int .i64 a0_2], .int .i64 60] rfl (by (try simp only [List.map_toArray, List.map_cons, List.map_nil]); first | done | rfl | (simp only [List.length_drop, List.length_take]; rfl) | (have z_ : ∀ s_ : ByteArray, s_.size ≤ 9223372036854775807 → -(s_.size : Int) = wrap64 (-(s_.size : Int)) := (fun s_ h_ => by unfold wrap64; omega); rw [← z_ _ (by omega)]; rfl)) ?_; (with_reducible refine (florinlaw02_Raw_Few.calls a0_0 _ _ l0_1 a0_2 60 false _ ?side1 ?side2 A8.out).mono ?_); (case side1 => repeat (first | exact (Kd.C_below HR0_1.out HB.out) | (with_reducible refine Kd.C_alloc ?_ _) | (with_reducible refine Kd.C_drewN ?_ _) | (with_reducible refine Kd.C_drew ?_))); (case side2 => exact HC0_1.out); rintro e w13 ⟨rfl, hb⟩; refine ⟨_, rfl, ?_⟩; have n0_ := bb_ BK382 hb; have n1_ := Aside0.mk (below_step (by repeat (first | (with_reducible first | exact HB.out | apply below_alloc | apply pw_below_drewN | apply below_drew1 | refine below_set ?_ GE382.out) | exact HB.out)) hb); clear BK382; clear HB; have BK382 := n0_; have HB := n1_; clear n0_ n1_; (try clear hb); (try clear hb2); (try clear hk); (try clear hi)))
    go_meet
    case rel => exact ⟨_, (true), (by first | rfl | (simp; done) | (simp [*]; done) | (simp; first | exact given_isEmpty _ | exact (given_isEmpty _).symm) | (unfold wrap64; omega) | (congr 1; unfold wrap64; omega)), H', ⟨by first | omega | exact Nat.le_refl _⟩, ⟨by (with_reducible repeat (first | refine blk_drewN ?_ _ | refine blk_drew ?_ | refine blk_alloc ?_ _)); exact BK382.out⟩, ⟨by repeat (first | (with_reducible first | exact HB.out | apply below_alloc | apply pw_below_drewN | apply below_drew1 | refine below_set ?_ GE382.out) | exact HB.out)⟩⟩
  case rest =>
   clear HC5
   try clear c1
   try clear p2
   try clear c4
   try clear p6
   try clear c8
   try clear c9
   try clear c11
   try clear hcz10_0
   try clear hcz10_1
   try clear hcz10_2
   try clear hcz12_0
   try clear hcz12_1
   try clear hcz12_2
   try clear hfz10_0
   try clear hfz10_1
   try clear hfz10_2
   try clear hfz12_0
   try clear hfz12_1
   try clear hfz12_2
   obtain ⟨kq, x16_4, rfl, HA, HJ4, BK382, HB⟩ := hcut
   cases kq with
   | zero => exact absurd HA.out (by simp [florinlaw02_DecForms.j0])
   | succ kj4 =>
    have H := HA.out
    clear HA
    simp only [florinlaw02_DecForms.j0] at H
    by_cases c14 : x16_4 = true
    ·subst c14
     have H1 : (some true) = some r := by rw [if_pos rfl] at H; exact H
     clear H
     have H := H1
     clear H1
     obtain rfl := Option.some.inj H
     go_wp2
     go_ret
     exact ⟨by first | rfl | (simp [errW_none, errW_some] <;> rfl) | (simp [*, errW_none, errW_some] <;> first | rfl | exact given_isEmpty _ | exact (given_isEmpty _).symm), by repeat (first | (with_reducible first | exact HB.out | apply below_alloc | apply pw_below_drewN | apply below_drew1 | refine below_set ?_ GE382.out) | exact HB.out)⟩
    ·replace c14 := Bool.eq_false_iff.mpr c14
     subst c14
     have H1 : ((florinlaw02_Raw_Make.f kj4 a0_0 l0_1 a0_2).bind fun bt385 => ((dec_Dec_Norm.f kj4 bt385.1 bt385.2.1 bt385.2.2).bind fun bt389 => ((florinlaw02_normal.f kj4 bt389.1 bt389.2.1 bt389.2.2).bind fun t393 => (if t393 = true then ((dec_Made.f kj4 a0_0 bt385.2.1 a0_2).bind fun bt394 => (if (!(bt389.1 == bt394.1) || (!(bt389.2.1.toList == bt394.2.1.toList) || (!(bt389.2.2 == bt394.2.2)))) = true then (florinlaw02_DecForms.j1 kj4 a1 true a0_0 l0_1 a0_2 bt385.1 bt385.2.1 bt385.2.2 bt389.1 bt389.2.1 bt389.2.2) else ((dec_Dec_Norm.f kj4 bt389.1 bt389.2.1 bt389.2.2).bind fun bt397 => (if (!(bt397.1 == bt389.1) || (!(bt397.2.1.toList == bt389.2.1.toList) || (!(bt397.2.2 == bt389.2.2)))) = true then (florinlaw02_DecForms.j1 kj4 a1 true a0_0 l0_1 a0_2 bt385.1 bt385.2.1 bt385.2.2 bt389.1 bt389.2.1 bt389.2.2) else ((dec_Dec_Zero.f kj4 bt389.1 bt389.2.1 bt389.2.2).bind fun t400 => ((num_Trim.f kj4 bt385.2.1).bind fun t401 => (if (t400 != (t401.toList == ([] : List UInt8))) = true then (florinlaw02_DecForms.j1 kj4 a1 true a0_0 l0_1 a0_2 bt385.1 bt385.2.1 bt385.2.2 bt389.1 bt389.2.1 bt389.2.2) else ((dec_Dec_Zero.f kj4 bt385.1 bt385.2.1 bt385.2.2).bind fun t402 => ((dec_Dec_Zero.f kj4 bt389.1 bt389.2.1 bt389.2.2).bind fun t403 => (florinlaw02_DecForms.j1 kj4 a1 (t402 != t403) a0_0 l0_1 a0_2 bt385.1 bt385.2.1 bt385.2.2 bt389.1 bt389.2.1 bt389.2.2)))))))))) else (florinlaw02_DecForms.j1 kj4 a1 true a0_0 l0_1 a0_2 bt385.1 bt385.2.1 bt385.2.2 bt389.1 bt389.2.1 bt389.2.2))))) = some r := by rw [if_neg (show ¬ (false = true) by decide)] at H; exact H
     clear H
     have H := H1
     clear H1
     replace H := Option.bind_eq_some_iff.mp H
     obtain ⟨⟨t385, t386, t387⟩, A150, H⟩ := H
     replace H : ((dec_Dec_Norm.f kj4 t385 t386 t387).bind fun bt389 => ((florinlaw02_normal.f kj4 bt389.1 bt389.2.1 bt389.2.2).bind fun t393 => (if t393 = true then ((dec_Made.f kj4 a0_0 t386 a0_2).bind fun bt394 => (if (!(bt389.1 == bt394.1) || (!(bt389.2.1.toList == bt394.2.1.toList) || (!(bt389.2.2 == bt394.2.2)))) = true then (florinlaw02_DecForms.j1 kj4 a1 true a0_0 l0_1 a0_2 t385 t386 t387 bt389.1 bt389.2.1 bt389.2.2) else ((dec_Dec_Norm.f kj4 bt389.1 bt389.2.1 bt389.2.2).bind fun bt397 => (if (!(bt397.1 == bt389.1) || (!(bt397.2.1.toList == bt389.2.1.toList) || (!(bt397.2.2 == bt389.2.2)))) = true then (florinlaw02_DecForms.j1 kj4 a1 true a0_0 l0_1 a0_2 t385 t386 t387 bt389.1 bt389.2.1 bt389.2.2) else ((dec_Dec_Zero.f kj4 bt389.1 bt389.2.1 bt389.2.2).bind fun t400 => ((num_Trim.f kj4 t386).bind fun t401 => (if (t400 != (t401.toList == ([] : List UInt8))) = true then (florinlaw02_DecForms.j1 kj4 a1 true a0_0 l0_1 a0_2 t385 t386 t387 bt389.1 bt389.2.1 bt389.2.2) else ((dec_Dec_Zero.f kj4 t385 t386 t387).bind fun t402 => ((dec_Dec_Zero.f kj4 bt389.1 bt389.2.1 bt389.2.2).bind fun t403 => (florinlaw02_DecForms.j1 kj4 a1 (t402 != t403) a0_0 l0_1 a0_2 t385 t386 t387 bt389.1 bt389.2.1 bt389.2.2)))))))))) else (florinlaw02_DecForms.j1 kj4 a1 true a0_0 l0_1 a0_2 t385 t386 t387 bt389.1 bt389.2.1 bt389.2.2)))) = some r := H
     have A15 := Aside0.mk A150
     clear A150
     replace H := Option.bind_eq_some_iff.mp H
     obtain ⟨⟨t389, t390, t391⟩, A160, H⟩ := H
     replace H : ((florinlaw02_normal.f kj4 t389 t390 t391).bind fun t393 => (if t393 = true then ((dec_Made.f kj4 a0_0 t386 a0_2).bind fun bt394 => (if (!(t389 == bt394.1) || (!(t390.toList == bt394.2.1.toList) || (!(t391 == bt394.2.2)))) = true then (florinlaw02_DecForms.j1 kj4 a1 true a0_0 l0_1 a0_2 t385 t386 t387 t389 t390 t391) else ((dec_Dec_Norm.f kj4 t389 t390 t391).bind fun bt397 => (if (!(bt397.1 == t389) || (!(bt397.2.1.toList == t390.toList) || (!(bt397.2.2 == t391)))) = true then (florinlaw02_DecForms.j1 kj4 a1 true a0_0 l0_1 a0_2 t385 t386 t387 t389 t390 t391) else ((dec_Dec_Zero.f kj4 t389 t390 t391).bind fun t400 => ((num_Trim.f kj4 t386).bind fun t401 => (if (t400 != (t401.toList == ([] : List UInt8))) = true then (florinlaw02_DecForms.j1 kj4 a1 true a0_0 l0_1 a0_2 t385 t386 t387 t389 t390 t391) else ((dec_Dec_Zero.f kj4 t385 t386 t387).bind fun t402 => ((dec_Dec_Zero.f kj4 t389 t390 t391).bind fun t403 => (florinlaw02_DecForms.j1 kj4 a1 (t402 != t403) a0_0 l0_1 a0_2 t385 t386 t387 t389 t390 t391)))))))))) else (florinlaw02_DecForms.j1 kj4 a1 true a0_0 l0_1 a0_2 t385 t386 t387 t389 t390 t391))) = some r := H
     have A16 := Aside0.mk A160
     clear A160
     have HC17 := Aside0.mk H
     clear H
     have hcz18_0 : wc.cell? ⟨gb382, 0, none⟩ = some (.bool a0_0) := (blk_cell BK382.out 0).trans rfl
     have hcz18_1 : wc.cell? ⟨gb382, 1, none⟩ = some (.slice A0_1 l0_1.length c0_1) := (blk_cell BK382.out 1).trans rfl
     have hcz18_2 : wc.cell? ⟨gb382, 2, none⟩ = some (.int .i64 a0_2) := (blk_cell BK382.out 2).trans rfl
     have hfz18_0 := blk_frozen BK382.out 0
     have hfz18_1 := blk_frozen BK382.out 1
     have hfz18_2 := blk_frozen BK382.out 2
     go_upto_region 7 with (first | ((with_reducible refine gate_callee (f := 18) rfl ?_); refine goesL_ (some 18) rfl rfl Tryd.func18 (by kernel_rfl) rfl #[.agg #[.bool a0_0, .slice A0_1 l0_1.length c0_1, .int .i64 a0_2]] rfl (by (try simp only [List.map_toArray, List.map_cons, List.map_nil]); first | done | rfl | (simp only [List.length_drop, List.length_take]; rfl) | (have z_ : ∀ s_ : ByteArray, s_.size ≤ 9223372036854775807 → -(s_.size : Int) = wrap64 (-(s_.size : Int)) := (fun s_ h_ => by unfold wrap64; omega); rw [← z_ _ (by omega)]; rfl)) ?_; (with_reducible refine (florinlaw02_Raw_Make.calls kj4 a0_0 _ _ l0_1 a0_2 t385 t386 t387 _ ?side1 ?side2 A15.out).mono ?_); (case side1 => repeat (first | exact (Kd.C_below HR0_1.out HB.out) | (with_reducible refine Kd.C_alloc ?_ _) | (with_reducible refine Kd.C_drewN ?_ _) | (with_reducible refine Kd.C_drew ?_))); (case side2 => exact HC0_1.out); rintro e w19 ⟨rfl, hb⟩; refine ⟨_, rfl, ?_⟩; have n0_ := bb_ BK382 hb; have n1_ := Aside0.mk (below_step (by repeat (first | (with_reducible first | exact HB.out | apply below_alloc | apply pw_below_drewN | apply below_drew1 | refine below_set ?_ GE382.out) | exact HB.out)) hb); clear BK382; clear HB; have BK382 := n0_; have HB := n1_; clear n0_ n1_; (try clear hb); (try clear hb2); (try clear hk); (try clear hi)) | ((with_reducible refine gate_dst (N := 5) rfl ?_); (try (refine gate_guard (by rfl) ?_; dsimp only)); refine box_event ?hg (N := 5) ?hd (cs := #[.bool false, .string (⟨#[]⟩ : ByteArray), .int .i64 0]) (t := 24) ?hr ?_; (case hd => rfl); (case hg => rfl); (case hr => first | (go_simp; done) | (go_simp; rfl)); intro gb388 hg w20 hbox hb; have n0_ := bb_ BK382 hb; have n1_ := Aside0.mk (below_step (by repeat (first | (with_reducible first | exact HB.out | apply below_alloc | apply pw_below_drewN | apply below_drew1 | refine below_set ?_ GE382.out) | exact HB.out)) hb); have n2_ := Aside0.mk (hbox); have n3_ := Aside0.mk ((by rw [hg]; exact (below_size (by repeat (first | (with_reducible first | exact HB.out | apply below_alloc | apply pw_below_drewN | apply below_drew1 | refine below_set ?_ GE382.out) | exact HB.out))) : w.heap.size ≤ gb388)); have n4_ := Aside0.mk ((by rw [hg]; exact (below_size (by repeat (first | (with_reducible first | exact HB.out | apply below_alloc | apply pw_below_drewN | apply below_drew1 | refine below_set ?_ GE382.out) | exact HB.out))) : w.heap.size ≤ gb388)); have n5_ := Aside0.mk ((by rw [hg]; exact Nat.ne_of_lt (blk_lt (g := gb382) (o := .cells #[.bool a0_0, .slice A0_1 l0_1.length c0_1, .int .i64 a0_2] 33 (0, 0)) (by (with_reducible repeat (first | refine blk_drewN ?_ _ | refine blk_drew ?_ | refine blk_alloc ?_ _)); exact BK382.out)) : gb382 ≠ gb388)); have n6_ := Aside0.mk ((by rw [hg]; exact Nat.ne_of_gt (blk_lt (g := gb382) (o := .cells #[.bool a0_0, .slice A0_1 l0_1.length c0_1, .int .i64 a0_2] 33 (0, 0)) (by (with_reducible repeat (first | refine blk_drewN ?_ _ | refine blk_drew ?_ | refine blk_alloc ?_ _)); exact BK382.out)) : gb388 ≠ gb382)); clear BK382; clear HB; have BK382 := n0_; have HB := n1_; have BK388 := n2_; have GW388 := n3_; have GE388 := n4_; have NB382_388 := n5_; have NB388_382 := n6_; clear n0_ n1_ n2_ n3_ n4_ n5_ n6_; clear hb hbox hg; have hnb21 := NB388_382.out; have hnc21 := NB382_388.out; have hcz22_0 : w20.cell? ⟨gb388, 0, none⟩ = some (.bool false) := (blk_cell BK388.out 0).trans rfl; have hcz22_1 : w20.cell? ⟨gb388, 1, none⟩ = some (.string (⟨#[]⟩ : ByteArray)) := (blk_cell BK388.out 1).trans rfl; have hcz22_2 : w20.cell? ⟨gb388, 2, none⟩ = some (.int .i64 0) := (blk_cell BK388.out 2).trans rfl; have hfz22_0 := blk_frozen BK388.out 0; have hfz22_1 := blk_frozen BK388.out 1; have hfz22_2 := blk_frozen BK388.out 2) | ((with_reducible refine gate_callee (f := 19) rfl ?_); refine goesL_ (some 20) rfl rfl Tryd.func19 (by kernel_rfl) rfl #[.agg #[.bool t385, .string t386, .int .i64 t387]] rfl (by (try simp only [List.map_toArray, List.map_cons, List.map_nil]); first | done | rfl | (simp only [List.length_drop, List.length_take]; rfl) | (have z_ : ∀ s_ : ByteArray, s_.size ≤ 9223372036854775807 → -(s_.size : Int) = wrap64 (-(s_.size : Int)) := (fun s_ h_ => by unfold wrap64; omega); rw [← z_ _ (by omega)]; rfl)) ?_; (with_reducible refine (dec_Dec_Norm.calls kj4 t385 t386 t387 t389 t390 t391 _ A16.out).mono ?_); rintro e w23 ⟨rfl, hb⟩; refine ⟨_, rfl, ?_⟩; have n0_ := Aside0.mk (blk_below (g := gb382) (o := .cells #[.bool a0_0, .slice A0_1 l0_1.length c0_1, .int .i64 a0_2] 33 (0, 0)) (by (with_reducible repeat (first | refine blk_drewN ?_ _ | refine blk_drew ?_ | refine blk_alloc ?_ _)); refine blk_far ?_ NB382_388.out _; (with_reducible repeat (first | refine blk_drewN ?_ _ | refine blk_drew ?_ | refine blk_alloc ?_ _)); refine blk_far ?_ NB382_388.out _; (with_reducible repeat (first | refine blk_drewN ?_ _ | refine blk_drew ?_ | refine blk_alloc ?_ _)); refine blk_far ?_ NB382_388.out _; (with_reducible repeat (first | refine blk_drewN ?_ _ | refine blk_drew ?_ | refine blk_alloc ?_ _)); exact BK382.out) hb); have n1_ := Aside0.mk (blk_below (g := gb388) (o := .cells #[.bool t385, .string t386, .int .i64 t387] 24 (0, 0)) (by (with_reducible repeat (first | refine blk_drewN ?_ _ | refine blk_drew ?_ | refine blk_alloc ?_ _)); refine blk_put (cs := #[.bool t385, .string t386, .int .i64 0]) ?_ 2 _ rfl; (with_reducible repeat (first | refine blk_drewN ?_ _ | refine blk_drew ?_ | refine blk_alloc ?_ _)); refine blk_put (cs := #[.bool t385, .string (⟨#[]⟩ : ByteArray), .int .i64 0]) ?_ 1 _ rfl; (with_reducible repeat (first | refine blk_drewN ?_ _ | refine blk_drew ?_ | refine blk_alloc ?_ _)); refine blk_put (cs := #[.bool false, .string (⟨#[]⟩ : ByteArray), .int .i64 0]) ?_ 0 _ rfl; (with_reducible repeat (first | refine blk_drewN ?_ _ | refine blk_drew ?_ | refine blk_alloc ?_ _)); exact BK388.out) hb); have n2_ := Aside0.mk (below_step (by repeat (first | (with_reducible first | exact HB.out | apply below_alloc | apply pw_below_drewN | apply below_drew1 | refine below_set ?_ GE382.out | refine below_set ?_ GE388.out) | exact HB.out)) hb); clear BK382; clear BK388; clear HB; have BK382 := n0_; have BK388 := n1_; have HB := n2_; clear n0_ n1_ n2_; (try clear hb); (try clear hb2); (try clear hk); (try clear hi)) | ((with_reducible refine gate_dst (N := 6) rfl ?_); (try (refine gate_guard (by rfl) ?_; dsimp only)); refine box_event ?hg (N := 6) ?hd (cs := #[.bool false, .string (⟨#[]⟩ : ByteArray), .int .i64 0]) (t := 24) ?hr ?_; (case hd => rfl); (case hg => rfl); (case hr => first | (go_simp; done) | (go_simp; rfl)); intro gb392 hg w24 hbox hb; have n0_ := bb_ BK382 hb; have n1_ := bb_ BK388 hb; have n2_ := Aside0.mk (below_step (by repeat (first | (with_reducible first | exact HB.out | apply below_alloc | apply pw_below_drewN | apply below_drew1 | refine below_set ?_ GE382.out | refine below_set ?_ GE388.out) | exact HB.out)) hb); have n3_ := Aside0.mk (hbox); have n4_ := Aside0.mk ((by rw [hg]; exact (below_size (by repeat (first | (with_reducible first | exact HB.out | apply below_alloc | apply pw_below_drewN | apply below_drew1 | refine below_set ?_ GE382.out | refine below_set ?_ GE388.out) | exact HB.out))) : w.heap.size ≤ gb392)); have n5_ := Aside0.mk ((by rw [hg]; exact (below_size (by repeat (first | (with_reducible first | exact HB.out | apply below_alloc | apply pw_below_drewN | apply below_drew1 | refine below_set ?_ GE382.out | refine below_set ?_ GE388.out) | exact HB.out))) : w.heap.size ≤ gb392)); have n6_ := Aside0.mk ((by rw [hg]; exact Nat.ne_of_lt (blk_lt (g := gb382) (o := .cells #[.bool a0_0, .slice A0_1 l0_1.length c0_1, .int .i64 a0_2] 33 (0, 0)) (by (with_reducible repeat (first | refine blk_drewN ?_ _ | refine blk_drew ?_ | refine blk_alloc ?_ _)); exact BK382.out)) : gb382 ≠ gb392)); have n7_ := Aside0.mk ((by rw [hg]; exact Nat.ne_of_gt (blk_lt (g := gb382) (o := .cells #[.bool a0_0, .slice A0_1 l0_1.length c0_1, .int .i64 a0_2] 33 (0, 0)) (by (with_reducible repeat (first | refine blk_drewN ?_ _ | refine blk_drew ?_ | refine blk_alloc ?_ _)); exact BK382.out)) : gb392 ≠ gb382)); have n8_ := Aside0.mk ((by rw [hg]; exact Nat.ne_of_lt (blk_lt (g := gb388) (o := .cells #[.bool t385, .string t386, .int .i64 t387] 24 (0, 0)) (by (with_reducible repeat (first | refine blk_drewN ?_ _ | refine blk_drew ?_ | refine blk_alloc ?_ _)); exact BK388.out)) : gb388 ≠ gb392)); have n9_ := Aside0.mk ((by rw [hg]; exact Nat.ne_of_gt (blk_lt (g := gb388) (o := .cells #[.bool t385, .string t386, .int .i64 t387] 24 (0, 0)) (by (with_reducible repeat (first | refine blk_drewN ?_ _ | refine blk_drew ?_ | refine blk_alloc ?_ _)); exact BK388.out)) : gb392 ≠ gb388)); clear BK382; clear BK388; clear HB; have BK382 := n0_; have BK388 := n1_; have HB := n2_; have BK392 := n3_; have GW392 := n4_; have GE392 := n5_; have NB382_392 := n6_; have NB392_382 := n7_; have NB388_392 := n8_; have NB392_388 := n9_; clear n0_ n1_ n2_ n3_ n4_ n5_ n6_ n7_ n8_ n9_; clear hb hbox hg; have hnb25 := NB392_382.out; have hnc25 := NB382_392.out; have hnb26 := NB392_388.out; have hnc26 := NB388_392.out; have hcz27_0 : w24.cell? ⟨gb392, 0, none⟩ = some (.bool false) := (blk_cell BK392.out 0).trans rfl; have hcz27_1 : w24.cell? ⟨gb392, 1, none⟩ = some (.string (⟨#[]⟩ : ByteArray)) := (blk_cell BK392.out 1).trans rfl; have hcz27_2 : w24.cell? ⟨gb392, 2, none⟩ = some (.int .i64 0) := (blk_cell BK392.out 2).trans rfl; have hfz27_0 := blk_frozen BK392.out 0; have hfz27_1 := blk_frozen BK392.out 1; have hfz27_2 := blk_frozen BK392.out 2))
     (try simp only [Act.put, List.setIfInBounds_toArray, List.set_cons_zero, List.set_cons_succ])
     go_cut [56] (fun v56 wc => ∃ (kq : Nat) (x56_16 : Bool), v56 = .bool x56_16 ∧ Aside0 (florinlaw02_DecForms.j1 kq a1 x56_16 a0_0 l0_1 a0_2 t385 t386 t387 t389 t390 t391 = some r) ∧ Aside0 (kq ≤ kj4) ∧ Aside0 (wc.heap[gb382]? = some (.cells #[.bool a0_0, (.slice A0_1 l0_1.length c0_1), .int .i64 a0_2] 33 (0, 0))) ∧ Aside0 (wc.heap[gb388]? = some (.cells #[.bool t385, .string t386, .int .i64 t387] 24 (0, 0))) ∧ Aside0 (wc.heap[gb392]? = some (.cells #[.bool t389, .string t390, .int .i64 t391] 24 (0, 0))) ∧ Aside0 (Below w.heap.size w wc))
     case first =>
      have H := HC17.out
      clear HC17
      replace H := Option.bind_eq_some_iff.mp H
      obtain ⟨t393, A280, H⟩ := H
      replace H : (if t393 = true then ((dec_Made.f kj4 a0_0 t386 a0_2).bind fun bt394 => (if (!(t389 == bt394.1) || (!(t390.toList == bt394.2.1.toList) || (!(t391 == bt394.2.2)))) = true then (florinlaw02_DecForms.j1 kj4 a1 true a0_0 l0_1 a0_2 t385 t386 t387 t389 t390 t391) else ((dec_Dec_Norm.f kj4 t389 t390 t391).bind fun bt397 => (if (!(bt397.1 == t389) || (!(bt397.2.1.toList == t390.toList) || (!(bt397.2.2 == t391)))) = true then (florinlaw02_DecForms.j1 kj4 a1 true a0_0 l0_1 a0_2 t385 t386 t387 t389 t390 t391) else ((dec_Dec_Zero.f kj4 t389 t390 t391).bind fun t400 => ((num_Trim.f kj4 t386).bind fun t401 => (if (t400 != (t401.toList == ([] : List UInt8))) = true then (florinlaw02_DecForms.j1 kj4 a1 true a0_0 l0_1 a0_2 t385 t386 t387 t389 t390 t391) else ((dec_Dec_Zero.f kj4 t385 t386 t387).bind fun t402 => ((dec_Dec_Zero.f kj4 t389 t390 t391).bind fun t403 => (florinlaw02_DecForms.j1 kj4 a1 (t402 != t403) a0_0 l0_1 a0_2 t385 t386 t387 t389 t390 t391)))))))))) else (florinlaw02_DecForms.j1 kj4 a1 true a0_0 l0_1 a0_2 t385 t386 t387 t389 t390 t391)) = some r := H
      have A28 := Aside0.mk A280
      clear A280
      by_cases c29 : t393 = true
      ·subst c29
       have H1 : ((dec_Made.f kj4 a0_0 t386 a0_2).bind fun bt394 => (if (!(t389 == bt394.1) || (!(t390.toList == bt394.2.1.toList) || (!(t391 == bt394.2.2)))) = true then (florinlaw02_DecForms.j1 kj4 a1 true a0_0 l0_1 a0_2 t385 t386 t387 t389 t390 t391) else ((dec_Dec_Norm.f kj4 t389 t390 t391).bind fun bt397 => (if (!(bt397.1 == t389) || (!(bt397.2.1.toList == t390.toList) || (!(bt397.2.2 == t391)))) = true then (florinlaw02_DecForms.j1 kj4 a1 true a0_0 l0_1 a0_2 t385 t386 t387 t389 t390 t391) else ((dec_Dec_Zero.f kj4 t389 t390 t391).bind fun t400 => ((num_Trim.f kj4 t386).bind fun t401 => (if (t400 != (t401.toList == ([] : List UInt8))) = true then (florinlaw02_DecForms.j1 kj4 a1 true a0_0 l0_1 a0_2 t385 t386 t387 t389 t390 t391) else ((dec_Dec_Zero.f kj4 t385 t386 t387).bind fun t402 => ((dec_Dec_Zero.f kj4 t389 t390 t391).bind fun t403 => (florinlaw02_DecForms.j1 kj4 a1 (t402 != t403) a0_0 l0_1 a0_2 t385 t386 t387 t389 t390 t391)))))))))) = some r := by rw [if_pos rfl] at H; exact H
       clear H
       have H := H1
       clear H1
       replace H := Option.bind_eq_some_iff.mp H
       obtain ⟨⟨t394, t395, t396⟩, A300, H⟩ := H
       replace H : (if (!(t389 == t394) || (!(t390.toList == t395.toList) || (!(t391 == t396)))) = true then (florinlaw02_DecForms.j1 kj4 a1 true a0_0 l0_1 a0_2 t385 t386 t387 t389 t390 t391) else ((dec_Dec_Norm.f kj4 t389 t390 t391).bind fun bt397 => (if (!(bt397.1 == t389) || (!(bt397.2.1.toList == t390.toList) || (!(bt397.2.2 == t391)))) = true then (florinlaw02_DecForms.j1 kj4 a1 true a0_0 l0_1 a0_2 t385 t386 t387 t389 t390 t391) else ((dec_Dec_Zero.f kj4 t389 t390 t391).bind fun t400 => ((num_Trim.f kj4 t386).bind fun t401 => (if (t400 != (t401.toList == ([] : List UInt8))) = true then (florinlaw02_DecForms.j1 kj4 a1 true a0_0 l0_1 a0_2 t385 t386 t387 t389 t390 t391) else ((dec_Dec_Zero.f kj4 t385 t386 t387).bind fun t402 => ((dec_Dec_Zero.f kj4 t389 t390 t391).bind fun t403 => (florinlaw02_DecForms.j1 kj4 a1 (t402 != t403) a0_0 l0_1 a0_2 t385 t386 t387 t389 t390 t391))))))))) = some r := H
       have A30 := Aside0.mk A300
       clear A300
       by_cases c31 : (!(t389 == t394) || (!(t390.toList == t395.toList) || (!(t391 == t396)))) = true
       ·rw [if_pos c31] at H
        have c31b0 : (!(t389 == t394) || (!(t390.toList == t395.toList) || (!(t391 == t396)))) = true := c31
        clear c31
        (first | rw [c31b0] | (simp only [i64_w, i32_w]; rw [c31b0]) | skip)
        have H' := Aside0.mk H
        clear H
        try go_wp2
        have n0_ : Aside0 ((((w24.setCell ⟨gb392, 0, none⟩ (.bool t389)).setCell ⟨gb392, 1, none⟩ (.string t390)).setCell ⟨gb392, 2, none⟩ (.int .i64 t391)).heap[gb382]? = some (.cells #[.bool a0_0, .slice A0_1 l0_1.length c0_1, .int .i64 a0_2] 33 (0, 0))) := ⟨by (with_reducible repeat (first | refine blk_drewN ?_ _ | refine blk_drew ?_ | refine blk_alloc ?_ _)); refine blk_far ?_ NB382_392.out _; (with_reducible repeat (first | refine blk_drewN ?_ _ | refine blk_drew ?_ | refine blk_alloc ?_ _)); refine blk_far ?_ NB382_392.out _; (with_reducible repeat (first | refine blk_drewN ?_ _ | refine blk_drew ?_ | refine blk_alloc ?_ _)); refine blk_far ?_ NB382_392.out _; (with_reducible repeat (first | refine blk_drewN ?_ _ | refine blk_drew ?_ | refine blk_alloc ?_ _)); exact BK382.out⟩
        have n1_ : Aside0 ((((w24.setCell ⟨gb392, 0, none⟩ (.bool t389)).setCell ⟨gb392, 1, none⟩ (.string t390)).setCell ⟨gb392, 2, none⟩ (.int .i64 t391)).heap[gb388]? = some (.cells #[.bool t385, .string t386, .int .i64 t387] 24 (0, 0))) := ⟨by (with_reducible repeat (first | refine blk_drewN ?_ _ | refine blk_drew ?_ | refine blk_alloc ?_ _)); refine blk_far ?_ NB388_392.out _; (with_reducible repeat (first | refine blk_drewN ?_ _ | refine blk_drew ?_ | refine blk_alloc ?_ _)); refine blk_far ?_ NB388_392.out _; (with_reducible repeat (first | refine blk_drewN ?_ _ | refine blk_drew ?_ | refine blk_alloc ?_ _)); refine blk_far ?_ NB388_392.out _; (with_reducible repeat (first | refine blk_drewN ?_ _ | refine blk_drew ?_ | refine blk_alloc ?_ _)); exact BK388.out⟩
        have n2_ : Aside0 ((((w24.setCell ⟨gb392, 0, none⟩ (.bool t389)).setCell ⟨gb392, 1, none⟩ (.string t390)).setCell ⟨gb392, 2, none⟩ (.int .i64 t391)).heap[gb392]? = some (.cells #[.bool t389, .string t390, .int .i64 t391] 24 (0, 0))) := ⟨by (with_reducible repeat (first | refine blk_drewN ?_ _ | refine blk_drew ?_ | refine blk_alloc ?_ _)); refine blk_put (cs := #[.bool t389, .string t390, .int .i64 0]) ?_ 2 _ rfl; (with_reducible repeat (first | refine blk_drewN ?_ _ | refine blk_drew ?_ | refine blk_alloc ?_ _)); refine blk_put (cs := #[.bool t389, .string (⟨#[]⟩ : ByteArray), .int .i64 0]) ?_ 1 _ rfl; (with_reducible repeat (first | refine blk_drewN ?_ _ | refine blk_drew ?_ | refine blk_alloc ?_ _)); refine blk_put (cs := #[.bool false, .string (⟨#[]⟩ : ByteArray), .int .i64 0]) ?_ 0 _ rfl; (with_reducible repeat (first | refine blk_drewN ?_ _ | refine blk_drew ?_ | refine blk_alloc ?_ _)); exact BK392.out⟩
        have n3_ : Aside0 (Below w.heap.size w (((w24.setCell ⟨gb392, 0, none⟩ (.bool t389)).setCell ⟨gb392, 1, none⟩ (.string t390)).setCell ⟨gb392, 2, none⟩ (.int .i64 t391))) := ⟨by repeat (first | (with_reducible first | exact HB.out | apply below_alloc | apply pw_below_drewN | apply below_drew1 | refine below_set ?_ GE382.out | refine below_set ?_ GE388.out | refine below_set ?_ GE392.out) | exact HB.out)⟩
        (try clear BK382)
        (try clear BK388)
        (try clear BK392)
        (try clear HB)
        generalize (((w24.setCell ⟨gb392, 0, none⟩ (.bool t389)).setCell ⟨gb392, 1, none⟩ (.string t390)).setCell ⟨gb392, 2, none⟩ (.int .i64 t391)) = w32 at n0_ n1_ n2_ n3_ ⊢
        have BK382 := n0_
        have BK388 := n1_
        have BK392 := n2_
        have HB := n3_
        clear n0_ n1_ n2_ n3_
        have n0_ := Aside0.mk (blk_drew BK382.out)
        have n1_ := Aside0.mk (blk_drew BK388.out)
        have n2_ := Aside0.mk (blk_drew BK392.out)
        have n3_ := Aside0.mk (below_drew1 HB.out)
        clear BK382
        clear BK388
        clear BK392
        clear HB
        have BK382 := n0_
        have BK388 := n1_
        have BK392 := n2_
        have HB := n3_
        clear n0_ n1_ n2_ n3_
        refine start_ (n := 36) (S := fun w' => w'.cell? ⟨gb392, 0, none⟩ = some (.bool t389) ∧ w'.cell? ⟨gb392, 1, none⟩ = some (.string t390) ∧ w'.cell? ⟨gb392, 2, none⟩ = some (.int .i64 t391) ∧ w'.cell? ⟨gb382, 0, none⟩ = some (.bool a0_0) ∧ w'.cell? ⟨gb382, 1, none⟩ = some (.slice A0_1 l0_1.length c0_1) ∧ w'.cell? ⟨gb382, 2, none⟩ = some (.int .i64 a0_2) ∧ w'.cell? ⟨gb388, 0, none⟩ = some (.bool t385) ∧ w'.cell? ⟨gb388, 1, none⟩ = some (.string t386) ∧ w'.cell? ⟨gb388, 2, none⟩ = some (.int .i64 t387)) (ds := []) #[false, false, false, false, false, false, false, false, false, false, false, false, false, false, false, false, false, false, false, false, false, false, false, false, false, false, false, false, false, false, false, false, false, false, false, false] (by kernel_rfl) rfl rfl ⟨(blk_cell BK392.out 0).trans rfl, (blk_cell BK392.out 1).trans rfl, (blk_cell BK392.out 2).trans rfl, (blk_cell BK382.out 0).trans rfl, (blk_cell BK382.out 1).trans rfl, (blk_cell BK382.out 2).trans rfl, (blk_cell BK388.out 0).trans rfl, (blk_cell BK388.out 1).trans rfl, (blk_cell BK388.out 2).trans rfl⟩ (fun hHeld => ?_); refine with_tabW florinlaw02_DecForms.tab7 florinlaw02_DecForms.bits7 (fun HT_ HW_ => ?_)
        generalize w32.drew = w33 at BK382 BK388 BK392 HB hHeld ⊢
        refine take_ (i := 0) (N := some 21) (v := ?_) (a' := ?_) (bm_ 36 1) rfl rfl (take_ofW HT_.out HW_.out (by kernel_rfl)) (fun _ _ _ h => h) (Or.inl ⟨by rfl, ?_⟩) hHeld ?_ ?_
        rotate_left; ·rintro w' ⟨s0, s1, s2, s3, s4, s5, s6, s7, s8⟩; go_simp; with_reducible rfl
        rotate_left; ·simp only [Act.put, List.setIfInBounds_toArray, List.set_cons_zero, List.set_cons_succ, i64_w, i32_w]; rfl
        refine one_ (i := 1) (N := some 22) (bm_ 36 3) rfl rfl (one_of HT_.out (by kernel_rfl)) (by decide) (fun K hK => ?_)
        refine goes_ Tryd.func14 (by kernel_rfl) rfl #[.agg #[.bool t389, .string t390, .int .i64 t391]] (by rfl) rfl rfl (by (try simp only [List.map_toArray, List.map_cons, List.map_nil]); first | done | rfl | (simp only [List.length_drop, List.length_take]; rfl) | (have z_ : ∀ s_ : ByteArray, s_.size ≤ 9223372036854775807 → -(s_.size : Int) = wrap64 (-(s_.size : Int)) := (fun s_ h_ => by unfold wrap64; omega); rw [← z_ _ (by omega)]; rfl)) ?_
        with_reducible refine (florinlaw02_normal.calls kj4 t389 t390 t391 true _ A28.out).mono ?_
        rintro e w34 ⟨rfl, hb⟩
        refine ⟨_, rfl, ?_⟩
        have n0_ := bb_ BK382 hb
        have n1_ := bb_ BK388 hb
        have n2_ := bb_ BK392 hb
        have n3_ := Aside0.mk (below_step (by repeat (first | (with_reducible first | exact HB.out | apply below_alloc | apply pw_below_drewN | apply below_drew1 | refine below_set ?_ GE382.out | refine below_set ?_ GE388.out | refine below_set ?_ GE392.out) | exact HB.out)) hb)
        clear BK382
        clear BK388
        clear BK392
        clear HB
        have BK382 := n0_
        have BK388 := n1_
        have BK392 := n2_
        have HB := n3_
        clear n0_ n1_ n2_ n3_
        (try clear hb)
        (try clear hb2)
        (try clear hk)
        (try clear hi)
        refine hK.out _ _ ⟨(blk_cell BK392.out 0).trans rfl, (blk_cell BK392.out 1).trans rfl, (blk_cell BK392.out 2).trans rfl, (blk_cell BK382.out 0).trans rfl, (blk_cell BK382.out 1).trans rfl, (blk_cell BK382.out 2).trans rfl, (blk_cell BK388.out 0).trans rfl, (blk_cell BK388.out 1).trans rfl, (blk_cell BK388.out 2).trans rfl⟩ (fun hHeld => ?_)
        clear hK K
        refine norm_ (a' := ?_) ?_ ?_
        rotate_left
        ·show Act.put _ (some 22) _ = _
         simp only [Act.put, List.setIfInBounds_toArray, List.set_cons_zero, List.set_cons_succ, i64_w, i32_w]
         rfl
        refine pure_ (i := 2) (N := some 23) (v := ?_) (a' := ?_) (bm_ 36 7) rfl rfl (any_of HT_.out (by kernel_rfl)) (fun _ _ _ h => h) (Or.inl ⟨by rfl, ?_⟩) ?_ ?_
        rotate_left; ·intro w'; go_simp; with_reducible rfl
        rotate_left; ·simp only [Act.put, List.setIfInBounds_toArray, List.set_cons_zero, List.set_cons_succ, i64_w, i32_w]; rfl
        refine pure_ (i := 3) (N := some 24) (v := ?_) (a' := ?_) (bm_ 36 15) rfl rfl (any_of HT_.out (by kernel_rfl)) (fun _ _ _ h => h) (Or.inl ⟨by rfl, ?_⟩) ?_ ?_
        rotate_left; ·intro w'; go_simp; with_reducible rfl
        rotate_left; ·simp only [Act.put, List.setIfInBounds_toArray, List.set_cons_zero, List.set_cons_succ, i64_w, i32_w]; rfl
        refine pure_ (i := 5) (N := some 26) (v := ?_) (a' := ?_) (bm_ 36 47) rfl rfl (any_of HT_.out (by kernel_rfl)) (fun _ _ _ h => h) (Or.inl ⟨by rfl, ?_⟩) ?_ ?_
        rotate_left; ·intro w'; go_simp; with_reducible rfl
        rotate_left; ·simp only [Act.put, List.setIfInBounds_toArray, List.set_cons_zero, List.set_cons_succ, i64_w, i32_w]; rfl
        refine pure_ (i := 7) (N := some 28) (v := ?_) (a' := ?_) (bm_ 36 175) rfl rfl (any_of HT_.out (by kernel_rfl)) (fun _ _ _ h => h) (Or.inl ⟨by rfl, ?_⟩) ?_ ?_
        rotate_left; ·intro w'; go_simp; with_reducible rfl
        rotate_left; ·simp only [Act.put, List.setIfInBounds_toArray, List.set_cons_zero, List.set_cons_succ, i64_w, i32_w]; rfl
        refine pure_ (i := 9) (N := some 30) (v := ?_) (a' := ?_) (bm_ 36 687) rfl rfl (any_of HT_.out (by kernel_rfl)) (fun _ _ _ h => h) (Or.inl ⟨by rfl, ?_⟩) ?_ ?_
        rotate_left; ·intro w'; go_simp; with_reducible rfl
        rotate_left; ·simp only [Act.put, List.setIfInBounds_toArray, List.set_cons_zero, List.set_cons_succ, i64_w, i32_w]; rfl
        refine take_ (i := 4) (N := some 25) (v := ?_) (a' := ?_) (bm_ 36 703) rfl rfl (take_ofW HT_.out HW_.out (by kernel_rfl)) (fun _ _ _ h => h) (Or.inl ⟨by rfl, ?_⟩) hHeld ?_ ?_
        rotate_left; ·rintro w' ⟨s0, s1, s2, s3, s4, s5, s6, s7, s8⟩; go_simp; with_reducible rfl
        rotate_left; ·simp only [Act.put, List.setIfInBounds_toArray, List.set_cons_zero, List.set_cons_succ, i64_w, i32_w]; rfl
        refine take_ (i := 6) (N := some 27) (v := ?_) (a' := ?_) (bm_ 36 767) rfl rfl (take_ofW HT_.out HW_.out (by kernel_rfl)) (fun _ _ _ h => h) (Or.inl ⟨by rfl, ?_⟩) hHeld ?_ ?_
        rotate_left; ·rintro w' ⟨s0, s1, s2, s3, s4, s5, s6, s7, s8⟩; go_simp; with_reducible rfl
        rotate_left; ·simp only [Act.put, List.setIfInBounds_toArray, List.set_cons_zero, List.set_cons_succ, i64_w, i32_w]; rfl
        refine take_ (i := 8) (N := some 29) (v := ?_) (a' := ?_) (bm_ 36 1023) rfl rfl (take_ofW HT_.out HW_.out (by kernel_rfl)) (fun _ _ _ h => h) (Or.inl ⟨by rfl, ?_⟩) hHeld ?_ ?_
        rotate_left; ·rintro w' ⟨s0, s1, s2, s3, s4, s5, s6, s7, s8⟩; go_simp; with_reducible rfl
        rotate_left; ·simp only [Act.put, List.setIfInBounds_toArray, List.set_cons_zero, List.set_cons_succ, i64_w, i32_w]; rfl
        refine take_ (i := 10) (N := some 31) (v := ?_) (a' := ?_) (bm_ 36 2047) rfl rfl (take_ofW HT_.out HW_.out (by kernel_rfl)) (fun _ _ _ h => h) (Or.inl ⟨by rfl, ?_⟩) hHeld ?_ ?_
        rotate_left; ·rintro w' ⟨s0, s1, s2, s3, s4, s5, s6, s7, s8⟩; go_simp; with_reducible rfl
        rotate_left; ·simp only [Act.put, List.setIfInBounds_toArray, List.set_cons_zero, List.set_cons_succ, i64_w, i32_w]; rfl
        refine one_ (i := 11) (N := some 32) (bm_ 36 4095) rfl rfl (one_of HT_.out (by kernel_rfl)) (by decide) (fun K hK => ?_)
        refine goes_ Tryd.func22 (by kernel_rfl) rfl #[.bool a0_0, .string t386, .int .i64 a0_2] (by rfl) rfl rfl (by (try simp only [List.map_toArray, List.map_cons, List.map_nil]); first | done | rfl | (simp only [List.length_drop, List.length_take]; rfl) | (have z_ : ∀ s_ : ByteArray, s_.size ≤ 9223372036854775807 → -(s_.size : Int) = wrap64 (-(s_.size : Int)) := (fun s_ h_ => by unfold wrap64; omega); rw [← z_ _ (by omega)]; rfl)) ?_
        with_reducible refine (dec_Made.calls kj4 a0_0 t386 a0_2 t394 t395 t396 _ A30.out).mono ?_
        rintro e w35 ⟨rfl, hb⟩
        refine ⟨_, rfl, ?_⟩
        have n0_ := bb_ BK382 hb
        have n1_ := bb_ BK388 hb
        have n2_ := bb_ BK392 hb
        have n3_ := Aside0.mk (below_step (by repeat (first | (with_reducible first | exact HB.out | apply below_alloc | apply pw_below_drewN | apply below_drew1 | refine below_set ?_ GE382.out | refine below_set ?_ GE388.out | refine below_set ?_ GE392.out) | exact HB.out)) hb)
        clear BK382
        clear BK388
        clear BK392
        clear HB
        have BK382 := n0_
        have BK388 := n1_
        have BK392 := n2_
        have HB := n3_
        clear n0_ n1_ n2_ n3_
        (try clear hb)
        (try clear hb2)
        (try clear hk)
        (try clear hi)
        refine hK.out _ _ ⟨(blk_cell BK392.out 0).trans rfl, (blk_cell BK392.out 1).trans rfl, (blk_cell BK392.out 2).trans rfl, (blk_cell BK382.out 0).trans rfl, (blk_cell BK382.out 1).trans rfl, (blk_cell BK382.out 2).trans rfl, (blk_cell BK388.out 0).trans rfl, (blk_cell BK388.out 1).trans rfl, (blk_cell BK388.out 2).trans rfl⟩ (fun hHeld => ?_)
        clear hK K
        refine norm_ (a' := ?_) ?_ ?_
        rotate_left
        ·show Act.put _ (some 32) _ = _
         simp only [Act.put, List.setIfInBounds_toArray, List.set_cons_zero, List.set_cons_succ, i64_w, i32_w]
         rfl
        refine pure_ (i := 12) (N := some 33) (v := ?_) (a' := ?_) (bm_ 36 8191) rfl rfl (any_of HT_.out (by kernel_rfl)) (fun _ _ _ h => h) (Or.inl ⟨by rfl, ?_⟩) ?_ ?_
        rotate_left; ·intro w'; go_simp; with_reducible rfl
        rotate_left; ·simp only [Act.put, List.setIfInBounds_toArray, List.set_cons_zero, List.set_cons_succ, i64_w, i32_w]; rfl
        refine pure_ (i := 13) (N := some 34) (v := ?_) (a' := ?_) (bm_ 36 16383) rfl rfl (any_of HT_.out (by kernel_rfl)) (fun _ _ _ h => h) (Or.inl ⟨by rfl, ?_⟩) ?_ ?_
        rotate_left; ·intro w'; go_simp; with_reducible rfl
        rotate_left; ·simp only [Act.put, List.setIfInBounds_toArray, List.set_cons_zero, List.set_cons_succ, i64_w, i32_w]; rfl
        refine pure_ (i := 14) (N := some 35) (v := ?_) (a' := ?_) (bm_ 36 32767) rfl rfl (any_of HT_.out (by kernel_rfl)) (fun _ _ _ h => h) (Or.inl ⟨by rfl, ?_⟩) ?_ ?_
        rotate_left; ·intro w'; go_simp; with_reducible rfl
        rotate_left; ·simp only [Act.put, List.setIfInBounds_toArray, List.set_cons_zero, List.set_cons_succ, i64_w, i32_w]; rfl
        refine pure_ (i := 15) (N := some 36) (v := undef) (a' := ?_) (bm_ 36 65535) rfl rfl (any_of HT_.out (by kernel_rfl)) (fun _ _ _ h => h) (Or.inr ⟨by rfl, rfl⟩) ?_ ?_
        rotate_left; ·simp only [Act.put, List.setIfInBounds_toArray, List.set_cons_zero, List.set_cons_succ, i64_w, i32_w]; rfl
        refine pure_ (i := 16) (N := some 37) (v := undef) (a' := ?_) (bm_ 36 131071) rfl rfl (any_of HT_.out (by kernel_rfl)) (fun _ _ _ h => h) (Or.inr ⟨by rfl, rfl⟩) ?_ ?_
        rotate_left; ·simp only [Act.put, List.setIfInBounds_toArray, List.set_cons_zero, List.set_cons_succ, i64_w, i32_w]; rfl
        refine pure_ (i := 17) (N := some 38) (v := undef) (a' := ?_) (bm_ 36 262143) rfl rfl (any_of HT_.out (by kernel_rfl)) (fun _ _ _ h => h) (Or.inr ⟨by rfl, rfl⟩) ?_ ?_
        rotate_left; ·simp only [Act.put, List.setIfInBounds_toArray, List.set_cons_zero, List.set_cons_succ, i64_w, i32_w]; rfl
        refine pure_ (i := 18) (N := some 39) (v := undef) (a' := ?_) (bm_ 36 524287) rfl rfl (any_of HT_.out (by kernel_rfl)) (fun _ _ _ h => h) (Or.inr ⟨by rfl, rfl⟩) ?_ ?_
        rotate_left; ·simp only [Act.put, List.setIfInBounds_toArray, List.set_cons_zero, List.set_cons_succ, i64_w, i32_w]; rfl
        refine pure_ (i := 19) (N := some 40) (v := ?_) (a' := ?_) (bm_ 36 1048575) rfl rfl (any_of HT_.out (by kernel_rfl)) (fun _ _ _ h => h) (Or.inl ⟨by rfl, ?_⟩) ?_ ?_
        rotate_left; ·intro w'; go_simp; with_reducible rfl
        rotate_left; ·simp only [Act.put, List.setIfInBounds_toArray, List.set_cons_zero, List.set_cons_succ, i64_w, i32_w]; rfl
        refine pure_ (i := 20) (N := some 41) (v := ?_) (a' := ?_) (bm_ 36 2097151) rfl rfl (any_of HT_.out (by kernel_rfl)) (fun _ _ _ h => h) (Or.inl ⟨by rfl, ?_⟩) ?_ ?_
        rotate_left; ·intro w'; go_simp; with_reducible rfl
        rotate_left; ·simp only [Act.put, List.setIfInBounds_toArray, List.set_cons_zero, List.set_cons_succ, i64_w, i32_w]; rfl
        refine pure_ (i := 21) (N := some 42) (v := undef) (a' := ?_) (bm_ 36 4194303) rfl rfl (any_of HT_.out (by kernel_rfl)) (fun _ _ _ h => h) (Or.inr ⟨by rfl, rfl⟩) ?_ ?_
        rotate_left; ·simp only [Act.put, List.setIfInBounds_toArray, List.set_cons_zero, List.set_cons_succ, i64_w, i32_w]; rfl
        refine pure_ (i := 22) (N := some 43) (v := undef) (a' := ?_) (bm_ 36 8388607) rfl rfl (any_of HT_.out (by kernel_rfl)) (fun _ _ _ h => h) (Or.inr ⟨by rfl, rfl⟩) ?_ ?_
        rotate_left; ·simp only [Act.put, List.setIfInBounds_toArray, List.set_cons_zero, List.set_cons_succ, i64_w, i32_w]; rfl
        refine pure_ (i := 23) (N := some 44) (v := undef) (a' := ?_) (bm_ 36 16777215) rfl rfl (any_of HT_.out (by kernel_rfl)) (fun _ _ _ h => h) (Or.inr ⟨by rfl, rfl⟩) ?_ ?_
        rotate_left; ·simp only [Act.put, List.setIfInBounds_toArray, List.set_cons_zero, List.set_cons_succ, i64_w, i32_w]; rfl
        refine pure_ (i := 24) (N := some 45) (v := undef) (a' := ?_) (bm_ 36 33554431) rfl rfl (any_of HT_.out (by kernel_rfl)) (fun _ _ _ h => h) (Or.inr ⟨by rfl, rfl⟩) ?_ ?_
        rotate_left; ·simp only [Act.put, List.setIfInBounds_toArray, List.set_cons_zero, List.set_cons_succ, i64_w, i32_w]; rfl
        refine pure_ (i := 25) (N := some 46) (v := undef) (a' := ?_) (bm_ 36 67108863) rfl rfl (any_of HT_.out (by kernel_rfl)) (fun _ _ _ h => h) (Or.inr ⟨by rfl, rfl⟩) ?_ ?_
        rotate_left; ·simp only [Act.put, List.setIfInBounds_toArray, List.set_cons_zero, List.set_cons_succ, i64_w, i32_w]; rfl
        refine pure_ (i := 26) (N := some 47) (v := undef) (a' := ?_) (bm_ 36 134217727) rfl rfl (any_of HT_.out (by kernel_rfl)) (fun _ _ _ h => h) (Or.inr ⟨by rfl, rfl⟩) ?_ ?_
        rotate_left; ·simp only [Act.put, List.setIfInBounds_toArray, List.set_cons_zero, List.set_cons_succ, i64_w, i32_w]; rfl
        refine pure_ (i := 27) (N := some 48) (v := undef) (a' := ?_) (bm_ 36 268435455) rfl rfl (any_of HT_.out (by kernel_rfl)) (fun _ _ _ h => h) (Or.inr ⟨by rfl, rfl⟩) ?_ ?_
        rotate_left; ·simp only [Act.put, List.setIfInBounds_toArray, List.set_cons_zero, List.set_cons_succ, i64_w, i32_w]; rfl
        refine pure_ (i := 28) (N := some 49) (v := ?_) (a' := ?_) (bm_ 36 536870911) rfl rfl (any_of HT_.out (by kernel_rfl)) (fun _ _ _ h => h) (Or.inl ⟨by rfl, ?_⟩) ?_ ?_
        rotate_left; ·intro w'; go_simp; with_reducible rfl
        rotate_left; ·simp only [Act.put, List.setIfInBounds_toArray, List.set_cons_zero, List.set_cons_succ, i64_w, i32_w]; rfl
        refine pure_ (i := 29) (N := some 50) (v := ?_) (a' := ?_) (bm_ 36 1073741823) rfl rfl (any_of HT_.out (by kernel_rfl)) (fun _ _ _ h => h) (Or.inl ⟨by rfl, ?_⟩) ?_ ?_
        rotate_left; ·intro w'; go_simp; with_reducible rfl
        rotate_left; ·simp only [Act.put, List.setIfInBounds_toArray, List.set_cons_zero, List.set_cons_succ, i64_w, i32_w]; rfl
        refine pure_ (i := 30) (N := some 51) (v := undef) (a' := ?_) (bm_ 36 2147483647) rfl rfl (any_of HT_.out (by kernel_rfl)) (fun _ _ _ h => h) (Or.inr ⟨by rfl, rfl⟩) ?_ ?_
        rotate_left; ·simp only [Act.put, List.setIfInBounds_toArray, List.set_cons_zero, List.set_cons_succ, i64_w, i32_w]; rfl
        refine pure_ (i := 31) (N := some 52) (v := undef) (a' := ?_) (bm_ 36 4294967295) rfl rfl (any_of HT_.out (by kernel_rfl)) (fun _ _ _ h => h) (Or.inr ⟨by rfl, rfl⟩) ?_ ?_
        rotate_left; ·simp only [Act.put, List.setIfInBounds_toArray, List.set_cons_zero, List.set_cons_succ, i64_w, i32_w]; rfl
        refine pure_ (i := 32) (N := some 53) (v := undef) (a' := ?_) (bm_ 36 8589934591) rfl rfl (any_of HT_.out (by kernel_rfl)) (fun _ _ _ h => h) (Or.inr ⟨by rfl, rfl⟩) ?_ ?_
        rotate_left; ·simp only [Act.put, List.setIfInBounds_toArray, List.set_cons_zero, List.set_cons_succ, i64_w, i32_w]; rfl
        refine pure_ (i := 33) (N := some 54) (v := undef) (a' := ?_) (bm_ 36 17179869183) rfl rfl (any_of HT_.out (by kernel_rfl)) (fun _ _ _ h => h) (Or.inr ⟨by rfl, rfl⟩) ?_ ?_
        rotate_left; ·simp only [Act.put, List.setIfInBounds_toArray, List.set_cons_zero, List.set_cons_succ, i64_w, i32_w]; rfl
        refine pure_ (i := 34) (N := some 55) (v := undef) (a' := ?_) (bm_ 36 34359738367) rfl rfl (any_of HT_.out (by kernel_rfl)) (fun _ _ _ h => h) (Or.inr ⟨by rfl, rfl⟩) ?_ ?_
        rotate_left; ·simp only [Act.put, List.setIfInBounds_toArray, List.set_cons_zero, List.set_cons_succ, i64_w, i32_w]; rfl
        refine pure_ (i := 35) (N := some 56) (v := ?_) (a' := ?_) (bm_ 36 68719476735) rfl rfl (any_of HT_.out (by kernel_rfl)) (fun _ _ _ h => h) (Or.inl ⟨by rfl, ?_⟩) ?_ ?_
        rotate_left; ·intro w'; go_simp; with_reducible rfl
        rotate_left; ·simp only [Act.put, List.setIfInBounds_toArray, List.set_cons_zero, List.set_cons_succ, i64_w, i32_w]; rfl
        refine done_ (done_of HT_.out (by kernel_rfl)) ?_
        try go_wp2
        go_meet
        case rel => exact ⟨_, (true), (by first | rfl | (simp; done) | (simp [*]; done) | (simp; first | exact given_isEmpty _ | exact (given_isEmpty _).symm) | (unfold wrap64; omega) | (congr 1; unfold wrap64; omega)), H', ⟨by have := HJ4.out; first | omega | exact Nat.le_refl _⟩, ⟨by (with_reducible repeat (first | refine blk_drewN ?_ _ | refine blk_drew ?_ | refine blk_alloc ?_ _)); exact BK382.out⟩, ⟨by (with_reducible repeat (first | refine blk_drewN ?_ _ | refine blk_drew ?_ | refine blk_alloc ?_ _)); exact BK388.out⟩, ⟨by (with_reducible repeat (first | refine blk_drewN ?_ _ | refine blk_drew ?_ | refine blk_alloc ?_ _)); exact BK392.out⟩, ⟨by repeat (first | (with_reducible first | exact HB.out | apply below_alloc | apply pw_below_drewN | apply below_drew1 | refine below_set ?_ GE382.out | refine below_set ?_ GE388.out | refine below_set ?_ GE392.out) | exact HB.out)⟩⟩
       ·rw [if_neg c31] at H
        have c31b0 : (!(t389 == t394) || (!(t390.toList == t395.toList) || (!(t391 == t396)))) = false := by simpa using c31
        clear c31
        (first | rw [c31b0] | (simp only [i64_w, i32_w]; rw [c31b0]) | skip)
        replace H := Option.bind_eq_some_iff.mp H
        obtain ⟨⟨t397, t398, t399⟩, A360, H⟩ := H
        replace H : (if (!(t397 == t389) || (!(t398.toList == t390.toList) || (!(t399 == t391)))) = true then (florinlaw02_DecForms.j1 kj4 a1 true a0_0 l0_1 a0_2 t385 t386 t387 t389 t390 t391) else ((dec_Dec_Zero.f kj4 t389 t390 t391).bind fun t400 => ((num_Trim.f kj4 t386).bind fun t401 => (if (t400 != (t401.toList == ([] : List UInt8))) = true then (florinlaw02_DecForms.j1 kj4 a1 true a0_0 l0_1 a0_2 t385 t386 t387 t389 t390 t391) else ((dec_Dec_Zero.f kj4 t385 t386 t387).bind fun t402 => ((dec_Dec_Zero.f kj4 t389 t390 t391).bind fun t403 => (florinlaw02_DecForms.j1 kj4 a1 (t402 != t403) a0_0 l0_1 a0_2 t385 t386 t387 t389 t390 t391))))))) = some r := H
        have A36 := Aside0.mk A360
        clear A360
        by_cases c37 : (!(t397 == t389) || (!(t398.toList == t390.toList) || (!(t399 == t391)))) = true
        ·rw [if_pos c37] at H
         have c37b0 : (!(t397 == t389) || (!(t398.toList == t390.toList) || (!(t399 == t391)))) = true := c37
         clear c37
         have H' := Aside0.mk H
         clear H
         try go_wp2
         have n0_ : Aside0 ((((w24.setCell ⟨gb392, 0, none⟩ (.bool t389)).setCell ⟨gb392, 1, none⟩ (.string t390)).setCell ⟨gb392, 2, none⟩ (.int .i64 t391)).heap[gb382]? = some (.cells #[.bool a0_0, .slice A0_1 l0_1.length c0_1, .int .i64 a0_2] 33 (0, 0))) := ⟨by (with_reducible repeat (first | refine blk_drewN ?_ _ | refine blk_drew ?_ | refine blk_alloc ?_ _)); refine blk_far ?_ NB382_392.out _; (with_reducible repeat (first | refine blk_drewN ?_ _ | refine blk_drew ?_ | refine blk_alloc ?_ _)); refine blk_far ?_ NB382_392.out _; (with_reducible repeat (first | refine blk_drewN ?_ _ | refine blk_drew ?_ | refine blk_alloc ?_ _)); refine blk_far ?_ NB382_392.out _; (with_reducible repeat (first | refine blk_drewN ?_ _ | refine blk_drew ?_ | refine blk_alloc ?_ _)); exact BK382.out⟩
         have n1_ : Aside0 ((((w24.setCell ⟨gb392, 0, none⟩ (.bool t389)).setCell ⟨gb392, 1, none⟩ (.string t390)).setCell ⟨gb392, 2, none⟩ (.int .i64 t391)).heap[gb388]? = some (.cells #[.bool t385, .string t386, .int .i64 t387] 24 (0, 0))) := ⟨by (with_reducible repeat (first | refine blk_drewN ?_ _ | refine blk_drew ?_ | refine blk_alloc ?_ _)); refine blk_far ?_ NB388_392.out _; (with_reducible repeat (first | refine blk_drewN ?_ _ | refine blk_drew ?_ | refine blk_alloc ?_ _)); refine blk_far ?_ NB388_392.out _; (with_reducible repeat (first | refine blk_drewN ?_ _ | refine blk_drew ?_ | refine blk_alloc ?_ _)); refine blk_far ?_ NB388_392.out _; (with_reducible repeat (first | refine blk_drewN ?_ _ | refine blk_drew ?_ | refine blk_alloc ?_ _)); exact BK388.out⟩
         have n2_ : Aside0 ((((w24.setCell ⟨gb392, 0, none⟩ (.bool t389)).setCell ⟨gb392, 1, none⟩ (.string t390)).setCell ⟨gb392, 2, none⟩ (.int .i64 t391)).heap[gb392]? = some (.cells #[.bool t389, .string t390, .int .i64 t391] 24 (0, 0))) := ⟨by (with_reducible repeat (first | refine blk_drewN ?_ _ | refine blk_drew ?_ | refine blk_alloc ?_ _)); refine blk_put (cs := #[.bool t389, .string t390, .int .i64 0]) ?_ 2 _ rfl; (with_reducible repeat (first | refine blk_drewN ?_ _ | refine blk_drew ?_ | refine blk_alloc ?_ _)); refine blk_put (cs := #[.bool t389, .string (⟨#[]⟩ : ByteArray), .int .i64 0]) ?_ 1 _ rfl; (with_reducible repeat (first | refine blk_drewN ?_ _ | refine blk_drew ?_ | refine blk_alloc ?_ _)); refine blk_put (cs := #[.bool false, .string (⟨#[]⟩ : ByteArray), .int .i64 0]) ?_ 0 _ rfl; (with_reducible repeat (first | refine blk_drewN ?_ _ | refine blk_drew ?_ | refine blk_alloc ?_ _)); exact BK392.out⟩
         have n3_ : Aside0 (Below w.heap.size w (((w24.setCell ⟨gb392, 0, none⟩ (.bool t389)).setCell ⟨gb392, 1, none⟩ (.string t390)).setCell ⟨gb392, 2, none⟩ (.int .i64 t391))) := ⟨by repeat (first | (with_reducible first | exact HB.out | apply below_alloc | apply pw_below_drewN | apply below_drew1 | refine below_set ?_ GE382.out | refine below_set ?_ GE388.out | refine below_set ?_ GE392.out) | exact HB.out)⟩
         (try clear BK382)
         (try clear BK388)
         (try clear BK392)
         (try clear HB)
         generalize (((w24.setCell ⟨gb392, 0, none⟩ (.bool t389)).setCell ⟨gb392, 1, none⟩ (.string t390)).setCell ⟨gb392, 2, none⟩ (.int .i64 t391)) = w38 at n0_ n1_ n2_ n3_ ⊢
         have BK382 := n0_
         have BK388 := n1_
         have BK392 := n2_
         have HB := n3_
         clear n0_ n1_ n2_ n3_
         have n0_ := Aside0.mk (blk_drew BK382.out)
         have n1_ := Aside0.mk (blk_drew BK388.out)
         have n2_ := Aside0.mk (blk_drew BK392.out)
         have n3_ := Aside0.mk (below_drew1 HB.out)
         clear BK382
         clear BK388
         clear BK392
         clear HB
         have BK382 := n0_
         have BK388 := n1_
         have BK392 := n2_
         have HB := n3_
         clear n0_ n1_ n2_ n3_
         refine start_ (n := 36) (S := fun w' => w'.cell? ⟨gb392, 0, none⟩ = some (.bool t389) ∧ w'.cell? ⟨gb392, 1, none⟩ = some (.string t390) ∧ w'.cell? ⟨gb392, 2, none⟩ = some (.int .i64 t391) ∧ w'.cell? ⟨gb382, 0, none⟩ = some (.bool a0_0) ∧ w'.cell? ⟨gb382, 1, none⟩ = some (.slice A0_1 l0_1.length c0_1) ∧ w'.cell? ⟨gb382, 2, none⟩ = some (.int .i64 a0_2) ∧ w'.cell? ⟨gb388, 0, none⟩ = some (.bool t385) ∧ w'.cell? ⟨gb388, 1, none⟩ = some (.string t386) ∧ w'.cell? ⟨gb388, 2, none⟩ = some (.int .i64 t387)) (ds := []) #[false, false, false, false, false, false, false, false, false, false, false, false, false, false, false, false, false, false, false, false, false, false, false, false, false, false, false, false, false, false, false, false, false, false, false, false] (by kernel_rfl) rfl rfl ⟨(blk_cell BK392.out 0).trans rfl, (blk_cell BK392.out 1).trans rfl, (blk_cell BK392.out 2).trans rfl, (blk_cell BK382.out 0).trans rfl, (blk_cell BK382.out 1).trans rfl, (blk_cell BK382.out 2).trans rfl, (blk_cell BK388.out 0).trans rfl, (blk_cell BK388.out 1).trans rfl, (blk_cell BK388.out 2).trans rfl⟩ (fun hHeld => ?_); refine with_tabW florinlaw02_DecForms.tab7 florinlaw02_DecForms.bits7 (fun HT_ HW_ => ?_)
         generalize w38.drew = w39 at BK382 BK388 BK392 HB hHeld ⊢
         refine take_ (i := 0) (N := some 21) (v := ?_) (a' := ?_) (bm_ 36 1) rfl rfl (take_ofW HT_.out HW_.out (by kernel_rfl)) (fun _ _ _ h => h) (Or.inl ⟨by rfl, ?_⟩) hHeld ?_ ?_
         rotate_left; ·rintro w' ⟨s0, s1, s2, s3, s4, s5, s6, s7, s8⟩; go_simp; with_reducible rfl
         rotate_left; ·simp only [Act.put, List.setIfInBounds_toArray, List.set_cons_zero, List.set_cons_succ, i64_w, i32_w]; rfl
         refine one_ (i := 1) (N := some 22) (bm_ 36 3) rfl rfl (one_of HT_.out (by kernel_rfl)) (by decide) (fun K hK => ?_)
         refine goes_ Tryd.func14 (by kernel_rfl) rfl #[.agg #[.bool t389, .string t390, .int .i64 t391]] (by rfl) rfl rfl (by (try simp only [List.map_toArray, List.map_cons, List.map_nil]); first | done | rfl | (simp only [List.length_drop, List.length_take]; rfl) | (have z_ : ∀ s_ : ByteArray, s_.size ≤ 9223372036854775807 → -(s_.size : Int) = wrap64 (-(s_.size : Int)) := (fun s_ h_ => by unfold wrap64; omega); rw [← z_ _ (by omega)]; rfl)) ?_
         with_reducible refine (florinlaw02_normal.calls kj4 t389 t390 t391 true _ A28.out).mono ?_
         rintro e w40 ⟨rfl, hb⟩
         refine ⟨_, rfl, ?_⟩
         have n0_ := bb_ BK382 hb
         have n1_ := bb_ BK388 hb
         have n2_ := bb_ BK392 hb
         have n3_ := Aside0.mk (below_step (by repeat (first | (with_reducible first | exact HB.out | apply below_alloc | apply pw_below_drewN | apply below_drew1 | refine below_set ?_ GE382.out | refine below_set ?_ GE388.out | refine below_set ?_ GE392.out) | exact HB.out)) hb)
         clear BK382
         clear BK388
         clear BK392
         clear HB
         have BK382 := n0_
         have BK388 := n1_
         have BK392 := n2_
         have HB := n3_
         clear n0_ n1_ n2_ n3_
         (try clear hb)
         (try clear hb2)
         (try clear hk)
         (try clear hi)
         refine hK.out _ _ ⟨(blk_cell BK392.out 0).trans rfl, (blk_cell BK392.out 1).trans rfl, (blk_cell BK392.out 2).trans rfl, (blk_cell BK382.out 0).trans rfl, (blk_cell BK382.out 1).trans rfl, (blk_cell BK382.out 2).trans rfl, (blk_cell BK388.out 0).trans rfl, (blk_cell BK388.out 1).trans rfl, (blk_cell BK388.out 2).trans rfl⟩ (fun hHeld => ?_)
         clear hK K
         refine norm_ (a' := ?_) ?_ ?_
         rotate_left
         ·show Act.put _ (some 22) _ = _
          simp only [Act.put, List.setIfInBounds_toArray, List.set_cons_zero, List.set_cons_succ, i64_w, i32_w]
          rfl
         refine pure_ (i := 2) (N := some 23) (v := ?_) (a' := ?_) (bm_ 36 7) rfl rfl (any_of HT_.out (by kernel_rfl)) (fun _ _ _ h => h) (Or.inl ⟨by rfl, ?_⟩) ?_ ?_
         rotate_left; ·intro w'; go_simp; with_reducible rfl
         rotate_left; ·simp only [Act.put, List.setIfInBounds_toArray, List.set_cons_zero, List.set_cons_succ, i64_w, i32_w]; rfl
         refine pure_ (i := 3) (N := some 24) (v := ?_) (a' := ?_) (bm_ 36 15) rfl rfl (any_of HT_.out (by kernel_rfl)) (fun _ _ _ h => h) (Or.inl ⟨by rfl, ?_⟩) ?_ ?_
         rotate_left; ·intro w'; go_simp; with_reducible rfl
         rotate_left; ·simp only [Act.put, List.setIfInBounds_toArray, List.set_cons_zero, List.set_cons_succ, i64_w, i32_w]; rfl
         refine pure_ (i := 5) (N := some 26) (v := ?_) (a' := ?_) (bm_ 36 47) rfl rfl (any_of HT_.out (by kernel_rfl)) (fun _ _ _ h => h) (Or.inl ⟨by rfl, ?_⟩) ?_ ?_
         rotate_left; ·intro w'; go_simp; with_reducible rfl
         rotate_left; ·simp only [Act.put, List.setIfInBounds_toArray, List.set_cons_zero, List.set_cons_succ, i64_w, i32_w]; rfl
         refine pure_ (i := 7) (N := some 28) (v := ?_) (a' := ?_) (bm_ 36 175) rfl rfl (any_of HT_.out (by kernel_rfl)) (fun _ _ _ h => h) (Or.inl ⟨by rfl, ?_⟩) ?_ ?_
         rotate_left; ·intro w'; go_simp; with_reducible rfl
         rotate_left; ·simp only [Act.put, List.setIfInBounds_toArray, List.set_cons_zero, List.set_cons_succ, i64_w, i32_w]; rfl
         refine pure_ (i := 9) (N := some 30) (v := ?_) (a' := ?_) (bm_ 36 687) rfl rfl (any_of HT_.out (by kernel_rfl)) (fun _ _ _ h => h) (Or.inl ⟨by rfl, ?_⟩) ?_ ?_
         rotate_left; ·intro w'; go_simp; with_reducible rfl
         rotate_left; ·simp only [Act.put, List.setIfInBounds_toArray, List.set_cons_zero, List.set_cons_succ, i64_w, i32_w]; rfl
         refine take_ (i := 4) (N := some 25) (v := ?_) (a' := ?_) (bm_ 36 703) rfl rfl (take_ofW HT_.out HW_.out (by kernel_rfl)) (fun _ _ _ h => h) (Or.inl ⟨by rfl, ?_⟩) hHeld ?_ ?_
         rotate_left; ·rintro w' ⟨s0, s1, s2, s3, s4, s5, s6, s7, s8⟩; go_simp; with_reducible rfl
         rotate_left; ·simp only [Act.put, List.setIfInBounds_toArray, List.set_cons_zero, List.set_cons_succ, i64_w, i32_w]; rfl
         refine take_ (i := 6) (N := some 27) (v := ?_) (a' := ?_) (bm_ 36 767) rfl rfl (take_ofW HT_.out HW_.out (by kernel_rfl)) (fun _ _ _ h => h) (Or.inl ⟨by rfl, ?_⟩) hHeld ?_ ?_
         rotate_left; ·rintro w' ⟨s0, s1, s2, s3, s4, s5, s6, s7, s8⟩; go_simp; with_reducible rfl
         rotate_left; ·simp only [Act.put, List.setIfInBounds_toArray, List.set_cons_zero, List.set_cons_succ, i64_w, i32_w]; rfl
         refine take_ (i := 8) (N := some 29) (v := ?_) (a' := ?_) (bm_ 36 1023) rfl rfl (take_ofW HT_.out HW_.out (by kernel_rfl)) (fun _ _ _ h => h) (Or.inl ⟨by rfl, ?_⟩) hHeld ?_ ?_
         rotate_left; ·rintro w' ⟨s0, s1, s2, s3, s4, s5, s6, s7, s8⟩; go_simp; with_reducible rfl
         rotate_left; ·simp only [Act.put, List.setIfInBounds_toArray, List.set_cons_zero, List.set_cons_succ, i64_w, i32_w]; rfl
         refine take_ (i := 10) (N := some 31) (v := ?_) (a' := ?_) (bm_ 36 2047) rfl rfl (take_ofW HT_.out HW_.out (by kernel_rfl)) (fun _ _ _ h => h) (Or.inl ⟨by rfl, ?_⟩) hHeld ?_ ?_
         rotate_left; ·rintro w' ⟨s0, s1, s2, s3, s4, s5, s6, s7, s8⟩; go_simp; with_reducible rfl
         rotate_left; ·simp only [Act.put, List.setIfInBounds_toArray, List.set_cons_zero, List.set_cons_succ, i64_w, i32_w]; rfl
         refine one_ (i := 11) (N := some 32) (bm_ 36 4095) rfl rfl (one_of HT_.out (by kernel_rfl)) (by decide) (fun K hK => ?_)
         refine goes_ Tryd.func22 (by kernel_rfl) rfl #[.bool a0_0, .string t386, .int .i64 a0_2] (by rfl) rfl rfl (by (try simp only [List.map_toArray, List.map_cons, List.map_nil]); first | done | rfl | (simp only [List.length_drop, List.length_take]; rfl) | (have z_ : ∀ s_ : ByteArray, s_.size ≤ 9223372036854775807 → -(s_.size : Int) = wrap64 (-(s_.size : Int)) := (fun s_ h_ => by unfold wrap64; omega); rw [← z_ _ (by omega)]; rfl)) ?_
         with_reducible refine (dec_Made.calls kj4 a0_0 t386 a0_2 t394 t395 t396 _ A30.out).mono ?_
         rintro e w41 ⟨rfl, hb⟩
         refine ⟨_, rfl, ?_⟩
         have n0_ := bb_ BK382 hb
         have n1_ := bb_ BK388 hb
         have n2_ := bb_ BK392 hb
         have n3_ := Aside0.mk (below_step (by repeat (first | (with_reducible first | exact HB.out | apply below_alloc | apply pw_below_drewN | apply below_drew1 | refine below_set ?_ GE382.out | refine below_set ?_ GE388.out | refine below_set ?_ GE392.out) | exact HB.out)) hb)
         clear BK382
         clear BK388
         clear BK392
         clear HB
         have BK382 := n0_
         have BK388 := n1_
         have BK392 := n2_
         have HB := n3_
         clear n0_ n1_ n2_ n3_
         (try clear hb)
         (try clear hb2)
         (try clear hk)
         (try clear hi)
         refine hK.out _ _ ⟨(blk_cell BK392.out 0).trans rfl, (blk_cell BK392.out 1).trans rfl, (blk_cell BK392.out 2).trans rfl, (blk_cell BK382.out 0).trans rfl, (blk_cell BK382.out 1).trans rfl, (blk_cell BK382.out 2).trans rfl, (blk_cell BK388.out 0).trans rfl, (blk_cell BK388.out 1).trans rfl, (blk_cell BK388.out 2).trans rfl⟩ (fun hHeld => ?_)
         clear hK K
         refine norm_ (a' := ?_) ?_ ?_
         rotate_left
         ·show Act.put _ (some 32) _ = _
          simp only [Act.put, List.setIfInBounds_toArray, List.set_cons_zero, List.set_cons_succ, i64_w, i32_w]
          rfl
         refine pure_ (i := 12) (N := some 33) (v := ?_) (a' := ?_) (bm_ 36 8191) rfl rfl (any_of HT_.out (by kernel_rfl)) (fun _ _ _ h => h) (Or.inl ⟨by rfl, ?_⟩) ?_ ?_
         rotate_left; ·intro w'; go_simp; with_reducible rfl
         rotate_left; ·simp only [Act.put, List.setIfInBounds_toArray, List.set_cons_zero, List.set_cons_succ, i64_w, i32_w]; rfl
         refine pure_ (i := 13) (N := some 34) (v := ?_) (a' := ?_) (bm_ 36 16383) rfl rfl (any_of HT_.out (by kernel_rfl)) (fun _ _ _ h => h) (Or.inl ⟨by rfl, ?_⟩) ?_ ?_
         rotate_left; ·intro w'; go_simp; with_reducible rfl
         rotate_left; ·simp only [Act.put, List.setIfInBounds_toArray, List.set_cons_zero, List.set_cons_succ, i64_w, i32_w]; rfl
         refine pure_ (i := 14) (N := some 35) (v := ?_) (a' := ?_) (bm_ 36 32767) rfl rfl (any_of HT_.out (by kernel_rfl)) (fun _ _ _ h => h) (Or.inl ⟨by rfl, ?_⟩) ?_ ?_
         rotate_left; ·intro w'; go_simp; with_reducible rfl
         rotate_left; ·simp only [Act.put, List.setIfInBounds_toArray, List.set_cons_zero, List.set_cons_succ, i64_w, i32_w]; rfl
         refine take_ (i := 15) (N := some 36) (v := ?_) (a' := ?_) (bm_ 36 65535) rfl rfl (take_ofW HT_.out HW_.out (by kernel_rfl)) (fun _ _ _ h => h) (Or.inl ⟨by rfl, ?_⟩) hHeld ?_ ?_
         rotate_left; ·rintro w' ⟨s0, s1, s2, s3, s4, s5, s6, s7, s8⟩; go_simp; with_reducible rfl
         rotate_left; ·simp only [Act.put, List.setIfInBounds_toArray, List.set_cons_zero, List.set_cons_succ, i64_w, i32_w]; rfl
         refine take_ (i := 17) (N := some 38) (v := ?_) (a' := ?_) (bm_ 36 196607) rfl rfl (take_ofW HT_.out HW_.out (by kernel_rfl)) (fun _ _ _ h => h) (Or.inl ⟨by rfl, ?_⟩) hHeld ?_ ?_
         rotate_left; ·rintro w' ⟨s0, s1, s2, s3, s4, s5, s6, s7, s8⟩; go_simp; with_reducible rfl
         rotate_left; ·simp only [Act.put, List.setIfInBounds_toArray, List.set_cons_zero, List.set_cons_succ, i64_w, i32_w]; rfl
         refine one_ (i := 16) (N := some 37) (bm_ 36 262143) rfl rfl (one_of HT_.out (by kernel_rfl)) (by decide) (fun K hK => ?_)
         refine goes_ Tryd.func19 (by kernel_rfl) rfl #[.agg #[.bool t389, .string t390, .int .i64 t391]] (by rfl) rfl rfl (by (try simp only [List.map_toArray, List.map_cons, List.map_nil]); first | done | rfl | (simp only [List.length_drop, List.length_take]; rfl) | (have z_ : ∀ s_ : ByteArray, s_.size ≤ 9223372036854775807 → -(s_.size : Int) = wrap64 (-(s_.size : Int)) := (fun s_ h_ => by unfold wrap64; omega); rw [← z_ _ (by omega)]; rfl)) ?_
         with_reducible refine (dec_Dec_Norm.calls kj4 t389 t390 t391 t397 t398 t399 _ A36.out).mono ?_
         rintro e w42 ⟨rfl, hb⟩
         refine ⟨_, rfl, ?_⟩
         have n0_ := bb_ BK382 hb
         have n1_ := bb_ BK388 hb
         have n2_ := bb_ BK392 hb
         have n3_ := Aside0.mk (below_step (by repeat (first | (with_reducible first | exact HB.out | apply below_alloc | apply pw_below_drewN | apply below_drew1 | refine below_set ?_ GE382.out | refine below_set ?_ GE388.out | refine below_set ?_ GE392.out) | exact HB.out)) hb)
         clear BK382
         clear BK388
         clear BK392
         clear HB
         have BK382 := n0_
         have BK388 := n1_
         have BK392 := n2_
         have HB := n3_
         clear n0_ n1_ n2_ n3_
         (try clear hb)
         (try clear hb2)
         (try clear hk)
         (try clear hi)
         refine hK.out _ _ ⟨(blk_cell BK392.out 0).trans rfl, (blk_cell BK392.out 1).trans rfl, (blk_cell BK392.out 2).trans rfl, (blk_cell BK382.out 0).trans rfl, (blk_cell BK382.out 1).trans rfl, (blk_cell BK382.out 2).trans rfl, (blk_cell BK388.out 0).trans rfl, (blk_cell BK388.out 1).trans rfl, (blk_cell BK388.out 2).trans rfl⟩ (fun hHeld => ?_)
         clear hK K
         refine norm_ (a' := ?_) ?_ ?_
         rotate_left
         ·show Act.put _ (some 37) _ = _
          simp only [Act.put, List.setIfInBounds_toArray, List.set_cons_zero, List.set_cons_succ, i64_w, i32_w]
          rfl
         refine pure_ (i := 18) (N := some 39) (v := ?_) (a' := ?_) (bm_ 36 524287) rfl rfl (any_of HT_.out (by kernel_rfl)) (fun _ _ _ h => h) (Or.inl ⟨by rfl, ?_⟩) ?_ ?_
         rotate_left; ·intro w'; go_simp; with_reducible rfl
         rotate_left; ·simp only [Act.put, List.setIfInBounds_toArray, List.set_cons_zero, List.set_cons_succ, i64_w, i32_w]; rfl
         refine pure_ (i := 19) (N := some 40) (v := ?_) (a' := ?_) (bm_ 36 1048575) rfl rfl (any_of HT_.out (by kernel_rfl)) (fun _ _ _ h => h) (Or.inl ⟨by rfl, ?_⟩) ?_ ?_
         rotate_left; ·intro w'; go_simp; with_reducible rfl
         rotate_left; ·simp only [Act.put, List.setIfInBounds_toArray, List.set_cons_zero, List.set_cons_succ, i64_w, i32_w]; rfl
         refine pure_ (i := 20) (N := some 41) (v := ?_) (a' := ?_) (bm_ 36 2097151) rfl rfl (any_of HT_.out (by kernel_rfl)) (fun _ _ _ h => h) (Or.inl ⟨by rfl, ?_⟩) ?_ ?_
         rotate_left; ·intro w'; go_simp; with_reducible rfl
         rotate_left; ·simp only [Act.put, List.setIfInBounds_toArray, List.set_cons_zero, List.set_cons_succ, i64_w, i32_w]; rfl
         refine pure_ (i := 21) (N := some 42) (v := undef) (a' := ?_) (bm_ 36 4194303) rfl rfl (any_of HT_.out (by kernel_rfl)) (fun _ _ _ h => h) (Or.inr ⟨by rfl, rfl⟩) ?_ ?_
         rotate_left; ·simp only [Act.put, List.setIfInBounds_toArray, List.set_cons_zero, List.set_cons_succ, i64_w, i32_w]; rfl
         refine pure_ (i := 22) (N := some 43) (v := undef) (a' := ?_) (bm_ 36 8388607) rfl rfl (any_of HT_.out (by kernel_rfl)) (fun _ _ _ h => h) (Or.inr ⟨by rfl, rfl⟩) ?_ ?_
         rotate_left; ·simp only [Act.put, List.setIfInBounds_toArray, List.set_cons_zero, List.set_cons_succ, i64_w, i32_w]; rfl
         refine pure_ (i := 23) (N := some 44) (v := undef) (a' := ?_) (bm_ 36 16777215) rfl rfl (any_of HT_.out (by kernel_rfl)) (fun _ _ _ h => h) (Or.inr ⟨by rfl, rfl⟩) ?_ ?_
         rotate_left; ·simp only [Act.put, List.setIfInBounds_toArray, List.set_cons_zero, List.set_cons_succ, i64_w, i32_w]; rfl
         refine pure_ (i := 24) (N := some 45) (v := undef) (a' := ?_) (bm_ 36 33554431) rfl rfl (any_of HT_.out (by kernel_rfl)) (fun _ _ _ h => h) (Or.inr ⟨by rfl, rfl⟩) ?_ ?_
         rotate_left; ·simp only [Act.put, List.setIfInBounds_toArray, List.set_cons_zero, List.set_cons_succ, i64_w, i32_w]; rfl
         refine pure_ (i := 25) (N := some 46) (v := undef) (a' := ?_) (bm_ 36 67108863) rfl rfl (any_of HT_.out (by kernel_rfl)) (fun _ _ _ h => h) (Or.inr ⟨by rfl, rfl⟩) ?_ ?_
         rotate_left; ·simp only [Act.put, List.setIfInBounds_toArray, List.set_cons_zero, List.set_cons_succ, i64_w, i32_w]; rfl
         refine pure_ (i := 26) (N := some 47) (v := undef) (a' := ?_) (bm_ 36 134217727) rfl rfl (any_of HT_.out (by kernel_rfl)) (fun _ _ _ h => h) (Or.inr ⟨by rfl, rfl⟩) ?_ ?_
         rotate_left; ·simp only [Act.put, List.setIfInBounds_toArray, List.set_cons_zero, List.set_cons_succ, i64_w, i32_w]; rfl
         refine pure_ (i := 27) (N := some 48) (v := undef) (a' := ?_) (bm_ 36 268435455) rfl rfl (any_of HT_.out (by kernel_rfl)) (fun _ _ _ h => h) (Or.inr ⟨by rfl, rfl⟩) ?_ ?_
         rotate_left; ·simp only [Act.put, List.setIfInBounds_toArray, List.set_cons_zero, List.set_cons_succ, i64_w, i32_w]; rfl
         refine pure_ (i := 28) (N := some 49) (v := ?_) (a' := ?_) (bm_ 36 536870911) rfl rfl (any_of HT_.out (by kernel_rfl)) (fun _ _ _ h => h) (Or.inl ⟨by rfl, ?_⟩) ?_ ?_
         rotate_left; ·intro w'; go_simp; with_reducible rfl
         rotate_left; ·simp only [Act.put, List.setIfInBounds_toArray, List.set_cons_zero, List.set_cons_succ, i64_w, i32_w]; rfl
         refine pure_ (i := 29) (N := some 50) (v := ?_) (a' := ?_) (bm_ 36 1073741823) rfl rfl (any_of HT_.out (by kernel_rfl)) (fun _ _ _ h => h) (Or.inl ⟨by rfl, ?_⟩) ?_ ?_
         rotate_left; ·intro w'; go_simp; with_reducible rfl
         rotate_left; ·simp only [Act.put, List.setIfInBounds_toArray, List.set_cons_zero, List.set_cons_succ, i64_w, i32_w]; rfl
         refine pure_ (i := 30) (N := some 51) (v := undef) (a' := ?_) (bm_ 36 2147483647) rfl rfl (any_of HT_.out (by kernel_rfl)) (fun _ _ _ h => h) (Or.inr ⟨by rfl, rfl⟩) ?_ ?_
         rotate_left; ·simp only [Act.put, List.setIfInBounds_toArray, List.set_cons_zero, List.set_cons_succ, i64_w, i32_w]; rfl
         refine pure_ (i := 31) (N := some 52) (v := undef) (a' := ?_) (bm_ 36 4294967295) rfl rfl (any_of HT_.out (by kernel_rfl)) (fun _ _ _ h => h) (Or.inr ⟨by rfl, rfl⟩) ?_ ?_
         rotate_left; ·simp only [Act.put, List.setIfInBounds_toArray, List.set_cons_zero, List.set_cons_succ, i64_w, i32_w]; rfl
         refine pure_ (i := 32) (N := some 53) (v := undef) (a' := ?_) (bm_ 36 8589934591) rfl rfl (any_of HT_.out (by kernel_rfl)) (fun _ _ _ h => h) (Or.inr ⟨by rfl, rfl⟩) ?_ ?_
         rotate_left; ·simp only [Act.put, List.setIfInBounds_toArray, List.set_cons_zero, List.set_cons_succ, i64_w, i32_w]; rfl
         refine pure_ (i := 33) (N := some 54) (v := undef) (a' := ?_) (bm_ 36 17179869183) rfl rfl (any_of HT_.out (by kernel_rfl)) (fun _ _ _ h => h) (Or.inr ⟨by rfl, rfl⟩) ?_ ?_
         rotate_left; ·simp only [Act.put, List.setIfInBounds_toArray, List.set_cons_zero, List.set_cons_succ, i64_w, i32_w]; rfl
         refine pure_ (i := 34) (N := some 55) (v := undef) (a' := ?_) (bm_ 36 34359738367) rfl rfl (any_of HT_.out (by kernel_rfl)) (fun _ _ _ h => h) (Or.inr ⟨by rfl, rfl⟩) ?_ ?_
         rotate_left; ·simp only [Act.put, List.setIfInBounds_toArray, List.set_cons_zero, List.set_cons_succ, i64_w, i32_w]; rfl
         refine pure_ (i := 35) (N := some 56) (v := ?_) (a' := ?_) (bm_ 36 68719476735) rfl rfl (any_of HT_.out (by kernel_rfl)) (fun _ _ _ h => h) (Or.inl ⟨by rfl, ?_⟩) ?_ ?_
         rotate_left; ·intro w'; go_simp; with_reducible rfl
         rotate_left; ·simp only [Act.put, List.setIfInBounds_toArray, List.set_cons_zero, List.set_cons_succ, i64_w, i32_w]; rfl
         refine done_ (done_of HT_.out (by kernel_rfl)) ?_
         try go_wp2
         go_meet
         case rel => exact ⟨_, (true), (by first | rfl | (simp; done) | (simp [*]; done) | (simp; first | exact given_isEmpty _ | exact (given_isEmpty _).symm) | (unfold wrap64; omega) | (congr 1; unfold wrap64; omega)), H', ⟨by have := HJ4.out; first | omega | exact Nat.le_refl _⟩, ⟨by (with_reducible repeat (first | refine blk_drewN ?_ _ | refine blk_drew ?_ | refine blk_alloc ?_ _)); exact BK382.out⟩, ⟨by (with_reducible repeat (first | refine blk_drewN ?_ _ | refine blk_drew ?_ | refine blk_alloc ?_ _)); exact BK388.out⟩, ⟨by (with_reducible repeat (first | refine blk_drewN ?_ _ | refine blk_drew ?_ | refine blk_alloc ?_ _)); exact BK392.out⟩, ⟨by repeat (first | (with_reducible first | exact HB.out | apply below_alloc | apply pw_below_drewN | apply below_drew1 | refine below_set ?_ GE382.out | refine below_set ?_ GE388.out | refine below_set ?_ GE392.out) | exact HB.out)⟩⟩
        ·rw [if_neg c37] at H
         have c37b0 : (!(t397 == t389) || (!(t398.toList == t390.toList) || (!(t399 == t391)))) = false := by simpa using c37
         clear c37
         replace H := Option.bind_eq_some_iff.mp H
         obtain ⟨t400, A430, H⟩ := H
         replace H : ((num_Trim.f kj4 t386).bind fun t401 => (if (t400 != (t401.toList == ([] : List UInt8))) = true then (florinlaw02_DecForms.j1 kj4 a1 true a0_0 l0_1 a0_2 t385 t386 t387 t389 t390 t391) else ((dec_Dec_Zero.f kj4 t385 t386 t387).bind fun t402 => ((dec_Dec_Zero.f kj4 t389 t390 t391).bind fun t403 => (florinlaw02_DecForms.j1 kj4 a1 (t402 != t403) a0_0 l0_1 a0_2 t385 t386 t387 t389 t390 t391))))) = some r := H
         have A43 := Aside0.mk A430
         clear A430
         replace H := Option.bind_eq_some_iff.mp H
         obtain ⟨t401, A440, H⟩ := H
         replace H : (if (t400 != (t401.toList == ([] : List UInt8))) = true then (florinlaw02_DecForms.j1 kj4 a1 true a0_0 l0_1 a0_2 t385 t386 t387 t389 t390 t391) else ((dec_Dec_Zero.f kj4 t385 t386 t387).bind fun t402 => ((dec_Dec_Zero.f kj4 t389 t390 t391).bind fun t403 => (florinlaw02_DecForms.j1 kj4 a1 (t402 != t403) a0_0 l0_1 a0_2 t385 t386 t387 t389 t390 t391)))) = some r := H
         have A44 := Aside0.mk A440
         clear A440
         by_cases c45 : (t400 != (t401.toList == ([] : List UInt8))) = true
         ·rw [if_pos c45] at H
          have c45b0 : (t400 != (t401.toList == ([] : List UInt8))) = true := c45
          (try (have c45b1 : decide (t400 = (t401.toList == ([] : List UInt8))) = false := by simpa using c45))
          (try (have c45b2 : (t400 == (t401.toList == ([] : List UInt8))) = false := by simpa using c45))
          (try (have c45b3 : ¬ (t400 = (t401.toList == ([] : List UInt8))) := by simpa using c45))
          (try (have c45b4 : (t400 != (t401.toList.isEmpty)) = true := by have z_ := c45; simp only [show ∀ l_ : List UInt8, (l_ == ([] : List UInt8)) = l_.isEmpty from fun l_ => by cases l_ <;> rfl] at z_; first | exact z_ | exact Bool.eq_false_iff.mpr z_))
          (try (have c45b5 : (t400 == (t401.toList.isEmpty)) = false := by have z_ := c45; simp only [show ∀ l_ : List UInt8, (l_ == ([] : List UInt8)) = l_.isEmpty from fun l_ => by cases l_ <;> rfl] at z_; first | exact Bool.not_eq_true'.mp z_ | exact Bool.not_eq_false'.mp (Bool.eq_false_iff.mpr z_) | simpa using z_))
          clear c45
          have H' := Aside0.mk H
          clear H
          try go_wp2
          have n0_ : Aside0 ((((w24.setCell ⟨gb392, 0, none⟩ (.bool t389)).setCell ⟨gb392, 1, none⟩ (.string t390)).setCell ⟨gb392, 2, none⟩ (.int .i64 t391)).heap[gb382]? = some (.cells #[.bool a0_0, .slice A0_1 l0_1.length c0_1, .int .i64 a0_2] 33 (0, 0))) := ⟨by (with_reducible repeat (first | refine blk_drewN ?_ _ | refine blk_drew ?_ | refine blk_alloc ?_ _)); refine blk_far ?_ NB382_392.out _; (with_reducible repeat (first | refine blk_drewN ?_ _ | refine blk_drew ?_ | refine blk_alloc ?_ _)); refine blk_far ?_ NB382_392.out _; (with_reducible repeat (first | refine blk_drewN ?_ _ | refine blk_drew ?_ | refine blk_alloc ?_ _)); refine blk_far ?_ NB382_392.out _; (with_reducible repeat (first | refine blk_drewN ?_ _ | refine blk_drew ?_ | refine blk_alloc ?_ _)); exact BK382.out⟩
          have n1_ : Aside0 ((((w24.setCell ⟨gb392, 0, none⟩ (.bool t389)).setCell ⟨gb392, 1, none⟩ (.string t390)).setCell ⟨gb392, 2, none⟩ (.int .i64 t391)).heap[gb388]? = some (.cells #[.bool t385, .string t386, .int .i64 t387] 24 (0, 0))) := ⟨by (with_reducible repeat (first | refine blk_drewN ?_ _ | refine blk_drew ?_ | refine blk_alloc ?_ _)); refine blk_far ?_ NB388_392.out _; (with_reducible repeat (first | refine blk_drewN ?_ _ | refine blk_drew ?_ | refine blk_alloc ?_ _)); refine blk_far ?_ NB388_392.out _; (with_reducible repeat (first | refine blk_drewN ?_ _ | refine blk_drew ?_ | refine blk_alloc ?_ _)); refine blk_far ?_ NB388_392.out _; (with_reducible repeat (first | refine blk_drewN ?_ _ | refine blk_drew ?_ | refine blk_alloc ?_ _)); exact BK388.out⟩
          have n2_ : Aside0 ((((w24.setCell ⟨gb392, 0, none⟩ (.bool t389)).setCell ⟨gb392, 1, none⟩ (.string t390)).setCell ⟨gb392, 2, none⟩ (.int .i64 t391)).heap[gb392]? = some (.cells #[.bool t389, .string t390, .int .i64 t391] 24 (0, 0))) := ⟨by (with_reducible repeat (first | refine blk_drewN ?_ _ | refine blk_drew ?_ | refine blk_alloc ?_ _)); refine blk_put (cs := #[.bool t389, .string t390, .int .i64 0]) ?_ 2 _ rfl; (with_reducible repeat (first | refine blk_drewN ?_ _ | refine blk_drew ?_ | refine blk_alloc ?_ _)); refine blk_put (cs := #[.bool t389, .string (⟨#[]⟩ : ByteArray), .int .i64 0]) ?_ 1 _ rfl; (with_reducible repeat (first | refine blk_drewN ?_ _ | refine blk_drew ?_ | refine blk_alloc ?_ _)); refine blk_put (cs := #[.bool false, .string (⟨#[]⟩ : ByteArray), .int .i64 0]) ?_ 0 _ rfl; (with_reducible repeat (first | refine blk_drewN ?_ _ | refine blk_drew ?_ | refine blk_alloc ?_ _)); exact BK392.out⟩
          have n3_ : Aside0 (Below w.heap.size w (((w24.setCell ⟨gb392, 0, none⟩ (.bool t389)).setCell ⟨gb392, 1, none⟩ (.string t390)).setCell ⟨gb392, 2, none⟩ (.int .i64 t391))) := ⟨by repeat (first | (with_reducible first | exact HB.out | apply below_alloc | apply pw_below_drewN | apply below_drew1 | refine below_set ?_ GE382.out | refine below_set ?_ GE388.out | refine below_set ?_ GE392.out) | exact HB.out)⟩
          (try clear BK382)
          (try clear BK388)
          (try clear BK392)
          (try clear HB)
          generalize (((w24.setCell ⟨gb392, 0, none⟩ (.bool t389)).setCell ⟨gb392, 1, none⟩ (.string t390)).setCell ⟨gb392, 2, none⟩ (.int .i64 t391)) = w46 at n0_ n1_ n2_ n3_ ⊢
          have BK382 := n0_
          have BK388 := n1_
          have BK392 := n2_
          have HB := n3_
          clear n0_ n1_ n2_ n3_
          have n0_ := Aside0.mk (blk_drew BK382.out)
          have n1_ := Aside0.mk (blk_drew BK388.out)
          have n2_ := Aside0.mk (blk_drew BK392.out)
          have n3_ := Aside0.mk (below_drew1 HB.out)
          clear BK382
          clear BK388
          clear BK392
          clear HB
          have BK382 := n0_
          have BK388 := n1_
          have BK392 := n2_
          have HB := n3_
          clear n0_ n1_ n2_ n3_
          refine start_ (n := 36) (S := fun w' => w'.cell? ⟨gb392, 0, none⟩ = some (.bool t389) ∧ w'.cell? ⟨gb392, 1, none⟩ = some (.string t390) ∧ w'.cell? ⟨gb392, 2, none⟩ = some (.int .i64 t391) ∧ w'.cell? ⟨gb382, 0, none⟩ = some (.bool a0_0) ∧ w'.cell? ⟨gb382, 1, none⟩ = some (.slice A0_1 l0_1.length c0_1) ∧ w'.cell? ⟨gb382, 2, none⟩ = some (.int .i64 a0_2) ∧ w'.cell? ⟨gb388, 0, none⟩ = some (.bool t385) ∧ w'.cell? ⟨gb388, 1, none⟩ = some (.string t386) ∧ w'.cell? ⟨gb388, 2, none⟩ = some (.int .i64 t387)) (ds := []) #[false, false, false, false, false, false, false, false, false, false, false, false, false, false, false, false, false, false, false, false, false, false, false, false, false, false, false, false, false, false, false, false, false, false, false, false] (by kernel_rfl) rfl rfl ⟨(blk_cell BK392.out 0).trans rfl, (blk_cell BK392.out 1).trans rfl, (blk_cell BK392.out 2).trans rfl, (blk_cell BK382.out 0).trans rfl, (blk_cell BK382.out 1).trans rfl, (blk_cell BK382.out 2).trans rfl, (blk_cell BK388.out 0).trans rfl, (blk_cell BK388.out 1).trans rfl, (blk_cell BK388.out 2).trans rfl⟩ (fun hHeld => ?_); refine with_tabW florinlaw02_DecForms.tab7 florinlaw02_DecForms.bits7 (fun HT_ HW_ => ?_)
          generalize w46.drew = w47 at BK382 BK388 BK392 HB hHeld ⊢
          refine take_ (i := 0) (N := some 21) (v := ?_) (a' := ?_) (bm_ 36 1) rfl rfl (take_ofW HT_.out HW_.out (by kernel_rfl)) (fun _ _ _ h => h) (Or.inl ⟨by rfl, ?_⟩) hHeld ?_ ?_
          rotate_left; ·rintro w' ⟨s0, s1, s2, s3, s4, s5, s6, s7, s8⟩; go_simp; with_reducible rfl
          rotate_left; ·simp only [Act.put, List.setIfInBounds_toArray, List.set_cons_zero, List.set_cons_succ, i64_w, i32_w]; rfl
          refine one_ (i := 1) (N := some 22) (bm_ 36 3) rfl rfl (one_of HT_.out (by kernel_rfl)) (by decide) (fun K hK => ?_)
          refine goes_ Tryd.func14 (by kernel_rfl) rfl #[.agg #[.bool t389, .string t390, .int .i64 t391]] (by rfl) rfl rfl (by (try simp only [List.map_toArray, List.map_cons, List.map_nil]); first | done | rfl | (simp only [List.length_drop, List.length_take]; rfl) | (have z_ : ∀ s_ : ByteArray, s_.size ≤ 9223372036854775807 → -(s_.size : Int) = wrap64 (-(s_.size : Int)) := (fun s_ h_ => by unfold wrap64; omega); rw [← z_ _ (by omega)]; rfl)) ?_
          with_reducible refine (florinlaw02_normal.calls kj4 t389 t390 t391 true _ A28.out).mono ?_
          rintro e w48 ⟨rfl, hb⟩
          refine ⟨_, rfl, ?_⟩
          have n0_ := bb_ BK382 hb
          have n1_ := bb_ BK388 hb
          have n2_ := bb_ BK392 hb
          have n3_ := Aside0.mk (below_step (by repeat (first | (with_reducible first | exact HB.out | apply below_alloc | apply pw_below_drewN | apply below_drew1 | refine below_set ?_ GE382.out | refine below_set ?_ GE388.out | refine below_set ?_ GE392.out) | exact HB.out)) hb)
          clear BK382
          clear BK388
          clear BK392
          clear HB
          have BK382 := n0_
          have BK388 := n1_
          have BK392 := n2_
          have HB := n3_
          clear n0_ n1_ n2_ n3_
          (try clear hb)
          (try clear hb2)
          (try clear hk)
          (try clear hi)
          refine hK.out _ _ ⟨(blk_cell BK392.out 0).trans rfl, (blk_cell BK392.out 1).trans rfl, (blk_cell BK392.out 2).trans rfl, (blk_cell BK382.out 0).trans rfl, (blk_cell BK382.out 1).trans rfl, (blk_cell BK382.out 2).trans rfl, (blk_cell BK388.out 0).trans rfl, (blk_cell BK388.out 1).trans rfl, (blk_cell BK388.out 2).trans rfl⟩ (fun hHeld => ?_)
          clear hK K
          refine norm_ (a' := ?_) ?_ ?_
          rotate_left
          ·show Act.put _ (some 22) _ = _
           simp only [Act.put, List.setIfInBounds_toArray, List.set_cons_zero, List.set_cons_succ, i64_w, i32_w]
           rfl
          refine pure_ (i := 2) (N := some 23) (v := ?_) (a' := ?_) (bm_ 36 7) rfl rfl (any_of HT_.out (by kernel_rfl)) (fun _ _ _ h => h) (Or.inl ⟨by rfl, ?_⟩) ?_ ?_
          rotate_left; ·intro w'; go_simp; with_reducible rfl
          rotate_left; ·simp only [Act.put, List.setIfInBounds_toArray, List.set_cons_zero, List.set_cons_succ, i64_w, i32_w]; rfl
          refine pure_ (i := 3) (N := some 24) (v := ?_) (a' := ?_) (bm_ 36 15) rfl rfl (any_of HT_.out (by kernel_rfl)) (fun _ _ _ h => h) (Or.inl ⟨by rfl, ?_⟩) ?_ ?_
          rotate_left; ·intro w'; go_simp; with_reducible rfl
          rotate_left; ·simp only [Act.put, List.setIfInBounds_toArray, List.set_cons_zero, List.set_cons_succ, i64_w, i32_w]; rfl
          refine pure_ (i := 5) (N := some 26) (v := ?_) (a' := ?_) (bm_ 36 47) rfl rfl (any_of HT_.out (by kernel_rfl)) (fun _ _ _ h => h) (Or.inl ⟨by rfl, ?_⟩) ?_ ?_
          rotate_left; ·intro w'; go_simp; with_reducible rfl
          rotate_left; ·simp only [Act.put, List.setIfInBounds_toArray, List.set_cons_zero, List.set_cons_succ, i64_w, i32_w]; rfl
          refine pure_ (i := 7) (N := some 28) (v := ?_) (a' := ?_) (bm_ 36 175) rfl rfl (any_of HT_.out (by kernel_rfl)) (fun _ _ _ h => h) (Or.inl ⟨by rfl, ?_⟩) ?_ ?_
          rotate_left; ·intro w'; go_simp; with_reducible rfl
          rotate_left; ·simp only [Act.put, List.setIfInBounds_toArray, List.set_cons_zero, List.set_cons_succ, i64_w, i32_w]; rfl
          refine pure_ (i := 9) (N := some 30) (v := ?_) (a' := ?_) (bm_ 36 687) rfl rfl (any_of HT_.out (by kernel_rfl)) (fun _ _ _ h => h) (Or.inl ⟨by rfl, ?_⟩) ?_ ?_
          rotate_left; ·intro w'; go_simp; with_reducible rfl
          rotate_left; ·simp only [Act.put, List.setIfInBounds_toArray, List.set_cons_zero, List.set_cons_succ, i64_w, i32_w]; rfl
          refine take_ (i := 4) (N := some 25) (v := ?_) (a' := ?_) (bm_ 36 703) rfl rfl (take_ofW HT_.out HW_.out (by kernel_rfl)) (fun _ _ _ h => h) (Or.inl ⟨by rfl, ?_⟩) hHeld ?_ ?_
          rotate_left; ·rintro w' ⟨s0, s1, s2, s3, s4, s5, s6, s7, s8⟩; go_simp; with_reducible rfl
          rotate_left; ·simp only [Act.put, List.setIfInBounds_toArray, List.set_cons_zero, List.set_cons_succ, i64_w, i32_w]; rfl
          refine take_ (i := 6) (N := some 27) (v := ?_) (a' := ?_) (bm_ 36 767) rfl rfl (take_ofW HT_.out HW_.out (by kernel_rfl)) (fun _ _ _ h => h) (Or.inl ⟨by rfl, ?_⟩) hHeld ?_ ?_
          rotate_left; ·rintro w' ⟨s0, s1, s2, s3, s4, s5, s6, s7, s8⟩; go_simp; with_reducible rfl
          rotate_left; ·simp only [Act.put, List.setIfInBounds_toArray, List.set_cons_zero, List.set_cons_succ, i64_w, i32_w]; rfl
          refine take_ (i := 8) (N := some 29) (v := ?_) (a' := ?_) (bm_ 36 1023) rfl rfl (take_ofW HT_.out HW_.out (by kernel_rfl)) (fun _ _ _ h => h) (Or.inl ⟨by rfl, ?_⟩) hHeld ?_ ?_
          rotate_left; ·rintro w' ⟨s0, s1, s2, s3, s4, s5, s6, s7, s8⟩; go_simp; with_reducible rfl
          rotate_left; ·simp only [Act.put, List.setIfInBounds_toArray, List.set_cons_zero, List.set_cons_succ, i64_w, i32_w]; rfl
          refine take_ (i := 10) (N := some 31) (v := ?_) (a' := ?_) (bm_ 36 2047) rfl rfl (take_ofW HT_.out HW_.out (by kernel_rfl)) (fun _ _ _ h => h) (Or.inl ⟨by rfl, ?_⟩) hHeld ?_ ?_
          rotate_left; ·rintro w' ⟨s0, s1, s2, s3, s4, s5, s6, s7, s8⟩; go_simp; with_reducible rfl
          rotate_left; ·simp only [Act.put, List.setIfInBounds_toArray, List.set_cons_zero, List.set_cons_succ, i64_w, i32_w]; rfl
          refine one_ (i := 11) (N := some 32) (bm_ 36 4095) rfl rfl (one_of HT_.out (by kernel_rfl)) (by decide) (fun K hK => ?_)
          refine goes_ Tryd.func22 (by kernel_rfl) rfl #[.bool a0_0, .string t386, .int .i64 a0_2] (by rfl) rfl rfl (by (try simp only [List.map_toArray, List.map_cons, List.map_nil]); first | done | rfl | (simp only [List.length_drop, List.length_take]; rfl) | (have z_ : ∀ s_ : ByteArray, s_.size ≤ 9223372036854775807 → -(s_.size : Int) = wrap64 (-(s_.size : Int)) := (fun s_ h_ => by unfold wrap64; omega); rw [← z_ _ (by omega)]; rfl)) ?_
          with_reducible refine (dec_Made.calls kj4 a0_0 t386 a0_2 t394 t395 t396 _ A30.out).mono ?_
          rintro e w49 ⟨rfl, hb⟩
          refine ⟨_, rfl, ?_⟩
          have n0_ := bb_ BK382 hb
          have n1_ := bb_ BK388 hb
          have n2_ := bb_ BK392 hb
          have n3_ := Aside0.mk (below_step (by repeat (first | (with_reducible first | exact HB.out | apply below_alloc | apply pw_below_drewN | apply below_drew1 | refine below_set ?_ GE382.out | refine below_set ?_ GE388.out | refine below_set ?_ GE392.out) | exact HB.out)) hb)
          clear BK382
          clear BK388
          clear BK392
          clear HB
          have BK382 := n0_
          have BK388 := n1_
          have BK392 := n2_
          have HB := n3_
          clear n0_ n1_ n2_ n3_
          (try clear hb)
          (try clear hb2)
          (try clear hk)
          (try clear hi)
          refine hK.out _ _ ⟨(blk_cell BK392.out 0).trans rfl, (blk_cell BK392.out 1).trans rfl, (blk_cell BK392.out 2).trans rfl, (blk_cell BK382.out 0).trans rfl, (blk_cell BK382.out 1).trans rfl, (blk_cell BK382.out 2).trans rfl, (blk_cell BK388.out 0).trans rfl, (blk_cell BK388.out 1).trans rfl, (blk_cell BK388.out 2).trans rfl⟩ (fun hHeld => ?_)
          clear hK K
          refine norm_ (a' := ?_) ?_ ?_
          rotate_left
          ·show Act.put _ (some 32) _ = _
           simp only [Act.put, List.setIfInBounds_toArray, List.set_cons_zero, List.set_cons_succ, i64_w, i32_w]
           rfl
          refine pure_ (i := 12) (N := some 33) (v := ?_) (a' := ?_) (bm_ 36 8191) rfl rfl (any_of HT_.out (by kernel_rfl)) (fun _ _ _ h => h) (Or.inl ⟨by rfl, ?_⟩) ?_ ?_
          rotate_left; ·intro w'; go_simp; with_reducible rfl
          rotate_left; ·simp only [Act.put, List.setIfInBounds_toArray, List.set_cons_zero, List.set_cons_succ, i64_w, i32_w]; rfl
          refine pure_ (i := 13) (N := some 34) (v := ?_) (a' := ?_) (bm_ 36 16383) rfl rfl (any_of HT_.out (by kernel_rfl)) (fun _ _ _ h => h) (Or.inl ⟨by rfl, ?_⟩) ?_ ?_
          rotate_left; ·intro w'; go_simp; with_reducible rfl
          rotate_left; ·simp only [Act.put, List.setIfInBounds_toArray, List.set_cons_zero, List.set_cons_succ, i64_w, i32_w]; rfl
          refine pure_ (i := 14) (N := some 35) (v := ?_) (a' := ?_) (bm_ 36 32767) rfl rfl (any_of HT_.out (by kernel_rfl)) (fun _ _ _ h => h) (Or.inl ⟨by rfl, ?_⟩) ?_ ?_
          rotate_left; ·intro w'; go_simp; with_reducible rfl
          rotate_left; ·simp only [Act.put, List.setIfInBounds_toArray, List.set_cons_zero, List.set_cons_succ, i64_w, i32_w]; rfl
          refine take_ (i := 15) (N := some 36) (v := ?_) (a' := ?_) (bm_ 36 65535) rfl rfl (take_ofW HT_.out HW_.out (by kernel_rfl)) (fun _ _ _ h => h) (Or.inl ⟨by rfl, ?_⟩) hHeld ?_ ?_
          rotate_left; ·rintro w' ⟨s0, s1, s2, s3, s4, s5, s6, s7, s8⟩; go_simp; with_reducible rfl
          rotate_left; ·simp only [Act.put, List.setIfInBounds_toArray, List.set_cons_zero, List.set_cons_succ, i64_w, i32_w]; rfl
          refine take_ (i := 17) (N := some 38) (v := ?_) (a' := ?_) (bm_ 36 196607) rfl rfl (take_ofW HT_.out HW_.out (by kernel_rfl)) (fun _ _ _ h => h) (Or.inl ⟨by rfl, ?_⟩) hHeld ?_ ?_
          rotate_left; ·rintro w' ⟨s0, s1, s2, s3, s4, s5, s6, s7, s8⟩; go_simp; with_reducible rfl
          rotate_left; ·simp only [Act.put, List.setIfInBounds_toArray, List.set_cons_zero, List.set_cons_succ, i64_w, i32_w]; rfl
          refine one_ (i := 16) (N := some 37) (bm_ 36 262143) rfl rfl (one_of HT_.out (by kernel_rfl)) (by decide) (fun K hK => ?_)
          refine goes_ Tryd.func19 (by kernel_rfl) rfl #[.agg #[.bool t389, .string t390, .int .i64 t391]] (by rfl) rfl rfl (by (try simp only [List.map_toArray, List.map_cons, List.map_nil]); first | done | rfl | (simp only [List.length_drop, List.length_take]; rfl) | (have z_ : ∀ s_ : ByteArray, s_.size ≤ 9223372036854775807 → -(s_.size : Int) = wrap64 (-(s_.size : Int)) := (fun s_ h_ => by unfold wrap64; omega); rw [← z_ _ (by omega)]; rfl)) ?_
          with_reducible refine (dec_Dec_Norm.calls kj4 t389 t390 t391 t397 t398 t399 _ A36.out).mono ?_
          rintro e w50 ⟨rfl, hb⟩
          refine ⟨_, rfl, ?_⟩
          have n0_ := bb_ BK382 hb
          have n1_ := bb_ BK388 hb
          have n2_ := bb_ BK392 hb
          have n3_ := Aside0.mk (below_step (by repeat (first | (with_reducible first | exact HB.out | apply below_alloc | apply pw_below_drewN | apply below_drew1 | refine below_set ?_ GE382.out | refine below_set ?_ GE388.out | refine below_set ?_ GE392.out) | exact HB.out)) hb)
          clear BK382
          clear BK388
          clear BK392
          clear HB
          have BK382 := n0_
          have BK388 := n1_
          have BK392 := n2_
          have HB := n3_
          clear n0_ n1_ n2_ n3_
          (try clear hb)
          (try clear hb2)
          (try clear hk)
          (try clear hi)
          refine hK.out _ _ ⟨(blk_cell BK392.out 0).trans rfl, (blk_cell BK392.out 1).trans rfl, (blk_cell BK392.out 2).trans rfl, (blk_cell BK382.out 0).trans rfl, (blk_cell BK382.out 1).trans rfl, (blk_cell BK382.out 2).trans rfl, (blk_cell BK388.out 0).trans rfl, (blk_cell BK388.out 1).trans rfl, (blk_cell BK388.out 2).trans rfl⟩ (fun hHeld => ?_)
          clear hK K
          refine norm_ (a' := ?_) ?_ ?_
          rotate_left
          ·show Act.put _ (some 37) _ = _
           simp only [Act.put, List.setIfInBounds_toArray, List.set_cons_zero, List.set_cons_succ, i64_w, i32_w]
           rfl
          refine pure_ (i := 18) (N := some 39) (v := ?_) (a' := ?_) (bm_ 36 524287) rfl rfl (any_of HT_.out (by kernel_rfl)) (fun _ _ _ h => h) (Or.inl ⟨by rfl, ?_⟩) ?_ ?_
          rotate_left; ·intro w'; go_simp; with_reducible rfl
          rotate_left; ·simp only [Act.put, List.setIfInBounds_toArray, List.set_cons_zero, List.set_cons_succ, i64_w, i32_w]; rfl
          refine pure_ (i := 19) (N := some 40) (v := ?_) (a' := ?_) (bm_ 36 1048575) rfl rfl (any_of HT_.out (by kernel_rfl)) (fun _ _ _ h => h) (Or.inl ⟨by rfl, ?_⟩) ?_ ?_
          rotate_left; ·intro w'; go_simp; with_reducible rfl
          rotate_left; ·simp only [Act.put, List.setIfInBounds_toArray, List.set_cons_zero, List.set_cons_succ, i64_w, i32_w]; rfl
          refine pure_ (i := 20) (N := some 41) (v := ?_) (a' := ?_) (bm_ 36 2097151) rfl rfl (any_of HT_.out (by kernel_rfl)) (fun _ _ _ h => h) (Or.inl ⟨by rfl, ?_⟩) ?_ ?_
          rotate_left; ·intro w'; go_simp; with_reducible rfl
          rotate_left; ·simp only [Act.put, List.setIfInBounds_toArray, List.set_cons_zero, List.set_cons_succ, i64_w, i32_w]; rfl
          refine pure_ (i := 23) (N := some 44) (v := ?_) (a' := ?_) (bm_ 36 10485759) rfl rfl (any_of HT_.out (by kernel_rfl)) (fun _ _ _ h => h) (Or.inl ⟨by rfl, ?_⟩) ?_ ?_
          rotate_left; ·intro w'; go_simp; with_reducible rfl
          rotate_left; ·simp only [Act.put, List.setIfInBounds_toArray, List.set_cons_zero, List.set_cons_succ, i64_w, i32_w]; rfl
          refine take_ (i := 21) (N := some 42) (v := ?_) (a' := ?_) (bm_ 36 12582911) rfl rfl (take_ofW HT_.out HW_.out (by kernel_rfl)) (fun _ _ _ h => h) (Or.inl ⟨by rfl, ?_⟩) hHeld ?_ ?_
          rotate_left; ·rintro w' ⟨s0, s1, s2, s3, s4, s5, s6, s7, s8⟩; go_simp; with_reducible rfl
          rotate_left; ·simp only [Act.put, List.setIfInBounds_toArray, List.set_cons_zero, List.set_cons_succ, i64_w, i32_w]; rfl
          refine take_ (i := 24) (N := some 45) (v := ?_) (a' := ?_) (bm_ 36 29360127) rfl rfl (take_ofW HT_.out HW_.out (by kernel_rfl)) (fun _ _ _ h => h) (Or.inl ⟨by rfl, ?_⟩) hHeld ?_ ?_
          rotate_left; ·rintro w' ⟨s0, s1, s2, s3, s4, s5, s6, s7, s8⟩; go_simp; with_reducible rfl
          rotate_left; ·simp only [Act.put, List.setIfInBounds_toArray, List.set_cons_zero, List.set_cons_succ, i64_w, i32_w]; rfl
          refine one_ (i := 22) (N := some 43) (bm_ 36 33554431) rfl rfl (one_of HT_.out (by kernel_rfl)) (by decide) (fun K hK => ?_)
          refine goes_ Tryd.func24 (by kernel_rfl) rfl #[.agg #[.bool t389, .string t390, .int .i64 t391]] (by rfl) rfl rfl (by (try simp only [List.map_toArray, List.map_cons, List.map_nil]); first | done | rfl | (simp only [List.length_drop, List.length_take]; rfl) | (have z_ : ∀ s_ : ByteArray, s_.size ≤ 9223372036854775807 → -(s_.size : Int) = wrap64 (-(s_.size : Int)) := (fun s_ h_ => by unfold wrap64; omega); rw [← z_ _ (by omega)]; rfl)) ?_
          with_reducible refine (dec_Dec_Zero.calls kj4 t389 t390 t391 t400 _ A43.out).mono ?_
          rintro e w51 ⟨rfl, hb⟩
          refine ⟨_, rfl, ?_⟩
          have n0_ := bb_ BK382 hb
          have n1_ := bb_ BK388 hb
          have n2_ := bb_ BK392 hb
          have n3_ := Aside0.mk (below_step (by repeat (first | (with_reducible first | exact HB.out | apply below_alloc | apply pw_below_drewN | apply below_drew1 | refine below_set ?_ GE382.out | refine below_set ?_ GE388.out | refine below_set ?_ GE392.out) | exact HB.out)) hb)
          clear BK382
          clear BK388
          clear BK392
          clear HB
          have BK382 := n0_
          have BK388 := n1_
          have BK392 := n2_
          have HB := n3_
          clear n0_ n1_ n2_ n3_
          (try clear hb)
          (try clear hb2)
          (try clear hk)
          (try clear hi)
          refine hK.out _ _ ⟨(blk_cell BK392.out 0).trans rfl, (blk_cell BK392.out 1).trans rfl, (blk_cell BK392.out 2).trans rfl, (blk_cell BK382.out 0).trans rfl, (blk_cell BK382.out 1).trans rfl, (blk_cell BK382.out 2).trans rfl, (blk_cell BK388.out 0).trans rfl, (blk_cell BK388.out 1).trans rfl, (blk_cell BK388.out 2).trans rfl⟩ (fun hHeld => ?_)
          clear hK K
          refine norm_ (a' := ?_) ?_ ?_
          rotate_left
          ·show Act.put _ (some 43) _ = _
           simp only [Act.put, List.setIfInBounds_toArray, List.set_cons_zero, List.set_cons_succ, i64_w, i32_w]
           rfl
          refine one_ (i := 25) (N := some 46) (bm_ 36 67108863) rfl rfl (one_of HT_.out (by kernel_rfl)) (by decide) (fun K hK => ?_)
          refine goes_ Tryd.func21 (by kernel_rfl) rfl #[.string t386] (by rfl) rfl rfl (by (try simp only [List.map_toArray, List.map_cons, List.map_nil]); first | done | rfl | (simp only [List.length_drop, List.length_take]; rfl) | (have z_ : ∀ s_ : ByteArray, s_.size ≤ 9223372036854775807 → -(s_.size : Int) = wrap64 (-(s_.size : Int)) := (fun s_ h_ => by unfold wrap64; omega); rw [← z_ _ (by omega)]; rfl)) ?_
          with_reducible refine (num_Trim.calls kj4 t386 t401 _ A44.out).mono ?_
          rintro e w' ⟨rfl, ⟨nd, rfl⟩⟩
          refine ⟨_, rfl, ?_⟩
          refine hK.out _ _ ⟨(blk_cell BK392.out 0).trans rfl, (blk_cell BK392.out 1).trans rfl, (blk_cell BK392.out 2).trans rfl, (blk_cell BK382.out 0).trans rfl, (blk_cell BK382.out 1).trans rfl, (blk_cell BK382.out 2).trans rfl, (blk_cell BK388.out 0).trans rfl, (blk_cell BK388.out 1).trans rfl, (blk_cell BK388.out 2).trans rfl⟩ (fun hHeld => ?_)
          clear hK K
          refine norm_ (a' := ?_) ?_ ?_
          rotate_left
          ·show Act.put _ (some 46) _ = _
           simp only [Act.put, List.setIfInBounds_toArray, List.set_cons_zero, List.set_cons_succ, i64_w, i32_w]
           rfl
          refine pure_ (i := 26) (N := some 47) (v := ?_) (a' := ?_) (bm_ 36 134217727) rfl rfl (any_of HT_.out (by kernel_rfl)) (fun _ _ _ h => h) (Or.inl ⟨by rfl, ?_⟩) ?_ ?_
          rotate_left; ·intro w'; go_simp; with_reducible rfl
          rotate_left; ·simp only [Act.put, List.setIfInBounds_toArray, List.set_cons_zero, List.set_cons_succ, i64_w, i32_w]; rfl
          refine pure_ (i := 27) (N := some 48) (v := ?_) (a' := ?_) (bm_ 36 268435455) rfl rfl (any_of HT_.out (by kernel_rfl)) (fun _ _ _ h => h) (Or.inl ⟨by rfl, ?_⟩) ?_ ?_
          rotate_left; ·intro w'; go_simp; with_reducible rfl
          rotate_left; ·simp only [Act.put, List.setIfInBounds_toArray, List.set_cons_zero, List.set_cons_succ, i64_w, i32_w]; rfl
          refine pure_ (i := 28) (N := some 49) (v := ?_) (a' := ?_) (bm_ 36 536870911) rfl rfl (any_of HT_.out (by kernel_rfl)) (fun _ _ _ h => h) (Or.inl ⟨by rfl, ?_⟩) ?_ ?_
          rotate_left; ·intro w'; go_simp; with_reducible rfl
          rotate_left; ·simp only [Act.put, List.setIfInBounds_toArray, List.set_cons_zero, List.set_cons_succ, i64_w, i32_w]; rfl
          refine pure_ (i := 29) (N := some 50) (v := ?_) (a' := ?_) (bm_ 36 1073741823) rfl rfl (any_of HT_.out (by kernel_rfl)) (fun _ _ _ h => h) (Or.inl ⟨by rfl, ?_⟩) ?_ ?_
          rotate_left; ·intro w'; go_simp; with_reducible rfl
          rotate_left; ·simp only [Act.put, List.setIfInBounds_toArray, List.set_cons_zero, List.set_cons_succ, i64_w, i32_w]; rfl
          refine pure_ (i := 30) (N := some 51) (v := undef) (a' := ?_) (bm_ 36 2147483647) rfl rfl (any_of HT_.out (by kernel_rfl)) (fun _ _ _ h => h) (Or.inr ⟨by rfl, rfl⟩) ?_ ?_
          rotate_left; ·simp only [Act.put, List.setIfInBounds_toArray, List.set_cons_zero, List.set_cons_succ, i64_w, i32_w]; rfl
          refine pure_ (i := 31) (N := some 52) (v := undef) (a' := ?_) (bm_ 36 4294967295) rfl rfl (any_of HT_.out (by kernel_rfl)) (fun _ _ _ h => h) (Or.inr ⟨by rfl, rfl⟩) ?_ ?_
          rotate_left; ·simp only [Act.put, List.setIfInBounds_toArray, List.set_cons_zero, List.set_cons_succ, i64_w, i32_w]; rfl
          refine pure_ (i := 32) (N := some 53) (v := undef) (a' := ?_) (bm_ 36 8589934591) rfl rfl (any_of HT_.out (by kernel_rfl)) (fun _ _ _ h => h) (Or.inr ⟨by rfl, rfl⟩) ?_ ?_
          rotate_left; ·simp only [Act.put, List.setIfInBounds_toArray, List.set_cons_zero, List.set_cons_succ, i64_w, i32_w]; rfl
          refine pure_ (i := 33) (N := some 54) (v := undef) (a' := ?_) (bm_ 36 17179869183) rfl rfl (any_of HT_.out (by kernel_rfl)) (fun _ _ _ h => h) (Or.inr ⟨by rfl, rfl⟩) ?_ ?_
          rotate_left; ·simp only [Act.put, List.setIfInBounds_toArray, List.set_cons_zero, List.set_cons_succ, i64_w, i32_w]; rfl
          refine pure_ (i := 34) (N := some 55) (v := undef) (a' := ?_) (bm_ 36 34359738367) rfl rfl (any_of HT_.out (by kernel_rfl)) (fun _ _ _ h => h) (Or.inr ⟨by rfl, rfl⟩) ?_ ?_
          rotate_left; ·simp only [Act.put, List.setIfInBounds_toArray, List.set_cons_zero, List.set_cons_succ, i64_w, i32_w]; rfl
          refine pure_ (i := 35) (N := some 56) (v := ?_) (a' := ?_) (bm_ 36 68719476735) rfl rfl (any_of HT_.out (by kernel_rfl)) (fun _ _ _ h => h) (Or.inl ⟨by rfl, ?_⟩) ?_ ?_
          rotate_left; ·intro w'; go_simp; with_reducible rfl
          rotate_left; ·simp only [Act.put, List.setIfInBounds_toArray, List.set_cons_zero, List.set_cons_succ, i64_w, i32_w]; rfl
          refine done_ (done_of HT_.out (by kernel_rfl)) ?_
          try go_wp2
          go_meet
          case rel => exact ⟨_, (true), (by first | rfl | (simp; done) | (simp [*]; done) | (simp; first | exact given_isEmpty _ | exact (given_isEmpty _).symm) | (unfold wrap64; omega) | (congr 1; unfold wrap64; omega)), H', ⟨by have := HJ4.out; first | omega | exact Nat.le_refl _⟩, ⟨by (with_reducible repeat (first | refine blk_drewN ?_ _ | refine blk_drew ?_ | refine blk_alloc ?_ _)); exact BK382.out⟩, ⟨by (with_reducible repeat (first | refine blk_drewN ?_ _ | refine blk_drew ?_ | refine blk_alloc ?_ _)); exact BK388.out⟩, ⟨by (with_reducible repeat (first | refine blk_drewN ?_ _ | refine blk_drew ?_ | refine blk_alloc ?_ _)); exact BK392.out⟩, ⟨by repeat (first | (with_reducible first | exact HB.out | apply below_alloc | apply pw_below_drewN | apply below_drew1 | refine below_set ?_ GE382.out | refine below_set ?_ GE388.out | refine below_set ?_ GE392.out) | exact HB.out)⟩⟩
         ·rw [if_neg c45] at H
          have c45b0 : (t400 != (t401.toList == ([] : List UInt8))) = false := by simpa using c45
          (try (have c45b1 : decide (t400 = (t401.toList == ([] : List UInt8))) = true := by simpa using c45))
          (try (have c45b2 : (t400 == (t401.toList == ([] : List UInt8))) = true := by simpa using c45))
          (try (have c45b3 : (t400 != (t401.toList.isEmpty)) = false := by have z_ := c45; simp only [show ∀ l_ : List UInt8, (l_ == ([] : List UInt8)) = l_.isEmpty from fun l_ => by cases l_ <;> rfl] at z_; first | exact z_ | exact Bool.eq_false_iff.mpr z_))
          (try (have c45b4 : (t400 == (t401.toList.isEmpty)) = true := by have z_ := c45; simp only [show ∀ l_ : List UInt8, (l_ == ([] : List UInt8)) = l_.isEmpty from fun l_ => by cases l_ <;> rfl] at z_; first | exact Bool.not_eq_true'.mp z_ | exact Bool.not_eq_false'.mp (Bool.eq_false_iff.mpr z_) | simpa using z_))
          clear c45
          replace H := Option.bind_eq_some_iff.mp H
          obtain ⟨t402, A520, H⟩ := H
          replace H : ((dec_Dec_Zero.f kj4 t389 t390 t391).bind fun t403 => (florinlaw02_DecForms.j1 kj4 a1 (t402 != t403) a0_0 l0_1 a0_2 t385 t386 t387 t389 t390 t391)) = some r := H
          have A52 := Aside0.mk A520
          clear A520
          replace H := Option.bind_eq_some_iff.mp H
          obtain ⟨t403, A530, H⟩ := H
          replace H : (florinlaw02_DecForms.j1 kj4 a1 (t402 != t403) a0_0 l0_1 a0_2 t385 t386 t387 t389 t390 t391) = some r := H
          have A53 := Aside0.mk A530
          clear A530
          have H' := Aside0.mk H
          clear H
          try go_wp2
          have n0_ : Aside0 ((((w24.setCell ⟨gb392, 0, none⟩ (.bool t389)).setCell ⟨gb392, 1, none⟩ (.string t390)).setCell ⟨gb392, 2, none⟩ (.int .i64 t391)).heap[gb382]? = some (.cells #[.bool a0_0, .slice A0_1 l0_1.length c0_1, .int .i64 a0_2] 33 (0, 0))) := ⟨by (with_reducible repeat (first | refine blk_drewN ?_ _ | refine blk_drew ?_ | refine blk_alloc ?_ _)); refine blk_far ?_ NB382_392.out _; (with_reducible repeat (first | refine blk_drewN ?_ _ | refine blk_drew ?_ | refine blk_alloc ?_ _)); refine blk_far ?_ NB382_392.out _; (with_reducible repeat (first | refine blk_drewN ?_ _ | refine blk_drew ?_ | refine blk_alloc ?_ _)); refine blk_far ?_ NB382_392.out _; (with_reducible repeat (first | refine blk_drewN ?_ _ | refine blk_drew ?_ | refine blk_alloc ?_ _)); exact BK382.out⟩
          have n1_ : Aside0 ((((w24.setCell ⟨gb392, 0, none⟩ (.bool t389)).setCell ⟨gb392, 1, none⟩ (.string t390)).setCell ⟨gb392, 2, none⟩ (.int .i64 t391)).heap[gb388]? = some (.cells #[.bool t385, .string t386, .int .i64 t387] 24 (0, 0))) := ⟨by (with_reducible repeat (first | refine blk_drewN ?_ _ | refine blk_drew ?_ | refine blk_alloc ?_ _)); refine blk_far ?_ NB388_392.out _; (with_reducible repeat (first | refine blk_drewN ?_ _ | refine blk_drew ?_ | refine blk_alloc ?_ _)); refine blk_far ?_ NB388_392.out _; (with_reducible repeat (first | refine blk_drewN ?_ _ | refine blk_drew ?_ | refine blk_alloc ?_ _)); refine blk_far ?_ NB388_392.out _; (with_reducible repeat (first | refine blk_drewN ?_ _ | refine blk_drew ?_ | refine blk_alloc ?_ _)); exact BK388.out⟩
          have n2_ : Aside0 ((((w24.setCell ⟨gb392, 0, none⟩ (.bool t389)).setCell ⟨gb392, 1, none⟩ (.string t390)).setCell ⟨gb392, 2, none⟩ (.int .i64 t391)).heap[gb392]? = some (.cells #[.bool t389, .string t390, .int .i64 t391] 24 (0, 0))) := ⟨by (with_reducible repeat (first | refine blk_drewN ?_ _ | refine blk_drew ?_ | refine blk_alloc ?_ _)); refine blk_put (cs := #[.bool t389, .string t390, .int .i64 0]) ?_ 2 _ rfl; (with_reducible repeat (first | refine blk_drewN ?_ _ | refine blk_drew ?_ | refine blk_alloc ?_ _)); refine blk_put (cs := #[.bool t389, .string (⟨#[]⟩ : ByteArray), .int .i64 0]) ?_ 1 _ rfl; (with_reducible repeat (first | refine blk_drewN ?_ _ | refine blk_drew ?_ | refine blk_alloc ?_ _)); refine blk_put (cs := #[.bool false, .string (⟨#[]⟩ : ByteArray), .int .i64 0]) ?_ 0 _ rfl; (with_reducible repeat (first | refine blk_drewN ?_ _ | refine blk_drew ?_ | refine blk_alloc ?_ _)); exact BK392.out⟩
          have n3_ : Aside0 (Below w.heap.size w (((w24.setCell ⟨gb392, 0, none⟩ (.bool t389)).setCell ⟨gb392, 1, none⟩ (.string t390)).setCell ⟨gb392, 2, none⟩ (.int .i64 t391))) := ⟨by repeat (first | (with_reducible first | exact HB.out | apply below_alloc | apply pw_below_drewN | apply below_drew1 | refine below_set ?_ GE382.out | refine below_set ?_ GE388.out | refine below_set ?_ GE392.out) | exact HB.out)⟩
          (try clear BK382)
          (try clear BK388)
          (try clear BK392)
          (try clear HB)
          generalize (((w24.setCell ⟨gb392, 0, none⟩ (.bool t389)).setCell ⟨gb392, 1, none⟩ (.string t390)).setCell ⟨gb392, 2, none⟩ (.int .i64 t391)) = w54 at n0_ n1_ n2_ n3_ ⊢
          have BK382 := n0_
          have BK388 := n1_
          have BK392 := n2_
          have HB := n3_
          clear n0_ n1_ n2_ n3_
          have n0_ := Aside0.mk (blk_drew BK382.out)
          have n1_ := Aside0.mk (blk_drew BK388.out)
          have n2_ := Aside0.mk (blk_drew BK392.out)
          have n3_ := Aside0.mk (below_drew1 HB.out)
          clear BK382
          clear BK388
          clear BK392
          clear HB
          have BK382 := n0_
          have BK388 := n1_
          have BK392 := n2_
          have HB := n3_
          clear n0_ n1_ n2_ n3_
          refine start_ (n := 36) (S := fun w' => w'.cell? ⟨gb392, 0, none⟩ = some (.bool t389) ∧ w'.cell? ⟨gb392, 1, none⟩ = some (.string t390) ∧ w'.cell? ⟨gb392, 2, none⟩ = some (.int .i64 t391) ∧ w'.cell? ⟨gb382, 0, none⟩ = some (.bool a0_0) ∧ w'.cell? ⟨gb382, 1, none⟩ = some (.slice A0_1 l0_1.length c0_1) ∧ w'.cell? ⟨gb382, 2, none⟩ = some (.int .i64 a0_2) ∧ w'.cell? ⟨gb388, 0, none⟩ = some (.bool t385) ∧ w'.cell? ⟨gb388, 1, none⟩ = some (.string t386) ∧ w'.cell? ⟨gb388, 2, none⟩ = some (.int .i64 t387)) (ds := []) #[false, false, false, false, false, false, false, false, false, false, false, false, false, false, false, false, false, false, false, false, false, false, false, false, false, false, false, false, false, false, false, false, false, false, false, false] (by kernel_rfl) rfl rfl ⟨(blk_cell BK392.out 0).trans rfl, (blk_cell BK392.out 1).trans rfl, (blk_cell BK392.out 2).trans rfl, (blk_cell BK382.out 0).trans rfl, (blk_cell BK382.out 1).trans rfl, (blk_cell BK382.out 2).trans rfl, (blk_cell BK388.out 0).trans rfl, (blk_cell BK388.out 1).trans rfl, (blk_cell BK388.out 2).trans rfl⟩ (fun hHeld => ?_); refine with_tabW florinlaw02_DecForms.tab7 florinlaw02_DecForms.bits7 (fun HT_ HW_ => ?_)
          generalize w54.drew = w55 at BK382 BK388 BK392 HB hHeld ⊢
          refine take_ (i := 0) (N := some 21) (v := ?_) (a' := ?_) (bm_ 36 1) rfl rfl (take_ofW HT_.out HW_.out (by kernel_rfl)) (fun _ _ _ h => h) (Or.inl ⟨by rfl, ?_⟩) hHeld ?_ ?_
          rotate_left; ·rintro w' ⟨s0, s1, s2, s3, s4, s5, s6, s7, s8⟩; go_simp; with_reducible rfl
          rotate_left; ·simp only [Act.put, List.setIfInBounds_toArray, List.set_cons_zero, List.set_cons_succ, i64_w, i32_w]; rfl
          refine one_ (i := 1) (N := some 22) (bm_ 36 3) rfl rfl (one_of HT_.out (by kernel_rfl)) (by decide) (fun K hK => ?_)
          refine goes_ Tryd.func14 (by kernel_rfl) rfl #[.agg #[.bool t389, .string t390, .int .i64 t391]] (by rfl) rfl rfl (by (try simp only [List.map_toArray, List.map_cons, List.map_nil]); first | done | rfl | (simp only [List.length_drop, List.length_take]; rfl) | (have z_ : ∀ s_ : ByteArray, s_.size ≤ 9223372036854775807 → -(s_.size : Int) = wrap64 (-(s_.size : Int)) := (fun s_ h_ => by unfold wrap64; omega); rw [← z_ _ (by omega)]; rfl)) ?_
          with_reducible refine (florinlaw02_normal.calls kj4 t389 t390 t391 true _ A28.out).mono ?_
          rintro e w56 ⟨rfl, hb⟩
          refine ⟨_, rfl, ?_⟩
          have n0_ := bb_ BK382 hb
          have n1_ := bb_ BK388 hb
          have n2_ := bb_ BK392 hb
          have n3_ := Aside0.mk (below_step (by repeat (first | (with_reducible first | exact HB.out | apply below_alloc | apply pw_below_drewN | apply below_drew1 | refine below_set ?_ GE382.out | refine below_set ?_ GE388.out | refine below_set ?_ GE392.out) | exact HB.out)) hb)
          clear BK382
          clear BK388
          clear BK392
          clear HB
          have BK382 := n0_
          have BK388 := n1_
          have BK392 := n2_
          have HB := n3_
          clear n0_ n1_ n2_ n3_
          (try clear hb)
          (try clear hb2)
          (try clear hk)
          (try clear hi)
          refine hK.out _ _ ⟨(blk_cell BK392.out 0).trans rfl, (blk_cell BK392.out 1).trans rfl, (blk_cell BK392.out 2).trans rfl, (blk_cell BK382.out 0).trans rfl, (blk_cell BK382.out 1).trans rfl, (blk_cell BK382.out 2).trans rfl, (blk_cell BK388.out 0).trans rfl, (blk_cell BK388.out 1).trans rfl, (blk_cell BK388.out 2).trans rfl⟩ (fun hHeld => ?_)
          clear hK K
          refine norm_ (a' := ?_) ?_ ?_
          rotate_left
          ·show Act.put _ (some 22) _ = _
           simp only [Act.put, List.setIfInBounds_toArray, List.set_cons_zero, List.set_cons_succ, i64_w, i32_w]
           rfl
          refine pure_ (i := 2) (N := some 23) (v := ?_) (a' := ?_) (bm_ 36 7) rfl rfl (any_of HT_.out (by kernel_rfl)) (fun _ _ _ h => h) (Or.inl ⟨by rfl, ?_⟩) ?_ ?_
          rotate_left; ·intro w'; go_simp; with_reducible rfl
          rotate_left; ·simp only [Act.put, List.setIfInBounds_toArray, List.set_cons_zero, List.set_cons_succ, i64_w, i32_w]; rfl
          refine pure_ (i := 3) (N := some 24) (v := ?_) (a' := ?_) (bm_ 36 15) rfl rfl (any_of HT_.out (by kernel_rfl)) (fun _ _ _ h => h) (Or.inl ⟨by rfl, ?_⟩) ?_ ?_
          rotate_left; ·intro w'; go_simp; with_reducible rfl
          rotate_left; ·simp only [Act.put, List.setIfInBounds_toArray, List.set_cons_zero, List.set_cons_succ, i64_w, i32_w]; rfl
          refine pure_ (i := 5) (N := some 26) (v := ?_) (a' := ?_) (bm_ 36 47) rfl rfl (any_of HT_.out (by kernel_rfl)) (fun _ _ _ h => h) (Or.inl ⟨by rfl, ?_⟩) ?_ ?_
          rotate_left; ·intro w'; go_simp; with_reducible rfl
          rotate_left; ·simp only [Act.put, List.setIfInBounds_toArray, List.set_cons_zero, List.set_cons_succ, i64_w, i32_w]; rfl
          refine pure_ (i := 7) (N := some 28) (v := ?_) (a' := ?_) (bm_ 36 175) rfl rfl (any_of HT_.out (by kernel_rfl)) (fun _ _ _ h => h) (Or.inl ⟨by rfl, ?_⟩) ?_ ?_
          rotate_left; ·intro w'; go_simp; with_reducible rfl
          rotate_left; ·simp only [Act.put, List.setIfInBounds_toArray, List.set_cons_zero, List.set_cons_succ, i64_w, i32_w]; rfl
          refine pure_ (i := 9) (N := some 30) (v := ?_) (a' := ?_) (bm_ 36 687) rfl rfl (any_of HT_.out (by kernel_rfl)) (fun _ _ _ h => h) (Or.inl ⟨by rfl, ?_⟩) ?_ ?_
          rotate_left; ·intro w'; go_simp; with_reducible rfl
          rotate_left; ·simp only [Act.put, List.setIfInBounds_toArray, List.set_cons_zero, List.set_cons_succ, i64_w, i32_w]; rfl
          refine take_ (i := 4) (N := some 25) (v := ?_) (a' := ?_) (bm_ 36 703) rfl rfl (take_ofW HT_.out HW_.out (by kernel_rfl)) (fun _ _ _ h => h) (Or.inl ⟨by rfl, ?_⟩) hHeld ?_ ?_
          rotate_left; ·rintro w' ⟨s0, s1, s2, s3, s4, s5, s6, s7, s8⟩; go_simp; with_reducible rfl
          rotate_left; ·simp only [Act.put, List.setIfInBounds_toArray, List.set_cons_zero, List.set_cons_succ, i64_w, i32_w]; rfl
          refine take_ (i := 6) (N := some 27) (v := ?_) (a' := ?_) (bm_ 36 767) rfl rfl (take_ofW HT_.out HW_.out (by kernel_rfl)) (fun _ _ _ h => h) (Or.inl ⟨by rfl, ?_⟩) hHeld ?_ ?_
          rotate_left; ·rintro w' ⟨s0, s1, s2, s3, s4, s5, s6, s7, s8⟩; go_simp; with_reducible rfl
          rotate_left; ·simp only [Act.put, List.setIfInBounds_toArray, List.set_cons_zero, List.set_cons_succ, i64_w, i32_w]; rfl
          refine take_ (i := 8) (N := some 29) (v := ?_) (a' := ?_) (bm_ 36 1023) rfl rfl (take_ofW HT_.out HW_.out (by kernel_rfl)) (fun _ _ _ h => h) (Or.inl ⟨by rfl, ?_⟩) hHeld ?_ ?_
          rotate_left; ·rintro w' ⟨s0, s1, s2, s3, s4, s5, s6, s7, s8⟩; go_simp; with_reducible rfl
          rotate_left; ·simp only [Act.put, List.setIfInBounds_toArray, List.set_cons_zero, List.set_cons_succ, i64_w, i32_w]; rfl
          refine take_ (i := 10) (N := some 31) (v := ?_) (a' := ?_) (bm_ 36 2047) rfl rfl (take_ofW HT_.out HW_.out (by kernel_rfl)) (fun _ _ _ h => h) (Or.inl ⟨by rfl, ?_⟩) hHeld ?_ ?_
          rotate_left; ·rintro w' ⟨s0, s1, s2, s3, s4, s5, s6, s7, s8⟩; go_simp; with_reducible rfl
          rotate_left; ·simp only [Act.put, List.setIfInBounds_toArray, List.set_cons_zero, List.set_cons_succ, i64_w, i32_w]; rfl
          refine one_ (i := 11) (N := some 32) (bm_ 36 4095) rfl rfl (one_of HT_.out (by kernel_rfl)) (by decide) (fun K hK => ?_)
          refine goes_ Tryd.func22 (by kernel_rfl) rfl #[.bool a0_0, .string t386, .int .i64 a0_2] (by rfl) rfl rfl (by (try simp only [List.map_toArray, List.map_cons, List.map_nil]); first | done | rfl | (simp only [List.length_drop, List.length_take]; rfl) | (have z_ : ∀ s_ : ByteArray, s_.size ≤ 9223372036854775807 → -(s_.size : Int) = wrap64 (-(s_.size : Int)) := (fun s_ h_ => by unfold wrap64; omega); rw [← z_ _ (by omega)]; rfl)) ?_
          with_reducible refine (dec_Made.calls kj4 a0_0 t386 a0_2 t394 t395 t396 _ A30.out).mono ?_
          rintro e w57 ⟨rfl, hb⟩
          refine ⟨_, rfl, ?_⟩
          have n0_ := bb_ BK382 hb
          have n1_ := bb_ BK388 hb
          have n2_ := bb_ BK392 hb
          have n3_ := Aside0.mk (below_step (by repeat (first | (with_reducible first | exact HB.out | apply below_alloc | apply pw_below_drewN | apply below_drew1 | refine below_set ?_ GE382.out | refine below_set ?_ GE388.out | refine below_set ?_ GE392.out) | exact HB.out)) hb)
          clear BK382
          clear BK388
          clear BK392
          clear HB
          have BK382 := n0_
          have BK388 := n1_
          have BK392 := n2_
          have HB := n3_
          clear n0_ n1_ n2_ n3_
          (try clear hb)
          (try clear hb2)
          (try clear hk)
          (try clear hi)
          refine hK.out _ _ ⟨(blk_cell BK392.out 0).trans rfl, (blk_cell BK392.out 1).trans rfl, (blk_cell BK392.out 2).trans rfl, (blk_cell BK382.out 0).trans rfl, (blk_cell BK382.out 1).trans rfl, (blk_cell BK382.out 2).trans rfl, (blk_cell BK388.out 0).trans rfl, (blk_cell BK388.out 1).trans rfl, (blk_cell BK388.out 2).trans rfl⟩ (fun hHeld => ?_)
          clear hK K
          refine norm_ (a' := ?_) ?_ ?_
          rotate_left
          ·show Act.put _ (some 32) _ = _
           simp only [Act.put, List.setIfInBounds_toArray, List.set_cons_zero, List.set_cons_succ, i64_w, i32_w]
           rfl
          refine pure_ (i := 12) (N := some 33) (v := ?_) (a' := ?_) (bm_ 36 8191) rfl rfl (any_of HT_.out (by kernel_rfl)) (fun _ _ _ h => h) (Or.inl ⟨by rfl, ?_⟩) ?_ ?_
          rotate_left; ·intro w'; go_simp; with_reducible rfl
          rotate_left; ·simp only [Act.put, List.setIfInBounds_toArray, List.set_cons_zero, List.set_cons_succ, i64_w, i32_w]; rfl
          refine pure_ (i := 13) (N := some 34) (v := ?_) (a' := ?_) (bm_ 36 16383) rfl rfl (any_of HT_.out (by kernel_rfl)) (fun _ _ _ h => h) (Or.inl ⟨by rfl, ?_⟩) ?_ ?_
          rotate_left; ·intro w'; go_simp; with_reducible rfl
          rotate_left; ·simp only [Act.put, List.setIfInBounds_toArray, List.set_cons_zero, List.set_cons_succ, i64_w, i32_w]; rfl
          refine pure_ (i := 14) (N := some 35) (v := ?_) (a' := ?_) (bm_ 36 32767) rfl rfl (any_of HT_.out (by kernel_rfl)) (fun _ _ _ h => h) (Or.inl ⟨by rfl, ?_⟩) ?_ ?_
          rotate_left; ·intro w'; go_simp; with_reducible rfl
          rotate_left; ·simp only [Act.put, List.setIfInBounds_toArray, List.set_cons_zero, List.set_cons_succ, i64_w, i32_w]; rfl
          refine take_ (i := 15) (N := some 36) (v := ?_) (a' := ?_) (bm_ 36 65535) rfl rfl (take_ofW HT_.out HW_.out (by kernel_rfl)) (fun _ _ _ h => h) (Or.inl ⟨by rfl, ?_⟩) hHeld ?_ ?_
          rotate_left; ·rintro w' ⟨s0, s1, s2, s3, s4, s5, s6, s7, s8⟩; go_simp; with_reducible rfl
          rotate_left; ·simp only [Act.put, List.setIfInBounds_toArray, List.set_cons_zero, List.set_cons_succ, i64_w, i32_w]; rfl
          refine take_ (i := 17) (N := some 38) (v := ?_) (a' := ?_) (bm_ 36 196607) rfl rfl (take_ofW HT_.out HW_.out (by kernel_rfl)) (fun _ _ _ h => h) (Or.inl ⟨by rfl, ?_⟩) hHeld ?_ ?_
          rotate_left; ·rintro w' ⟨s0, s1, s2, s3, s4, s5, s6, s7, s8⟩; go_simp; with_reducible rfl
          rotate_left; ·simp only [Act.put, List.setIfInBounds_toArray, List.set_cons_zero, List.set_cons_succ, i64_w, i32_w]; rfl
          refine one_ (i := 16) (N := some 37) (bm_ 36 262143) rfl rfl (one_of HT_.out (by kernel_rfl)) (by decide) (fun K hK => ?_)
          refine goes_ Tryd.func19 (by kernel_rfl) rfl #[.agg #[.bool t389, .string t390, .int .i64 t391]] (by rfl) rfl rfl (by (try simp only [List.map_toArray, List.map_cons, List.map_nil]); first | done | rfl | (simp only [List.length_drop, List.length_take]; rfl) | (have z_ : ∀ s_ : ByteArray, s_.size ≤ 9223372036854775807 → -(s_.size : Int) = wrap64 (-(s_.size : Int)) := (fun s_ h_ => by unfold wrap64; omega); rw [← z_ _ (by omega)]; rfl)) ?_
          with_reducible refine (dec_Dec_Norm.calls kj4 t389 t390 t391 t397 t398 t399 _ A36.out).mono ?_
          rintro e w58 ⟨rfl, hb⟩
          refine ⟨_, rfl, ?_⟩
          have n0_ := bb_ BK382 hb
          have n1_ := bb_ BK388 hb
          have n2_ := bb_ BK392 hb
          have n3_ := Aside0.mk (below_step (by repeat (first | (with_reducible first | exact HB.out | apply below_alloc | apply pw_below_drewN | apply below_drew1 | refine below_set ?_ GE382.out | refine below_set ?_ GE388.out | refine below_set ?_ GE392.out) | exact HB.out)) hb)
          clear BK382
          clear BK388
          clear BK392
          clear HB
          have BK382 := n0_
          have BK388 := n1_
          have BK392 := n2_
          have HB := n3_
          clear n0_ n1_ n2_ n3_
          (try clear hb)
          (try clear hb2)
          (try clear hk)
          (try clear hi)
          refine hK.out _ _ ⟨(blk_cell BK392.out 0).trans rfl, (blk_cell BK392.out 1).trans rfl, (blk_cell BK392.out 2).trans rfl, (blk_cell BK382.out 0).trans rfl, (blk_cell BK382.out 1).trans rfl, (blk_cell BK382.out 2).trans rfl, (blk_cell BK388.out 0).trans rfl, (blk_cell BK388.out 1).trans rfl, (blk_cell BK388.out 2).trans rfl⟩ (fun hHeld => ?_)
          clear hK K
          refine norm_ (a' := ?_) ?_ ?_
          rotate_left
          ·show Act.put _ (some 37) _ = _
           simp only [Act.put, List.setIfInBounds_toArray, List.set_cons_zero, List.set_cons_succ, i64_w, i32_w]
           rfl
          refine pure_ (i := 18) (N := some 39) (v := ?_) (a' := ?_) (bm_ 36 524287) rfl rfl (any_of HT_.out (by kernel_rfl)) (fun _ _ _ h => h) (Or.inl ⟨by rfl, ?_⟩) ?_ ?_
          rotate_left; ·intro w'; go_simp; with_reducible rfl
          rotate_left; ·simp only [Act.put, List.setIfInBounds_toArray, List.set_cons_zero, List.set_cons_succ, i64_w, i32_w]; rfl
          refine pure_ (i := 19) (N := some 40) (v := ?_) (a' := ?_) (bm_ 36 1048575) rfl rfl (any_of HT_.out (by kernel_rfl)) (fun _ _ _ h => h) (Or.inl ⟨by rfl, ?_⟩) ?_ ?_
          rotate_left; ·intro w'; go_simp; with_reducible rfl
          rotate_left; ·simp only [Act.put, List.setIfInBounds_toArray, List.set_cons_zero, List.set_cons_succ, i64_w, i32_w]; rfl
          refine pure_ (i := 20) (N := some 41) (v := ?_) (a' := ?_) (bm_ 36 2097151) rfl rfl (any_of HT_.out (by kernel_rfl)) (fun _ _ _ h => h) (Or.inl ⟨by rfl, ?_⟩) ?_ ?_
          rotate_left; ·intro w'; go_simp; with_reducible rfl
          rotate_left; ·simp only [Act.put, List.setIfInBounds_toArray, List.set_cons_zero, List.set_cons_succ, i64_w, i32_w]; rfl
          refine pure_ (i := 23) (N := some 44) (v := ?_) (a' := ?_) (bm_ 36 10485759) rfl rfl (any_of HT_.out (by kernel_rfl)) (fun _ _ _ h => h) (Or.inl ⟨by rfl, ?_⟩) ?_ ?_
          rotate_left; ·intro w'; go_simp; with_reducible rfl
          rotate_left; ·simp only [Act.put, List.setIfInBounds_toArray, List.set_cons_zero, List.set_cons_succ, i64_w, i32_w]; rfl
          refine take_ (i := 21) (N := some 42) (v := ?_) (a' := ?_) (bm_ 36 12582911) rfl rfl (take_ofW HT_.out HW_.out (by kernel_rfl)) (fun _ _ _ h => h) (Or.inl ⟨by rfl, ?_⟩) hHeld ?_ ?_
          rotate_left; ·rintro w' ⟨s0, s1, s2, s3, s4, s5, s6, s7, s8⟩; go_simp; with_reducible rfl
          rotate_left; ·simp only [Act.put, List.setIfInBounds_toArray, List.set_cons_zero, List.set_cons_succ, i64_w, i32_w]; rfl
          refine take_ (i := 24) (N := some 45) (v := ?_) (a' := ?_) (bm_ 36 29360127) rfl rfl (take_ofW HT_.out HW_.out (by kernel_rfl)) (fun _ _ _ h => h) (Or.inl ⟨by rfl, ?_⟩) hHeld ?_ ?_
          rotate_left; ·rintro w' ⟨s0, s1, s2, s3, s4, s5, s6, s7, s8⟩; go_simp; with_reducible rfl
          rotate_left; ·simp only [Act.put, List.setIfInBounds_toArray, List.set_cons_zero, List.set_cons_succ, i64_w, i32_w]; rfl
          refine one_ (i := 22) (N := some 43) (bm_ 36 33554431) rfl rfl (one_of HT_.out (by kernel_rfl)) (by decide) (fun K hK => ?_)
          refine goes_ Tryd.func24 (by kernel_rfl) rfl #[.agg #[.bool t389, .string t390, .int .i64 t391]] (by rfl) rfl rfl (by (try simp only [List.map_toArray, List.map_cons, List.map_nil]); first | done | rfl | (simp only [List.length_drop, List.length_take]; rfl) | (have z_ : ∀ s_ : ByteArray, s_.size ≤ 9223372036854775807 → -(s_.size : Int) = wrap64 (-(s_.size : Int)) := (fun s_ h_ => by unfold wrap64; omega); rw [← z_ _ (by omega)]; rfl)) ?_
          with_reducible refine (dec_Dec_Zero.calls kj4 t389 t390 t391 t400 _ A43.out).mono ?_
          rintro e w59 ⟨rfl, hb⟩
          refine ⟨_, rfl, ?_⟩
          have n0_ := bb_ BK382 hb
          have n1_ := bb_ BK388 hb
          have n2_ := bb_ BK392 hb
          have n3_ := Aside0.mk (below_step (by repeat (first | (with_reducible first | exact HB.out | apply below_alloc | apply pw_below_drewN | apply below_drew1 | refine below_set ?_ GE382.out | refine below_set ?_ GE388.out | refine below_set ?_ GE392.out) | exact HB.out)) hb)
          clear BK382
          clear BK388
          clear BK392
          clear HB
          have BK382 := n0_
          have BK388 := n1_
          have BK392 := n2_
          have HB := n3_
          clear n0_ n1_ n2_ n3_
          (try clear hb)
          (try clear hb2)
          (try clear hk)
          (try clear hi)
          refine hK.out _ _ ⟨(blk_cell BK392.out 0).trans rfl, (blk_cell BK392.out 1).trans rfl, (blk_cell BK392.out 2).trans rfl, (blk_cell BK382.out 0).trans rfl, (blk_cell BK382.out 1).trans rfl, (blk_cell BK382.out 2).trans rfl, (blk_cell BK388.out 0).trans rfl, (blk_cell BK388.out 1).trans rfl, (blk_cell BK388.out 2).trans rfl⟩ (fun hHeld => ?_)
          clear hK K
          refine norm_ (a' := ?_) ?_ ?_
          rotate_left
          ·show Act.put _ (some 43) _ = _
           simp only [Act.put, List.setIfInBounds_toArray, List.set_cons_zero, List.set_cons_succ, i64_w, i32_w]
           rfl
          refine one_ (i := 25) (N := some 46) (bm_ 36 67108863) rfl rfl (one_of HT_.out (by kernel_rfl)) (by decide) (fun K hK => ?_)
          refine goes_ Tryd.func21 (by kernel_rfl) rfl #[.string t386] (by rfl) rfl rfl (by (try simp only [List.map_toArray, List.map_cons, List.map_nil]); first | done | rfl | (simp only [List.length_drop, List.length_take]; rfl) | (have z_ : ∀ s_ : ByteArray, s_.size ≤ 9223372036854775807 → -(s_.size : Int) = wrap64 (-(s_.size : Int)) := (fun s_ h_ => by unfold wrap64; omega); rw [← z_ _ (by omega)]; rfl)) ?_
          with_reducible refine (num_Trim.calls kj4 t386 t401 _ A44.out).mono ?_
          rintro e w' ⟨rfl, ⟨nd, rfl⟩⟩
          refine ⟨_, rfl, ?_⟩
          refine hK.out _ _ ⟨(blk_cell BK392.out 0).trans rfl, (blk_cell BK392.out 1).trans rfl, (blk_cell BK392.out 2).trans rfl, (blk_cell BK382.out 0).trans rfl, (blk_cell BK382.out 1).trans rfl, (blk_cell BK382.out 2).trans rfl, (blk_cell BK388.out 0).trans rfl, (blk_cell BK388.out 1).trans rfl, (blk_cell BK388.out 2).trans rfl⟩ (fun hHeld => ?_)
          clear hK K
          refine norm_ (a' := ?_) ?_ ?_
          rotate_left
          ·show Act.put _ (some 46) _ = _
           simp only [Act.put, List.setIfInBounds_toArray, List.set_cons_zero, List.set_cons_succ, i64_w, i32_w]
           rfl
          refine pure_ (i := 26) (N := some 47) (v := ?_) (a' := ?_) (bm_ 36 134217727) rfl rfl (any_of HT_.out (by kernel_rfl)) (fun _ _ _ h => h) (Or.inl ⟨by rfl, ?_⟩) ?_ ?_
          rotate_left; ·intro w'; go_simp; with_reducible rfl
          rotate_left; ·simp only [Act.put, List.setIfInBounds_toArray, List.set_cons_zero, List.set_cons_succ, i64_w, i32_w]; rfl
          refine pure_ (i := 27) (N := some 48) (v := ?_) (a' := ?_) (bm_ 36 268435455) rfl rfl (any_of HT_.out (by kernel_rfl)) (fun _ _ _ h => h) (Or.inl ⟨by rfl, ?_⟩) ?_ ?_
          rotate_left; ·intro w'; go_simp; with_reducible rfl
          rotate_left; ·simp only [Act.put, List.setIfInBounds_toArray, List.set_cons_zero, List.set_cons_succ, i64_w, i32_w]; rfl
          refine pure_ (i := 28) (N := some 49) (v := ?_) (a' := ?_) (bm_ 36 536870911) rfl rfl (any_of HT_.out (by kernel_rfl)) (fun _ _ _ h => h) (Or.inl ⟨by rfl, ?_⟩) ?_ ?_
          rotate_left; ·intro w'; go_simp; with_reducible rfl
          rotate_left; ·simp only [Act.put, List.setIfInBounds_toArray, List.set_cons_zero, List.set_cons_succ, i64_w, i32_w]; rfl
          refine pure_ (i := 29) (N := some 50) (v := ?_) (a' := ?_) (bm_ 36 1073741823) rfl rfl (any_of HT_.out (by kernel_rfl)) (fun _ _ _ h => h) (Or.inl ⟨by rfl, ?_⟩) ?_ ?_
          rotate_left; ·intro w'; go_simp; with_reducible rfl
          rotate_left; ·simp only [Act.put, List.setIfInBounds_toArray, List.set_cons_zero, List.set_cons_succ, i64_w, i32_w]; rfl
          refine take_ (i := 30) (N := some 51) (v := ?_) (a' := ?_) (bm_ 36 2147483647) rfl rfl (take_ofW HT_.out HW_.out (by kernel_rfl)) (fun _ _ _ h => h) (Or.inl ⟨by rfl, ?_⟩) hHeld ?_ ?_
          rotate_left; ·rintro w' ⟨s0, s1, s2, s3, s4, s5, s6, s7, s8⟩; go_simp; with_reducible rfl
          rotate_left; ·simp only [Act.put, List.setIfInBounds_toArray, List.set_cons_zero, List.set_cons_succ, i64_w, i32_w]; rfl
          refine take_ (i := 32) (N := some 53) (v := ?_) (a' := ?_) (bm_ 36 6442450943) rfl rfl (take_ofW HT_.out HW_.out (by kernel_rfl)) (fun _ _ _ h => h) (Or.inl ⟨by rfl, ?_⟩) hHeld ?_ ?_
          rotate_left; ·rintro w' ⟨s0, s1, s2, s3, s4, s5, s6, s7, s8⟩; go_simp; with_reducible rfl
          rotate_left; ·simp only [Act.put, List.setIfInBounds_toArray, List.set_cons_zero, List.set_cons_succ, i64_w, i32_w]; rfl
          refine one_ (i := 31) (N := some 52) (bm_ 36 8589934591) rfl rfl (one_of HT_.out (by kernel_rfl)) (by decide) (fun K hK => ?_)
          refine goes_ Tryd.func24 (by kernel_rfl) rfl #[.agg #[.bool t385, .string t386, .int .i64 t387]] (by rfl) rfl rfl (by (try simp only [List.map_toArray, List.map_cons, List.map_nil]); first | done | rfl | (simp only [List.length_drop, List.length_take]; rfl) | (have z_ : ∀ s_ : ByteArray, s_.size ≤ 9223372036854775807 → -(s_.size : Int) = wrap64 (-(s_.size : Int)) := (fun s_ h_ => by unfold wrap64; omega); rw [← z_ _ (by omega)]; rfl)) ?_
          with_reducible refine (dec_Dec_Zero.calls kj4 t385 t386 t387 t402 _ A52.out).mono ?_
          rintro e w60 ⟨rfl, hb⟩
          refine ⟨_, rfl, ?_⟩
          have n0_ := bb_ BK382 hb
          have n1_ := bb_ BK388 hb
          have n2_ := bb_ BK392 hb
          have n3_ := Aside0.mk (below_step (by repeat (first | (with_reducible first | exact HB.out | apply below_alloc | apply pw_below_drewN | apply below_drew1 | refine below_set ?_ GE382.out | refine below_set ?_ GE388.out | refine below_set ?_ GE392.out) | exact HB.out)) hb)
          clear BK382
          clear BK388
          clear BK392
          clear HB
          have BK382 := n0_
          have BK388 := n1_
          have BK392 := n2_
          have HB := n3_
          clear n0_ n1_ n2_ n3_
          (try clear hb)
          (try clear hb2)
          (try clear hk)
          (try clear hi)
          refine hK.out _ _ ⟨(blk_cell BK392.out 0).trans rfl, (blk_cell BK392.out 1).trans rfl, (blk_cell BK392.out 2).trans rfl, (blk_cell BK382.out 0).trans rfl, (blk_cell BK382.out 1).trans rfl, (blk_cell BK382.out 2).trans rfl, (blk_cell BK388.out 0).trans rfl, (blk_cell BK388.out 1).trans rfl, (blk_cell BK388.out 2).trans rfl⟩ (fun hHeld => ?_)
          clear hK K
          refine norm_ (a' := ?_) ?_ ?_
          rotate_left
          ·show Act.put _ (some 52) _ = _
           simp only [Act.put, List.setIfInBounds_toArray, List.set_cons_zero, List.set_cons_succ, i64_w, i32_w]
           rfl
          refine one_ (i := 33) (N := some 54) (bm_ 36 17179869183) rfl rfl (one_of HT_.out (by kernel_rfl)) (by decide) (fun K hK => ?_)
          refine goes_ Tryd.func24 (by kernel_rfl) rfl #[.agg #[.bool t389, .string t390, .int .i64 t391]] (by rfl) rfl rfl (by (try simp only [List.map_toArray, List.map_cons, List.map_nil]); first | done | rfl | (simp only [List.length_drop, List.length_take]; rfl) | (have z_ : ∀ s_ : ByteArray, s_.size ≤ 9223372036854775807 → -(s_.size : Int) = wrap64 (-(s_.size : Int)) := (fun s_ h_ => by unfold wrap64; omega); rw [← z_ _ (by omega)]; rfl)) ?_
          with_reducible refine (dec_Dec_Zero.calls kj4 t389 t390 t391 t403 _ A53.out).mono ?_
          rintro e w61 ⟨rfl, hb⟩
          refine ⟨_, rfl, ?_⟩
          have n0_ := bb_ BK382 hb
          have n1_ := bb_ BK388 hb
          have n2_ := bb_ BK392 hb
          have n3_ := Aside0.mk (below_step (by repeat (first | (with_reducible first | exact HB.out | apply below_alloc | apply pw_below_drewN | apply below_drew1 | refine below_set ?_ GE382.out | refine below_set ?_ GE388.out | refine below_set ?_ GE392.out) | exact HB.out)) hb)
          clear BK382
          clear BK388
          clear BK392
          clear HB
          have BK382 := n0_
          have BK388 := n1_
          have BK392 := n2_
          have HB := n3_
          clear n0_ n1_ n2_ n3_
          (try clear hb)
          (try clear hb2)
          (try clear hk)
          (try clear hi)
          refine hK.out _ _ ⟨(blk_cell BK392.out 0).trans rfl, (blk_cell BK392.out 1).trans rfl, (blk_cell BK392.out 2).trans rfl, (blk_cell BK382.out 0).trans rfl, (blk_cell BK382.out 1).trans rfl, (blk_cell BK382.out 2).trans rfl, (blk_cell BK388.out 0).trans rfl, (blk_cell BK388.out 1).trans rfl, (blk_cell BK388.out 2).trans rfl⟩ (fun hHeld => ?_)
          clear hK K
          refine norm_ (a' := ?_) ?_ ?_
          rotate_left
          ·show Act.put _ (some 54) _ = _
           simp only [Act.put, List.setIfInBounds_toArray, List.set_cons_zero, List.set_cons_succ, i64_w, i32_w]
           rfl
          refine pure_ (i := 34) (N := some 55) (v := ?_) (a' := ?_) (bm_ 36 34359738367) rfl rfl (any_of HT_.out (by kernel_rfl)) (fun _ _ _ h => h) (Or.inl ⟨by rfl, ?_⟩) ?_ ?_
          rotate_left; ·intro w'; go_simp; with_reducible rfl
          rotate_left; ·simp only [Act.put, List.setIfInBounds_toArray, List.set_cons_zero, List.set_cons_succ, i64_w, i32_w]; rfl
          refine pure_ (i := 35) (N := some 56) (v := ?_) (a' := ?_) (bm_ 36 68719476735) rfl rfl (any_of HT_.out (by kernel_rfl)) (fun _ _ _ h => h) (Or.inl ⟨by rfl, ?_⟩) ?_ ?_
          rotate_left; ·intro w'; go_simp; with_reducible rfl
          rotate_left; ·simp only [Act.put, List.setIfInBounds_toArray, List.set_cons_zero, List.set_cons_succ, i64_w, i32_w]; rfl
          refine done_ (done_of HT_.out (by kernel_rfl)) ?_
          try go_wp2
          go_meet
          case rel => exact ⟨_, ((t402 != t403)), (by first | rfl | (simp; done) | (simp [*]; done) | (simp; first | exact given_isEmpty _ | exact (given_isEmpty _).symm) | (unfold wrap64; omega) | (congr 1; unfold wrap64; omega)), H', ⟨by have := HJ4.out; first | omega | exact Nat.le_refl _⟩, ⟨by (with_reducible repeat (first | refine blk_drewN ?_ _ | refine blk_drew ?_ | refine blk_alloc ?_ _)); exact BK382.out⟩, ⟨by (with_reducible repeat (first | refine blk_drewN ?_ _ | refine blk_drew ?_ | refine blk_alloc ?_ _)); exact BK388.out⟩, ⟨by (with_reducible repeat (first | refine blk_drewN ?_ _ | refine blk_drew ?_ | refine blk_alloc ?_ _)); exact BK392.out⟩, ⟨by repeat (first | (with_reducible first | exact HB.out | apply below_alloc | apply pw_below_drewN | apply below_drew1 | refine below_set ?_ GE382.out | refine below_set ?_ GE388.out | refine below_set ?_ GE392.out) | exact HB.out)⟩⟩
      ·replace c29 := Bool.eq_false_iff.mpr c29
       subst c29
       have H1 : (florinlaw02_DecForms.j1 kj4 a1 true a0_0 l0_1 a0_2 t385 t386 t387 t389 t390 t391) = some r := by rw [if_neg (show ¬ (false = true) by decide)] at H; exact H
       clear H
       have H := H1
       clear H1
       have H' := Aside0.mk H
       clear H
       try go_wp2
       have n0_ : Aside0 ((((w24.setCell ⟨gb392, 0, none⟩ (.bool t389)).setCell ⟨gb392, 1, none⟩ (.string t390)).setCell ⟨gb392, 2, none⟩ (.int .i64 t391)).heap[gb382]? = some (.cells #[.bool a0_0, .slice A0_1 l0_1.length c0_1, .int .i64 a0_2] 33 (0, 0))) := ⟨by (with_reducible repeat (first | refine blk_drewN ?_ _ | refine blk_drew ?_ | refine blk_alloc ?_ _)); refine blk_far ?_ NB382_392.out _; (with_reducible repeat (first | refine blk_drewN ?_ _ | refine blk_drew ?_ | refine blk_alloc ?_ _)); refine blk_far ?_ NB382_392.out _; (with_reducible repeat (first | refine blk_drewN ?_ _ | refine blk_drew ?_ | refine blk_alloc ?_ _)); refine blk_far ?_ NB382_392.out _; (with_reducible repeat (first | refine blk_drewN ?_ _ | refine blk_drew ?_ | refine blk_alloc ?_ _)); exact BK382.out⟩
       have n1_ : Aside0 ((((w24.setCell ⟨gb392, 0, none⟩ (.bool t389)).setCell ⟨gb392, 1, none⟩ (.string t390)).setCell ⟨gb392, 2, none⟩ (.int .i64 t391)).heap[gb388]? = some (.cells #[.bool t385, .string t386, .int .i64 t387] 24 (0, 0))) := ⟨by (with_reducible repeat (first | refine blk_drewN ?_ _ | refine blk_drew ?_ | refine blk_alloc ?_ _)); refine blk_far ?_ NB388_392.out _; (with_reducible repeat (first | refine blk_drewN ?_ _ | refine blk_drew ?_ | refine blk_alloc ?_ _)); refine blk_far ?_ NB388_392.out _; (with_reducible repeat (first | refine blk_drewN ?_ _ | refine blk_drew ?_ | refine blk_alloc ?_ _)); refine blk_far ?_ NB388_392.out _; (with_reducible repeat (first | refine blk_drewN ?_ _ | refine blk_drew ?_ | refine blk_alloc ?_ _)); exact BK388.out⟩
       have n2_ : Aside0 ((((w24.setCell ⟨gb392, 0, none⟩ (.bool t389)).setCell ⟨gb392, 1, none⟩ (.string t390)).setCell ⟨gb392, 2, none⟩ (.int .i64 t391)).heap[gb392]? = some (.cells #[.bool t389, .string t390, .int .i64 t391] 24 (0, 0))) := ⟨by (with_reducible repeat (first | refine blk_drewN ?_ _ | refine blk_drew ?_ | refine blk_alloc ?_ _)); refine blk_put (cs := #[.bool t389, .string t390, .int .i64 0]) ?_ 2 _ rfl; (with_reducible repeat (first | refine blk_drewN ?_ _ | refine blk_drew ?_ | refine blk_alloc ?_ _)); refine blk_put (cs := #[.bool t389, .string (⟨#[]⟩ : ByteArray), .int .i64 0]) ?_ 1 _ rfl; (with_reducible repeat (first | refine blk_drewN ?_ _ | refine blk_drew ?_ | refine blk_alloc ?_ _)); refine blk_put (cs := #[.bool false, .string (⟨#[]⟩ : ByteArray), .int .i64 0]) ?_ 0 _ rfl; (with_reducible repeat (first | refine blk_drewN ?_ _ | refine blk_drew ?_ | refine blk_alloc ?_ _)); exact BK392.out⟩
       have n3_ : Aside0 (Below w.heap.size w (((w24.setCell ⟨gb392, 0, none⟩ (.bool t389)).setCell ⟨gb392, 1, none⟩ (.string t390)).setCell ⟨gb392, 2, none⟩ (.int .i64 t391))) := ⟨by repeat (first | (with_reducible first | exact HB.out | apply below_alloc | apply pw_below_drewN | apply below_drew1 | refine below_set ?_ GE382.out | refine below_set ?_ GE388.out | refine below_set ?_ GE392.out) | exact HB.out)⟩
       (try clear BK382)
       (try clear BK388)
       (try clear BK392)
       (try clear HB)
       generalize (((w24.setCell ⟨gb392, 0, none⟩ (.bool t389)).setCell ⟨gb392, 1, none⟩ (.string t390)).setCell ⟨gb392, 2, none⟩ (.int .i64 t391)) = w62 at n0_ n1_ n2_ n3_ ⊢
       have BK382 := n0_
       have BK388 := n1_
       have BK392 := n2_
       have HB := n3_
       clear n0_ n1_ n2_ n3_
       have n0_ := Aside0.mk (blk_drew BK382.out)
       have n1_ := Aside0.mk (blk_drew BK388.out)
       have n2_ := Aside0.mk (blk_drew BK392.out)
       have n3_ := Aside0.mk (below_drew1 HB.out)
       clear BK382
       clear BK388
       clear BK392
       clear HB
       have BK382 := n0_
       have BK388 := n1_
       have BK392 := n2_
       have HB := n3_
       clear n0_ n1_ n2_ n3_
       refine start_ (n := 36) (S := fun w' => w'.cell? ⟨gb392, 0, none⟩ = some (.bool t389) ∧ w'.cell? ⟨gb392, 1, none⟩ = some (.string t390) ∧ w'.cell? ⟨gb392, 2, none⟩ = some (.int .i64 t391)) (ds := []) #[false, false, false, false, false, false, false, false, false, false, false, false, false, false, false, false, false, false, false, false, false, false, false, false, false, false, false, false, false, false, false, false, false, false, false, false] (by kernel_rfl) rfl rfl ⟨(blk_cell BK392.out 0).trans rfl, (blk_cell BK392.out 1).trans rfl, (blk_cell BK392.out 2).trans rfl⟩ (fun hHeld => ?_); refine with_tabW florinlaw02_DecForms.tab7 florinlaw02_DecForms.bits7 (fun HT_ HW_ => ?_)
       generalize w62.drew = w63 at BK382 BK388 BK392 HB hHeld ⊢
       refine take_ (i := 0) (N := some 21) (v := ?_) (a' := ?_) (bm_ 36 1) rfl rfl (take_ofW HT_.out HW_.out (by kernel_rfl)) (fun _ _ _ h => h) (Or.inl ⟨by rfl, ?_⟩) hHeld ?_ ?_
       rotate_left; ·rintro w' ⟨s0, s1, s2⟩; go_simp; with_reducible rfl
       rotate_left; ·simp only [Act.put, List.setIfInBounds_toArray, List.set_cons_zero, List.set_cons_succ, i64_w, i32_w]; rfl
       refine one_ (i := 1) (N := some 22) (bm_ 36 3) rfl rfl (one_of HT_.out (by kernel_rfl)) (by decide) (fun K hK => ?_)
       refine goes_ Tryd.func14 (by kernel_rfl) rfl #[.agg #[.bool t389, .string t390, .int .i64 t391]] (by rfl) rfl rfl (by (try simp only [List.map_toArray, List.map_cons, List.map_nil]); first | done | rfl | (simp only [List.length_drop, List.length_take]; rfl) | (have z_ : ∀ s_ : ByteArray, s_.size ≤ 9223372036854775807 → -(s_.size : Int) = wrap64 (-(s_.size : Int)) := (fun s_ h_ => by unfold wrap64; omega); rw [← z_ _ (by omega)]; rfl)) ?_
       with_reducible refine (florinlaw02_normal.calls kj4 t389 t390 t391 false _ A28.out).mono ?_
       rintro e w64 ⟨rfl, hb⟩
       refine ⟨_, rfl, ?_⟩
       have n0_ := bb_ BK382 hb
       have n1_ := bb_ BK388 hb
       have n2_ := bb_ BK392 hb
       have n3_ := Aside0.mk (below_step (by repeat (first | (with_reducible first | exact HB.out | apply below_alloc | apply pw_below_drewN | apply below_drew1 | refine below_set ?_ GE382.out | refine below_set ?_ GE388.out | refine below_set ?_ GE392.out) | exact HB.out)) hb)
       clear BK382
       clear BK388
       clear BK392
       clear HB
       have BK382 := n0_
       have BK388 := n1_
       have BK392 := n2_
       have HB := n3_
       clear n0_ n1_ n2_ n3_
       (try clear hb)
       (try clear hb2)
       (try clear hk)
       (try clear hi)
       refine hK.out _ _ ⟨(blk_cell BK392.out 0).trans rfl, (blk_cell BK392.out 1).trans rfl, (blk_cell BK392.out 2).trans rfl⟩ (fun hHeld => ?_)
       clear hK K
       refine norm_ (a' := ?_) ?_ ?_
       rotate_left
       ·show Act.put _ (some 22) _ = _
        simp only [Act.put, List.setIfInBounds_toArray, List.set_cons_zero, List.set_cons_succ, i64_w, i32_w]
        rfl
       refine pure_ (i := 2) (N := some 23) (v := ?_) (a' := ?_) (bm_ 36 7) rfl rfl (any_of HT_.out (by kernel_rfl)) (fun _ _ _ h => h) (Or.inl ⟨by rfl, ?_⟩) ?_ ?_
       rotate_left; ·intro w'; go_simp; with_reducible rfl
       rotate_left; ·simp only [Act.put, List.setIfInBounds_toArray, List.set_cons_zero, List.set_cons_succ, i64_w, i32_w]; rfl
       refine pure_ (i := 3) (N := some 24) (v := ?_) (a' := ?_) (bm_ 36 15) rfl rfl (any_of HT_.out (by kernel_rfl)) (fun _ _ _ h => h) (Or.inl ⟨by rfl, ?_⟩) ?_ ?_
       rotate_left; ·intro w'; go_simp; with_reducible rfl
       rotate_left; ·simp only [Act.put, List.setIfInBounds_toArray, List.set_cons_zero, List.set_cons_succ, i64_w, i32_w]; rfl
       refine pure_ (i := 4) (N := some 25) (v := undef) (a' := ?_) (bm_ 36 31) rfl rfl (any_of HT_.out (by kernel_rfl)) (fun _ _ _ h => h) (Or.inr ⟨by rfl, rfl⟩) ?_ ?_
       rotate_left; ·simp only [Act.put, List.setIfInBounds_toArray, List.set_cons_zero, List.set_cons_succ, i64_w, i32_w]; rfl
       refine pure_ (i := 5) (N := some 26) (v := undef) (a' := ?_) (bm_ 36 63) rfl rfl (any_of HT_.out (by kernel_rfl)) (fun _ _ _ h => h) (Or.inr ⟨by rfl, rfl⟩) ?_ ?_
       rotate_left; ·simp only [Act.put, List.setIfInBounds_toArray, List.set_cons_zero, List.set_cons_succ, i64_w, i32_w]; rfl
       refine pure_ (i := 6) (N := some 27) (v := undef) (a' := ?_) (bm_ 36 127) rfl rfl (any_of HT_.out (by kernel_rfl)) (fun _ _ _ h => h) (Or.inr ⟨by rfl, rfl⟩) ?_ ?_
       rotate_left; ·simp only [Act.put, List.setIfInBounds_toArray, List.set_cons_zero, List.set_cons_succ, i64_w, i32_w]; rfl
       refine pure_ (i := 7) (N := some 28) (v := undef) (a' := ?_) (bm_ 36 255) rfl rfl (any_of HT_.out (by kernel_rfl)) (fun _ _ _ h => h) (Or.inr ⟨by rfl, rfl⟩) ?_ ?_
       rotate_left; ·simp only [Act.put, List.setIfInBounds_toArray, List.set_cons_zero, List.set_cons_succ, i64_w, i32_w]; rfl
       refine pure_ (i := 8) (N := some 29) (v := undef) (a' := ?_) (bm_ 36 511) rfl rfl (any_of HT_.out (by kernel_rfl)) (fun _ _ _ h => h) (Or.inr ⟨by rfl, rfl⟩) ?_ ?_
       rotate_left; ·simp only [Act.put, List.setIfInBounds_toArray, List.set_cons_zero, List.set_cons_succ, i64_w, i32_w]; rfl
       refine pure_ (i := 9) (N := some 30) (v := undef) (a' := ?_) (bm_ 36 1023) rfl rfl (any_of HT_.out (by kernel_rfl)) (fun _ _ _ h => h) (Or.inr ⟨by rfl, rfl⟩) ?_ ?_
       rotate_left; ·simp only [Act.put, List.setIfInBounds_toArray, List.set_cons_zero, List.set_cons_succ, i64_w, i32_w]; rfl
       refine pure_ (i := 10) (N := some 31) (v := undef) (a' := ?_) (bm_ 36 2047) rfl rfl (any_of HT_.out (by kernel_rfl)) (fun _ _ _ h => h) (Or.inr ⟨by rfl, rfl⟩) ?_ ?_
       rotate_left; ·simp only [Act.put, List.setIfInBounds_toArray, List.set_cons_zero, List.set_cons_succ, i64_w, i32_w]; rfl
       refine pure_ (i := 11) (N := some 32) (v := undef) (a' := ?_) (bm_ 36 4095) rfl rfl (any_of HT_.out (by kernel_rfl)) (fun _ _ _ h => h) (Or.inr ⟨by rfl, rfl⟩) ?_ ?_
       rotate_left; ·simp only [Act.put, List.setIfInBounds_toArray, List.set_cons_zero, List.set_cons_succ, i64_w, i32_w]; rfl
       refine pure_ (i := 12) (N := some 33) (v := undef) (a' := ?_) (bm_ 36 8191) rfl rfl (any_of HT_.out (by kernel_rfl)) (fun _ _ _ h => h) (Or.inr ⟨by rfl, rfl⟩) ?_ ?_
       rotate_left; ·simp only [Act.put, List.setIfInBounds_toArray, List.set_cons_zero, List.set_cons_succ, i64_w, i32_w]; rfl
       refine pure_ (i := 13) (N := some 34) (v := ?_) (a' := ?_) (bm_ 36 16383) rfl rfl (any_of HT_.out (by kernel_rfl)) (fun _ _ _ h => h) (Or.inl ⟨by rfl, ?_⟩) ?_ ?_
       rotate_left; ·intro w'; go_simp; with_reducible rfl
       rotate_left; ·simp only [Act.put, List.setIfInBounds_toArray, List.set_cons_zero, List.set_cons_succ, i64_w, i32_w]; rfl
       refine pure_ (i := 14) (N := some 35) (v := ?_) (a' := ?_) (bm_ 36 32767) rfl rfl (any_of HT_.out (by kernel_rfl)) (fun _ _ _ h => h) (Or.inl ⟨by rfl, ?_⟩) ?_ ?_
       rotate_left; ·intro w'; go_simp; with_reducible rfl
       rotate_left; ·simp only [Act.put, List.setIfInBounds_toArray, List.set_cons_zero, List.set_cons_succ, i64_w, i32_w]; rfl
       refine pure_ (i := 15) (N := some 36) (v := undef) (a' := ?_) (bm_ 36 65535) rfl rfl (any_of HT_.out (by kernel_rfl)) (fun _ _ _ h => h) (Or.inr ⟨by rfl, rfl⟩) ?_ ?_
       rotate_left; ·simp only [Act.put, List.setIfInBounds_toArray, List.set_cons_zero, List.set_cons_succ, i64_w, i32_w]; rfl
       refine pure_ (i := 16) (N := some 37) (v := undef) (a' := ?_) (bm_ 36 131071) rfl rfl (any_of HT_.out (by kernel_rfl)) (fun _ _ _ h => h) (Or.inr ⟨by rfl, rfl⟩) ?_ ?_
       rotate_left; ·simp only [Act.put, List.setIfInBounds_toArray, List.set_cons_zero, List.set_cons_succ, i64_w, i32_w]; rfl
       refine pure_ (i := 17) (N := some 38) (v := undef) (a' := ?_) (bm_ 36 262143) rfl rfl (any_of HT_.out (by kernel_rfl)) (fun _ _ _ h => h) (Or.inr ⟨by rfl, rfl⟩) ?_ ?_
       rotate_left; ·simp only [Act.put, List.setIfInBounds_toArray, List.set_cons_zero, List.set_cons_succ, i64_w, i32_w]; rfl
       refine pure_ (i := 18) (N := some 39) (v := undef) (a' := ?_) (bm_ 36 524287) rfl rfl (any_of HT_.out (by kernel_rfl)) (fun _ _ _ h => h) (Or.inr ⟨by rfl, rfl⟩) ?_ ?_
       rotate_left; ·simp only [Act.put, List.setIfInBounds_toArray, List.set_cons_zero, List.set_cons_succ, i64_w, i32_w]; rfl
       refine pure_ (i := 19) (N := some 40) (v := ?_) (a' := ?_) (bm_ 36 1048575) rfl rfl (any_of HT_.out (by kernel_rfl)) (fun _ _ _ h => h) (Or.inl ⟨by rfl, ?_⟩) ?_ ?_
       rotate_left; ·intro w'; go_simp; with_reducible rfl
       rotate_left; ·simp only [Act.put, List.setIfInBounds_toArray, List.set_cons_zero, List.set_cons_succ, i64_w, i32_w]; rfl
       refine pure_ (i := 20) (N := some 41) (v := ?_) (a' := ?_) (bm_ 36 2097151) rfl rfl (any_of HT_.out (by kernel_rfl)) (fun _ _ _ h => h) (Or.inl ⟨by rfl, ?_⟩) ?_ ?_
       rotate_left; ·intro w'; go_simp; with_reducible rfl
       rotate_left; ·simp only [Act.put, List.setIfInBounds_toArray, List.set_cons_zero, List.set_cons_succ, i64_w, i32_w]; rfl
       refine pure_ (i := 21) (N := some 42) (v := undef) (a' := ?_) (bm_ 36 4194303) rfl rfl (any_of HT_.out (by kernel_rfl)) (fun _ _ _ h => h) (Or.inr ⟨by rfl, rfl⟩) ?_ ?_
       rotate_left; ·simp only [Act.put, List.setIfInBounds_toArray, List.set_cons_zero, List.set_cons_succ, i64_w, i32_w]; rfl
       refine pure_ (i := 22) (N := some 43) (v := undef) (a' := ?_) (bm_ 36 8388607) rfl rfl (any_of HT_.out (by kernel_rfl)) (fun _ _ _ h => h) (Or.inr ⟨by rfl, rfl⟩) ?_ ?_
       rotate_left; ·simp only [Act.put, List.setIfInBounds_toArray, List.set_cons_zero, List.set_cons_succ, i64_w, i32_w]; rfl
       refine pure_ (i := 23) (N := some 44) (v := undef) (a' := ?_) (bm_ 36 16777215) rfl rfl (any_of HT_.out (by kernel_rfl)) (fun _ _ _ h => h) (Or.inr ⟨by rfl, rfl⟩) ?_ ?_
       rotate_left; ·simp only [Act.put, List.setIfInBounds_toArray, List.set_cons_zero, List.set_cons_succ, i64_w, i32_w]; rfl
       refine pure_ (i := 24) (N := some 45) (v := undef) (a' := ?_) (bm_ 36 33554431) rfl rfl (any_of HT_.out (by kernel_rfl)) (fun _ _ _ h => h) (Or.inr ⟨by rfl, rfl⟩) ?_ ?_
       rotate_left; ·simp only [Act.put, List.setIfInBounds_toArray, List.set_cons_zero, List.set_cons_succ, i64_w, i32_w]; rfl
       refine pure_ (i := 25) (N := some 46) (v := undef) (a' := ?_) (bm_ 36 67108863) rfl rfl (any_of HT_.out (by kernel_rfl)) (fun _ _ _ h => h) (Or.inr ⟨by rfl, rfl⟩) ?_ ?_
       rotate_left; ·simp only [Act.put, List.setIfInBounds_toArray, List.set_cons_zero, List.set_cons_succ, i64_w, i32_w]; rfl
       refine pure_ (i := 26) (N := some 47) (v := undef) (a' := ?_) (bm_ 36 134217727) rfl rfl (any_of HT_.out (by kernel_rfl)) (fun _ _ _ h => h) (Or.inr ⟨by rfl, rfl⟩) ?_ ?_
       rotate_left; ·simp only [Act.put, List.setIfInBounds_toArray, List.set_cons_zero, List.set_cons_succ, i64_w, i32_w]; rfl
       refine pure_ (i := 27) (N := some 48) (v := undef) (a' := ?_) (bm_ 36 268435455) rfl rfl (any_of HT_.out (by kernel_rfl)) (fun _ _ _ h => h) (Or.inr ⟨by rfl, rfl⟩) ?_ ?_
       rotate_left; ·simp only [Act.put, List.setIfInBounds_toArray, List.set_cons_zero, List.set_cons_succ, i64_w, i32_w]; rfl
       refine pure_ (i := 28) (N := some 49) (v := ?_) (a' := ?_) (bm_ 36 536870911) rfl rfl (any_of HT_.out (by kernel_rfl)) (fun _ _ _ h => h) (Or.inl ⟨by rfl, ?_⟩) ?_ ?_
       rotate_left; ·intro w'; go_simp; with_reducible rfl
       rotate_left; ·simp only [Act.put, List.setIfInBounds_toArray, List.set_cons_zero, List.set_cons_succ, i64_w, i32_w]; rfl
       refine pure_ (i := 29) (N := some 50) (v := ?_) (a' := ?_) (bm_ 36 1073741823) rfl rfl (any_of HT_.out (by kernel_rfl)) (fun _ _ _ h => h) (Or.inl ⟨by rfl, ?_⟩) ?_ ?_
       rotate_left; ·intro w'; go_simp; with_reducible rfl
       rotate_left; ·simp only [Act.put, List.setIfInBounds_toArray, List.set_cons_zero, List.set_cons_succ, i64_w, i32_w]; rfl
       refine pure_ (i := 30) (N := some 51) (v := undef) (a' := ?_) (bm_ 36 2147483647) rfl rfl (any_of HT_.out (by kernel_rfl)) (fun _ _ _ h => h) (Or.inr ⟨by rfl, rfl⟩) ?_ ?_
       rotate_left; ·simp only [Act.put, List.setIfInBounds_toArray, List.set_cons_zero, List.set_cons_succ, i64_w, i32_w]; rfl
       refine pure_ (i := 31) (N := some 52) (v := undef) (a' := ?_) (bm_ 36 4294967295) rfl rfl (any_of HT_.out (by kernel_rfl)) (fun _ _ _ h => h) (Or.inr ⟨by rfl, rfl⟩) ?_ ?_
       rotate_left; ·simp only [Act.put, List.setIfInBounds_toArray, List.set_cons_zero, List.set_cons_succ, i64_w, i32_w]; rfl
       refine pure_ (i := 32) (N := some 53) (v := undef) (a' := ?_) (bm_ 36 8589934591) rfl rfl (any_of HT_.out (by kernel_rfl)) (fun _ _ _ h => h) (Or.inr ⟨by rfl, rfl⟩) ?_ ?_
       rotate_left; ·simp only [Act.put, List.setIfInBounds_toArray, List.set_cons_zero, List.set_cons_succ, i64_w, i32_w]; rfl
       refine pure_ (i := 33) (N := some 54) (v := undef) (a' := ?_) (bm_ 36 17179869183) rfl rfl (any_of HT_.out (by kernel_rfl)) (fun _ _ _ h => h) (Or.inr ⟨by rfl, rfl⟩) ?_ ?_
       rotate_left; ·simp only [Act.put, List.setIfInBounds_toArray, List.set_cons_zero, List.set_cons_succ, i64_w, i32_w]; rfl
       refine pure_ (i := 34) (N := some 55) (v := undef) (a' := ?_) (bm_ 36 34359738367) rfl rfl (any_of HT_.out (by kernel_rfl)) (fun _ _ _ h => h) (Or.inr ⟨by rfl, rfl⟩) ?_ ?_
       rotate_left; ·simp only [Act.put, List.setIfInBounds_toArray, List.set_cons_zero, List.set_cons_succ, i64_w, i32_w]; rfl
       refine pure_ (i := 35) (N := some 56) (v := ?_) (a' := ?_) (bm_ 36 68719476735) rfl rfl (any_of HT_.out (by kernel_rfl)) (fun _ _ _ h => h) (Or.inl ⟨by rfl, ?_⟩) ?_ ?_
       rotate_left; ·intro w'; go_simp; with_reducible rfl
       rotate_left; ·simp only [Act.put, List.setIfInBounds_toArray, List.set_cons_zero, List.set_cons_succ, i64_w, i32_w]; rfl
       refine done_ (done_of HT_.out (by kernel_rfl)) ?_
       try go_wp2
       go_meet
       case rel => exact ⟨_, (true), (by first | rfl | (simp; done) | (simp [*]; done) | (simp; first | exact given_isEmpty _ | exact (given_isEmpty _).symm) | (unfold wrap64; omega) | (congr 1; unfold wrap64; omega)), H', ⟨by have := HJ4.out; first | omega | exact Nat.le_refl _⟩, ⟨by (with_reducible repeat (first | refine blk_drewN ?_ _ | refine blk_drew ?_ | refine blk_alloc ?_ _)); exact BK382.out⟩, ⟨by (with_reducible repeat (first | refine blk_drewN ?_ _ | refine blk_drew ?_ | refine blk_alloc ?_ _)); exact BK388.out⟩, ⟨by (with_reducible repeat (first | refine blk_drewN ?_ _ | refine blk_drew ?_ | refine blk_alloc ?_ _)); exact BK392.out⟩, ⟨by repeat (first | (with_reducible first | exact HB.out | apply below_alloc | apply pw_below_drewN | apply below_drew1 | refine below_set ?_ GE382.out | refine below_set ?_ GE388.out | refine below_set ?_ GE392.out) | exact HB.out)⟩⟩
     case rest =>
      clear HC17
      try clear c1
      try clear c2
      try clear p2
      try clear p6
      try clear c14
      try clear c19
      try clear c21
      try clear c22
      try clear c24
      try clear c29
      try clear p64
      obtain ⟨kq, x56_16, rfl, HA, HJ16, BK382, BK388, BK392, HB⟩ := hcut
      cases kq with
      | zero => exact absurd HA.out (by simp [florinlaw02_DecForms.j1])
      | succ kj16 =>
       have H := HA.out
       clear HA
       simp only [florinlaw02_DecForms.j1] at H
       by_cases c65 : x56_16 = true
       ·subst c65
        have H1 : (some false) = some r := by rw [if_pos rfl] at H; exact H
        clear H
        have H := H1
        clear H1
        obtain rfl := Option.some.inj H
        go_wp2
        go_ret
        exact ⟨by first | rfl | (simp [errW_none, errW_some] <;> rfl) | (simp [*, errW_none, errW_some] <;> first | rfl | exact given_isEmpty _ | exact (given_isEmpty _).symm), by repeat (first | (with_reducible first | exact HB.out | apply below_alloc | apply pw_below_drewN | apply below_drew1 | refine below_set ?_ GE382.out | refine below_set ?_ GE388.out | refine below_set ?_ GE392.out) | exact HB.out)⟩
       ·replace c65 := Bool.eq_false_iff.mpr c65
        subst c65
        have H1 : ((num_Is.f kj16 a1).bind fun t404 => (if t404 = true then (florinlaw02_DecForms.j2 kj16 false a0_0 l0_1 a0_2 t385 t386 t387 t389 t390 t391) else ((dec_Made.f kj16 true a1 3).bind fun bt405 => (if (bt405.1 || (!(bt405.2.1.toList == ([] : List UInt8)) || (!(bt405.2.2 == 0)))) = true then (florinlaw02_DecForms.j2 kj16 true a0_0 l0_1 a0_2 t385 t386 t387 t389 t390 t391) else ((dec_Dec_Zero.f kj16 false a1 0).bind fun t408 => (florinlaw02_DecForms.j2 kj16 (!t408) a0_0 l0_1 a0_2 t385 t386 t387 t389 t390 t391)))))) = some r := by rw [if_neg (show ¬ (false = true) by decide)] at H; exact H
        clear H
        have H := H1
        clear H1
        have HC66 := Aside0.mk H
        clear H
        go_upto_region 9 with (fail)
        go_cut [71] (fun v71 wc => ∃ (kq : Nat) (x71_65 : Bool), v71 = .bool x71_65 ∧ Aside0 (florinlaw02_DecForms.j2 kq x71_65 a0_0 l0_1 a0_2 t385 t386 t387 t389 t390 t391 = some r) ∧ Aside0 (kq ≤ kj16) ∧ Aside0 (wc.heap[gb382]? = some (.cells #[.bool a0_0, (.slice A0_1 l0_1.length c0_1), .int .i64 a0_2] 33 (0, 0))) ∧ Aside0 (wc.heap[gb388]? = some (.cells #[.bool t385, .string t386, .int .i64 t387] 24 (0, 0))) ∧ Aside0 (wc.heap[gb392]? = some (.cells #[.bool t389, .string t390, .int .i64 t391] 24 (0, 0))) ∧ Aside0 (Below w.heap.size w wc))
        case first =>
         have H := HC66.out
         clear HC66
         replace H := Option.bind_eq_some_iff.mp H
         obtain ⟨t404, A670, H⟩ := H
         replace H : (if t404 = true then (florinlaw02_DecForms.j2 kj16 false a0_0 l0_1 a0_2 t385 t386 t387 t389 t390 t391) else ((dec_Made.f kj16 true a1 3).bind fun bt405 => (if (bt405.1 || (!(bt405.2.1.toList == ([] : List UInt8)) || (!(bt405.2.2 == 0)))) = true then (florinlaw02_DecForms.j2 kj16 true a0_0 l0_1 a0_2 t385 t386 t387 t389 t390 t391) else ((dec_Dec_Zero.f kj16 false a1 0).bind fun t408 => (florinlaw02_DecForms.j2 kj16 (!t408) a0_0 l0_1 a0_2 t385 t386 t387 t389 t390 t391))))) = some r := H
         have A67 := Aside0.mk A670
         clear A670
         by_cases c68 : t404 = true
         ·subst c68
          have H1 : (florinlaw02_DecForms.j2 kj16 false a0_0 l0_1 a0_2 t385 t386 t387 t389 t390 t391) = some r := by rw [if_pos rfl] at H; exact H
          clear H
          have H := H1
          clear H1
          have H' := Aside0.mk H
          clear H
          go_wp2_with (first | ((with_reducible refine gate_callee (f := 29) rfl ?_); refine goesL_ (some 58) rfl rfl Tryd.func29 (by kernel_rfl) rfl #[.string a1] rfl (by (try simp only [List.map_toArray, List.map_cons, List.map_nil]); first | done | rfl | (simp only [List.length_drop, List.length_take]; rfl) | (have z_ : ∀ s_ : ByteArray, s_.size ≤ 9223372036854775807 → -(s_.size : Int) = wrap64 (-(s_.size : Int)) := (fun s_ h_ => by unfold wrap64; omega); rw [← z_ _ (by omega)]; rfl)) ?_; (with_reducible refine (num_Is.calls kj16 a1 true _ A67.out).mono ?_); rintro e w' ⟨rfl, ⟨nd, rfl⟩⟩; refine ⟨_, rfl, ?_⟩))
          go_meet
          case rel => exact ⟨_, (false), (by first | rfl | (simp; done) | (simp [*]; done) | (simp; first | exact given_isEmpty _ | exact (given_isEmpty _).symm) | (unfold wrap64; omega) | (congr 1; unfold wrap64; omega)), H', ⟨by have := HJ4.out; have := HJ16.out; first | omega | exact Nat.le_refl _⟩, ⟨by (with_reducible repeat (first | refine blk_drewN ?_ _ | refine blk_drew ?_ | refine blk_alloc ?_ _)); exact BK382.out⟩, ⟨by (with_reducible repeat (first | refine blk_drewN ?_ _ | refine blk_drew ?_ | refine blk_alloc ?_ _)); exact BK388.out⟩, ⟨by (with_reducible repeat (first | refine blk_drewN ?_ _ | refine blk_drew ?_ | refine blk_alloc ?_ _)); exact BK392.out⟩, ⟨by repeat (first | (with_reducible first | exact HB.out | apply below_alloc | apply pw_below_drewN | apply below_drew1 | refine below_set ?_ GE382.out | refine below_set ?_ GE388.out | refine below_set ?_ GE392.out) | exact HB.out)⟩⟩
         ·replace c68 := Bool.eq_false_iff.mpr c68
          subst c68
          have H1 : ((dec_Made.f kj16 true a1 3).bind fun bt405 => (if (bt405.1 || (!(bt405.2.1.toList == ([] : List UInt8)) || (!(bt405.2.2 == 0)))) = true then (florinlaw02_DecForms.j2 kj16 true a0_0 l0_1 a0_2 t385 t386 t387 t389 t390 t391) else ((dec_Dec_Zero.f kj16 false a1 0).bind fun t408 => (florinlaw02_DecForms.j2 kj16 (!t408) a0_0 l0_1 a0_2 t385 t386 t387 t389 t390 t391)))) = some r := by rw [if_neg (show ¬ (false = true) by decide)] at H; exact H
          clear H
          have H := H1
          clear H1
          replace H := Option.bind_eq_some_iff.mp H
          obtain ⟨⟨t405, t406, t407⟩, A690, H⟩ := H
          replace H : (if (t405 || (!(t406.toList == ([] : List UInt8)) || (!(t407 == 0)))) = true then (florinlaw02_DecForms.j2 kj16 true a0_0 l0_1 a0_2 t385 t386 t387 t389 t390 t391) else ((dec_Dec_Zero.f kj16 false a1 0).bind fun t408 => (florinlaw02_DecForms.j2 kj16 (!t408) a0_0 l0_1 a0_2 t385 t386 t387 t389 t390 t391))) = some r := H
          have A69 := Aside0.mk A690
          clear A690
          by_cases c70 : (t405 || (!(t406.toList == ([] : List UInt8)) || (!(t407 == 0)))) = true
          ·rw [if_pos c70] at H
           have c70b0 : (t405 || (!(t406.toList == ([] : List UInt8)) || (!(t407 == 0)))) = true := c70
           (try (have c70b1 : (t405 || (!(t406.toList.isEmpty) || (!(t407 == 0)))) = true := by have z_ := c70; simp only [show ∀ l_ : List UInt8, (l_ == ([] : List UInt8)) = l_.isEmpty from fun l_ => by cases l_ <;> rfl] at z_; first | exact z_ | exact Bool.eq_false_iff.mpr z_))
           clear c70
           (first | rw [c70b0] | (simp only [i64_w, i32_w]; rw [c70b0]) | rw [c70b1] | skip)
           have H' := Aside0.mk H
           clear H
           go_wp2_with (first | ((with_reducible refine gate_callee (f := 29) rfl ?_); refine goesL_ (some 58) rfl rfl Tryd.func29 (by kernel_rfl) rfl #[.string a1] rfl (by (try simp only [List.map_toArray, List.map_cons, List.map_nil]); first | done | rfl | (simp only [List.length_drop, List.length_take]; rfl) | (have z_ : ∀ s_ : ByteArray, s_.size ≤ 9223372036854775807 → -(s_.size : Int) = wrap64 (-(s_.size : Int)) := (fun s_ h_ => by unfold wrap64; omega); rw [← z_ _ (by omega)]; rfl)) ?_; (with_reducible refine (num_Is.calls kj16 a1 false _ A67.out).mono ?_); rintro e w' ⟨rfl, ⟨nd, rfl⟩⟩; refine ⟨_, rfl, ?_⟩) | (go_at_call 22; (with_reducible refine (dec_Made.calls kj16 true a1 3 t405 t406 t407 _ A69.out).mono ?_); rintro e w71 ⟨rfl, hb⟩; have n0_ := bb_ BK382 hb; have n1_ := bb_ BK388 hb; have n2_ := bb_ BK392 hb; have n3_ := Aside0.mk (below_step (by repeat (first | (with_reducible first | exact HB.out | apply below_alloc | apply pw_below_drewN | apply below_drew1 | refine below_set ?_ GE382.out | refine below_set ?_ GE388.out | refine below_set ?_ GE392.out) | exact HB.out)) hb); clear BK382; clear BK388; clear BK392; clear HB; have BK382 := n0_; have BK388 := n1_; have BK392 := n2_; have HB := n3_; clear n0_ n1_ n2_ n3_; (try clear hb); (try clear hb2); (try clear hk); (try clear hi)))
           go_meet
           case rel => exact ⟨_, (true), (by first | rfl | (simp; done) | (simp [*]; done) | (simp; first | exact given_isEmpty _ | exact (given_isEmpty _).symm) | (unfold wrap64; omega) | (congr 1; unfold wrap64; omega)), H', ⟨by have := HJ4.out; have := HJ16.out; first | omega | exact Nat.le_refl _⟩, ⟨by (with_reducible repeat (first | refine blk_drewN ?_ _ | refine blk_drew ?_ | refine blk_alloc ?_ _)); exact BK382.out⟩, ⟨by (with_reducible repeat (first | refine blk_drewN ?_ _ | refine blk_drew ?_ | refine blk_alloc ?_ _)); exact BK388.out⟩, ⟨by (with_reducible repeat (first | refine blk_drewN ?_ _ | refine blk_drew ?_ | refine blk_alloc ?_ _)); exact BK392.out⟩, ⟨by repeat (first | (with_reducible first | exact HB.out | apply below_alloc | apply pw_below_drewN | apply below_drew1 | refine below_set ?_ GE382.out | refine below_set ?_ GE388.out | refine below_set ?_ GE392.out) | exact HB.out)⟩⟩
          ·rw [if_neg c70] at H
           have c70b0 : (t405 || (!(t406.toList == ([] : List UInt8)) || (!(t407 == 0)))) = false := by simpa using c70
           (try (have c70b1 : (t405 || (!(t406.toList.isEmpty) || (!(t407 == 0)))) = false := by have z_ := c70; simp only [show ∀ l_ : List UInt8, (l_ == ([] : List UInt8)) = l_.isEmpty from fun l_ => by cases l_ <;> rfl] at z_; first | exact z_ | exact Bool.eq_false_iff.mpr z_))
           clear c70
           (first | rw [c70b0] | (simp only [i64_w, i32_w]; rw [c70b0]) | rw [c70b1] | skip)
           replace H := Option.bind_eq_some_iff.mp H
           obtain ⟨t408, A720, H⟩ := H
           replace H : (florinlaw02_DecForms.j2 kj16 (!t408) a0_0 l0_1 a0_2 t385 t386 t387 t389 t390 t391) = some r := H
           have A72 := Aside0.mk A720
           clear A720
           have H' := Aside0.mk H
           clear H
           go_wp2_with (first | ((with_reducible refine gate_callee (f := 29) rfl ?_); refine goesL_ (some 58) rfl rfl Tryd.func29 (by kernel_rfl) rfl #[.string a1] rfl (by (try simp only [List.map_toArray, List.map_cons, List.map_nil]); first | done | rfl | (simp only [List.length_drop, List.length_take]; rfl) | (have z_ : ∀ s_ : ByteArray, s_.size ≤ 9223372036854775807 → -(s_.size : Int) = wrap64 (-(s_.size : Int)) := (fun s_ h_ => by unfold wrap64; omega); rw [← z_ _ (by omega)]; rfl)) ?_; (with_reducible refine (num_Is.calls kj16 a1 false _ A67.out).mono ?_); rintro e w' ⟨rfl, ⟨nd, rfl⟩⟩; refine ⟨_, rfl, ?_⟩) | (go_at_call 22; (with_reducible refine (dec_Made.calls kj16 true a1 3 t405 t406 t407 _ A69.out).mono ?_); rintro e w73 ⟨rfl, hb⟩; have n0_ := bb_ BK382 hb; have n1_ := bb_ BK388 hb; have n2_ := bb_ BK392 hb; have n3_ := Aside0.mk (below_step (by repeat (first | (with_reducible first | exact HB.out | apply below_alloc | apply pw_below_drewN | apply below_drew1 | refine below_set ?_ GE382.out | refine below_set ?_ GE388.out | refine below_set ?_ GE392.out) | exact HB.out)) hb); clear BK382; clear BK388; clear BK392; clear HB; have BK382 := n0_; have BK388 := n1_; have BK392 := n2_; have HB := n3_; clear n0_ n1_ n2_ n3_; (try clear hb); (try clear hb2); (try clear hk); (try clear hi)) | (go_at_call 24; (with_reducible refine (dec_Dec_Zero.calls kj16 false a1 0 t408 _ A72.out).mono ?_); rintro e w74 ⟨rfl, hb⟩; have n0_ := bb_ BK382 hb; have n1_ := bb_ BK388 hb; have n2_ := bb_ BK392 hb; have n3_ := Aside0.mk (below_step (by repeat (first | (with_reducible first | exact HB.out | apply below_alloc | apply pw_below_drewN | apply below_drew1 | refine below_set ?_ GE382.out | refine below_set ?_ GE388.out | refine below_set ?_ GE392.out) | exact HB.out)) hb); clear BK382; clear BK388; clear BK392; clear HB; have BK382 := n0_; have BK388 := n1_; have BK392 := n2_; have HB := n3_; clear n0_ n1_ n2_ n3_; (try clear hb); (try clear hb2); (try clear hk); (try clear hi)))
           go_meet
           case rel => exact ⟨_, (!t408), (by first | rfl | (simp; done) | (simp [*]; done) | (simp; first | exact given_isEmpty _ | exact (given_isEmpty _).symm) | (unfold wrap64; omega) | (congr 1; unfold wrap64; omega)), H', ⟨by have := HJ4.out; have := HJ16.out; first | omega | exact Nat.le_refl _⟩, ⟨by (with_reducible repeat (first | refine blk_drewN ?_ _ | refine blk_drew ?_ | refine blk_alloc ?_ _)); exact BK382.out⟩, ⟨by (with_reducible repeat (first | refine blk_drewN ?_ _ | refine blk_drew ?_ | refine blk_alloc ?_ _)); exact BK388.out⟩, ⟨by (with_reducible repeat (first | refine blk_drewN ?_ _ | refine blk_drew ?_ | refine blk_alloc ?_ _)); exact BK392.out⟩, ⟨by repeat (first | (with_reducible first | exact HB.out | apply below_alloc | apply pw_below_drewN | apply below_drew1 | refine below_set ?_ GE382.out | refine below_set ?_ GE388.out | refine below_set ?_ GE392.out) | exact HB.out)⟩⟩
        case rest =>
         clear HC66
         try clear c1
         try clear c2
         try clear p2
         try clear c6
         try clear p6
         try clear c7
         try clear c14
         try clear c19
         try clear c21
         try clear c22
         try clear c24
         try clear c29
         try clear p64
         try clear c65
         try clear c68
         try clear c70
         try clear c70b0
         try clear c70b1
         try clear p2
         try clear p6
         try clear p64
         obtain ⟨kq, x71_65, rfl, HA, HJ65, BK382, BK388, BK392, HB⟩ := hcut
         cases kq with
         | zero => exact absurd HA.out (by simp [florinlaw02_DecForms.j2])
         | succ kj65 =>
          have H := HA.out
          clear HA
          simp only [florinlaw02_DecForms.j2] at H
          by_cases c75 : x71_65 = true
          ·subst c75
           have H1 : (some false) = some r := by rw [if_pos rfl] at H; exact H
           clear H
           have H := H1
           clear H1
           obtain rfl := Option.some.inj H
           go_wp2
           go_ret
           exact ⟨by first | rfl | (simp [errW_none, errW_some] <;> rfl) | (simp [*, errW_none, errW_some] <;> first | rfl | exact given_isEmpty _ | exact (given_isEmpty _).symm), by repeat (first | (with_reducible first | exact HB.out | apply below_alloc | apply pw_below_drewN | apply below_drew1 | refine below_set ?_ GE382.out | refine below_set ?_ GE388.out | refine below_set ?_ GE392.out) | exact HB.out)⟩
          ·replace c75 := Bool.eq_false_iff.mpr c75
           subst c75
           have H1 : ((dec_Dec_Zero.f kj65 t389 t390 t391).bind fun t409 => (if t409 = true then (some true) else (if (t389 == a0_0) = true then ((florinlaw02_Places.f kj65 t389 t390 t391 60).bind fun t410 => ((florinlaw02_Places.f kj65 t385 t386 t387 60).bind fun t411 => ((num_Cmp.f kj65 t410 t411).bind fun t412 => (some (t412 == 0))))) else (some false)))) = some r := by rw [if_neg (show ¬ (false = true) by decide)] at H; exact H
           clear H
           have H := H1
           clear H1
           replace H := Option.bind_eq_some_iff.mp H
           obtain ⟨t409, A760, H⟩ := H
           replace H : (if t409 = true then (some true) else (if (t389 == a0_0) = true then ((florinlaw02_Places.f kj65 t389 t390 t391 60).bind fun t410 => ((florinlaw02_Places.f kj65 t385 t386 t387 60).bind fun t411 => ((num_Cmp.f kj65 t410 t411).bind fun t412 => (some (t412 == 0))))) else (some false))) = some r := H
           have A76 := Aside0.mk A760
           clear A760
           by_cases c77 : t409 = true
           ·subst c77
            have H1 : (some true) = some r := by rw [if_pos rfl] at H; exact H
            clear H
            have H := H1
            clear H1
            obtain rfl := Option.some.inj H
            have hnb78 := NB392_382.out
            have hnc78 := NB382_392.out
            have hnb79 := NB392_388.out
            have hnc79 := NB388_392.out
            have hcz80_0 : wc.cell? ⟨gb392, 0, none⟩ = some (.bool t389) := (blk_cell BK392.out 0).trans rfl
            have hcz80_1 : wc.cell? ⟨gb392, 1, none⟩ = some (.string t390) := (blk_cell BK392.out 1).trans rfl
            have hcz80_2 : wc.cell? ⟨gb392, 2, none⟩ = some (.int .i64 t391) := (blk_cell BK392.out 2).trans rfl
            have hfz80_0 := blk_frozen BK392.out 0
            have hfz80_1 := blk_frozen BK392.out 1
            have hfz80_2 := blk_frozen BK392.out 2
            go_wp2_with (first | ((with_reducible refine gate_callee (f := 24) rfl ?_); refine goesL_ (some 73) rfl rfl Tryd.func24 (by kernel_rfl) rfl #[.agg #[.bool t389, .string t390, .int .i64 t391]] rfl (by (try simp only [List.map_toArray, List.map_cons, List.map_nil]); first | done | rfl | (simp only [List.length_drop, List.length_take]; rfl) | (have z_ : ∀ s_ : ByteArray, s_.size ≤ 9223372036854775807 → -(s_.size : Int) = wrap64 (-(s_.size : Int)) := (fun s_ h_ => by unfold wrap64; omega); rw [← z_ _ (by omega)]; rfl)) ?_; (with_reducible refine (dec_Dec_Zero.calls kj65 t389 t390 t391 true _ A76.out).mono ?_); rintro e w81 ⟨rfl, hb⟩; refine ⟨_, rfl, ?_⟩; have n0_ := bb_ BK382 hb; have n1_ := bb_ BK388 hb; have n2_ := bb_ BK392 hb; have n3_ := Aside0.mk (below_step (by repeat (first | (with_reducible first | exact HB.out | apply below_alloc | apply pw_below_drewN | apply below_drew1 | refine below_set ?_ GE382.out | refine below_set ?_ GE388.out | refine below_set ?_ GE392.out) | exact HB.out)) hb); clear BK382; clear BK388; clear BK392; clear HB; have BK382 := n0_; have BK388 := n1_; have BK392 := n2_; have HB := n3_; clear n0_ n1_ n2_ n3_; (try clear hb); (try clear hb2); (try clear hk); (try clear hi)))
            go_ret
            exact ⟨by first | rfl | (simp [errW_none, errW_some] <;> rfl) | (simp [*, errW_none, errW_some] <;> first | rfl | exact given_isEmpty _ | exact (given_isEmpty _).symm), by repeat (first | (with_reducible first | exact HB.out | apply below_alloc | apply pw_below_drewN | apply below_drew1 | refine below_set ?_ GE382.out | refine below_set ?_ GE388.out | refine below_set ?_ GE392.out) | exact HB.out)⟩
           ·replace c77 := Bool.eq_false_iff.mpr c77
            subst c77
            have H1 : (if (t389 == a0_0) = true then ((florinlaw02_Places.f kj65 t389 t390 t391 60).bind fun t410 => ((florinlaw02_Places.f kj65 t385 t386 t387 60).bind fun t411 => ((num_Cmp.f kj65 t410 t411).bind fun t412 => (some (t412 == 0))))) else (some false)) = some r := by rw [if_neg (show ¬ (false = true) by decide)] at H; exact H
            clear H
            have H := H1
            clear H1
            by_cases c82 : (t389 == a0_0) = true
            ·rw [if_pos c82] at H
             have c82b0 : (t389 == a0_0) = true := c82
             (try (have c82b1 : decide (t389 = a0_0) = true := by simpa using c82))
             (try (have c82b2 : (t389 == a0_0) = true := by simpa using c82))
             clear c82
             replace H := Option.bind_eq_some_iff.mp H
             obtain ⟨t410, A830, H⟩ := H
             replace H : ((florinlaw02_Places.f kj65 t385 t386 t387 60).bind fun t411 => ((num_Cmp.f kj65 t410 t411).bind fun t412 => (some (t412 == 0)))) = some r := H
             have A83 := Aside0.mk A830
             clear A830
             replace H := Option.bind_eq_some_iff.mp H
             obtain ⟨t411, A840, H⟩ := H
             replace H : ((num_Cmp.f kj65 t410 t411).bind fun t412 => (some (t412 == 0))) = some r := H
             have A84 := Aside0.mk A840
             clear A840
             replace H := Option.bind_eq_some_iff.mp H
             obtain ⟨t412, A850, H⟩ := H
             replace H : (some (t412 == 0)) = some r := H
             have A85 := Aside0.mk A850
             clear A850
             obtain rfl := Option.some.inj H
             have hnb86 := NB392_382.out
             have hnc86 := NB382_392.out
             have hnb87 := NB392_388.out
             have hnc87 := NB388_392.out
             have hcz88_0 : wc.cell? ⟨gb392, 0, none⟩ = some (.bool t389) := (blk_cell BK392.out 0).trans rfl
             have hcz88_1 : wc.cell? ⟨gb392, 1, none⟩ = some (.string t390) := (blk_cell BK392.out 1).trans rfl
             have hcz88_2 : wc.cell? ⟨gb392, 2, none⟩ = some (.int .i64 t391) := (blk_cell BK392.out 2).trans rfl
             have hfz88_0 := blk_frozen BK392.out 0
             have hfz88_1 := blk_frozen BK392.out 1
             have hfz88_2 := blk_frozen BK392.out 2
             try go_wp2_with (first | ((with_reducible refine gate_callee (f := 24) rfl ?_); refine goesL_ (some 73) rfl rfl Tryd.func24 (by kernel_rfl) rfl #[.agg #[.bool t389, .string t390, .int .i64 t391]] rfl (by (try simp only [List.map_toArray, List.map_cons, List.map_nil]); first | done | rfl | (simp only [List.length_drop, List.length_take]; rfl) | (have z_ : ∀ s_ : ByteArray, s_.size ≤ 9223372036854775807 → -(s_.size : Int) = wrap64 (-(s_.size : Int)) := (fun s_ h_ => by unfold wrap64; omega); rw [← z_ _ (by omega)]; rfl)) ?_; (with_reducible refine (dec_Dec_Zero.calls kj65 t389 t390 t391 false _ A76.out).mono ?_); rintro e w89 ⟨rfl, hb⟩; refine ⟨_, rfl, ?_⟩; have n0_ := bb_ BK382 hb; have n1_ := bb_ BK388 hb; have n2_ := bb_ BK392 hb; have n3_ := Aside0.mk (below_step (by repeat (first | (with_reducible first | exact HB.out | apply below_alloc | apply pw_below_drewN | apply below_drew1 | refine below_set ?_ GE382.out | refine below_set ?_ GE388.out | refine below_set ?_ GE392.out) | exact HB.out)) hb); clear BK382; clear BK388; clear BK392; clear HB; have BK382 := n0_; have BK388 := n1_; have BK392 := n2_; have HB := n3_; clear n0_ n1_ n2_ n3_; (try clear hb); (try clear hb2); (try clear hk); (try clear hi)))
             have n0_ := Aside0.mk (blk_drew BK382.out)
             have n1_ := Aside0.mk (blk_drew BK388.out)
             have n2_ := Aside0.mk (blk_drew BK392.out)
             have n3_ := Aside0.mk (below_drew1 HB.out)
             clear BK382
             clear BK388
             clear BK392
             clear HB
             have BK382 := n0_
             have BK388 := n1_
             have BK392 := n2_
             have HB := n3_
             clear n0_ n1_ n2_ n3_
             refine start_ (n := 14) (S := fun w' => w'.cell? ⟨gb392, 0, none⟩ = some (.bool t389) ∧ w'.cell? ⟨gb392, 1, none⟩ = some (.string t390) ∧ w'.cell? ⟨gb392, 2, none⟩ = some (.int .i64 t391) ∧ w'.cell? ⟨gb382, 0, none⟩ = some (.bool a0_0) ∧ w'.cell? ⟨gb382, 1, none⟩ = some (.slice A0_1 l0_1.length c0_1) ∧ w'.cell? ⟨gb382, 2, none⟩ = some (.int .i64 a0_2) ∧ w'.cell? ⟨gb388, 0, none⟩ = some (.bool t385) ∧ w'.cell? ⟨gb388, 1, none⟩ = some (.string t386) ∧ w'.cell? ⟨gb388, 2, none⟩ = some (.int .i64 t387)) (ds := []) #[false, false, false, false, false, false, false, false, false, false, false, false, false, false] (by kernel_rfl) rfl rfl ⟨(blk_cell BK392.out 0).trans rfl, (blk_cell BK392.out 1).trans rfl, (blk_cell BK392.out 2).trans rfl, (blk_cell BK382.out 0).trans rfl, (blk_cell BK382.out 1).trans rfl, (blk_cell BK382.out 2).trans rfl, (blk_cell BK388.out 0).trans rfl, (blk_cell BK388.out 1).trans rfl, (blk_cell BK388.out 2).trans rfl⟩ (fun hHeld => ?_); refine with_tabW florinlaw02_DecForms.tab13 florinlaw02_DecForms.bits13 (fun HT_ HW_ => ?_)
             generalize w89.drew = w90 at BK382 BK388 BK392 HB hHeld ⊢
             refine pure_ (i := 0) (N := some 74) (v := ?_) (a' := ?_) (bm_ 14 1) rfl rfl (any_of HT_.out (by kernel_rfl)) (fun _ _ _ h => h) (Or.inl ⟨by rfl, ?_⟩) ?_ ?_
             rotate_left; ·intro w'; go_simp; with_reducible rfl
             rotate_left; ·simp only [Act.put, List.setIfInBounds_toArray, List.set_cons_zero, List.set_cons_succ, i64_w, i32_w]; rfl
             refine pure_ (i := 2) (N := some 76) (v := ?_) (a' := ?_) (bm_ 14 5) rfl rfl (any_of HT_.out (by kernel_rfl)) (fun _ _ _ h => h) (Or.inl ⟨by rfl, ?_⟩) ?_ ?_
             rotate_left; ·intro w'; go_simp; with_reducible rfl
             rotate_left; ·simp only [Act.put, List.setIfInBounds_toArray, List.set_cons_zero, List.set_cons_succ, i64_w, i32_w]; rfl
             refine take_ (i := 1) (N := some 75) (v := ?_) (a' := ?_) (bm_ 14 7) rfl rfl (take_ofW HT_.out HW_.out (by kernel_rfl)) (fun _ _ _ h => h) (Or.inl ⟨by rfl, ?_⟩) hHeld ?_ ?_
             rotate_left; ·rintro w' ⟨s0, s1, s2, s3, s4, s5, s6, s7, s8⟩; go_simp; with_reducible rfl
             rotate_left; ·simp only [Act.put, List.setIfInBounds_toArray, List.set_cons_zero, List.set_cons_succ, i64_w, i32_w]; rfl
             refine take_ (i := 3) (N := some 77) (v := ?_) (a' := ?_) (bm_ 14 15) rfl rfl (take_ofW HT_.out HW_.out (by kernel_rfl)) (fun _ _ _ h => h) (Or.inl ⟨by rfl, ?_⟩) hHeld ?_ ?_
             rotate_left; ·rintro w' ⟨s0, s1, s2, s3, s4, s5, s6, s7, s8⟩; go_simp; with_reducible rfl
             rotate_left; ·simp only [Act.put, List.setIfInBounds_toArray, List.set_cons_zero, List.set_cons_succ, i64_w, i32_w]; rfl
             refine pure_ (i := 4) (N := some 78) (v := ?_) (a' := ?_) (bm_ 14 31) rfl rfl (any_of HT_.out (by kernel_rfl)) (fun _ _ _ h => h) (Or.inl ⟨by rfl, ?_⟩) ?_ ?_
             rotate_left; ·intro w'; go_simp; with_reducible rfl
             rotate_left; ·simp only [Act.put, List.setIfInBounds_toArray, List.set_cons_zero, List.set_cons_succ, i64_w, i32_w]; rfl
             refine pure_ (i := 5) (N := some 79) (v := ?_) (a' := ?_) (bm_ 14 63) rfl rfl (any_of HT_.out (by kernel_rfl)) (fun _ _ _ h => h) (Or.inl ⟨by rfl, ?_⟩) ?_ ?_
             rotate_left; ·intro w'; go_simp; with_reducible rfl
             rotate_left; ·simp only [Act.put, List.setIfInBounds_toArray, List.set_cons_zero, List.set_cons_succ, i64_w, i32_w]; rfl
             refine take_ (i := 6) (N := some 80) (v := ?_) (a' := ?_) (bm_ 14 127) rfl rfl (take_ofW HT_.out HW_.out (by kernel_rfl)) (fun _ _ _ h => h) (Or.inl ⟨by rfl, ?_⟩) hHeld ?_ ?_
             rotate_left; ·rintro w' ⟨s0, s1, s2, s3, s4, s5, s6, s7, s8⟩; go_simp; with_reducible rfl
             rotate_left; ·simp only [Act.put, List.setIfInBounds_toArray, List.set_cons_zero, List.set_cons_succ, i64_w, i32_w]; rfl
             refine take_ (i := 8) (N := some 82) (v := ?_) (a' := ?_) (bm_ 14 383) rfl rfl (take_ofW HT_.out HW_.out (by kernel_rfl)) (fun _ _ _ h => h) (Or.inl ⟨by rfl, ?_⟩) hHeld ?_ ?_
             rotate_left; ·rintro w' ⟨s0, s1, s2, s3, s4, s5, s6, s7, s8⟩; go_simp; with_reducible rfl
             rotate_left; ·simp only [Act.put, List.setIfInBounds_toArray, List.set_cons_zero, List.set_cons_succ, i64_w, i32_w]; rfl
             refine one_ (i := 7) (N := some 81) (bm_ 14 511) rfl rfl (one_of HT_.out (by kernel_rfl)) (by decide) (fun K hK => ?_)
             refine goes_ Tryd.func31 (by kernel_rfl) rfl #[.agg #[.bool t389, .string t390, .int .i64 t391], .int .i64 60] (by rfl) rfl rfl (by (try simp only [List.map_toArray, List.map_cons, List.map_nil]); first | done | rfl | (simp only [List.length_drop, List.length_take]; rfl) | (have z_ : ∀ s_ : ByteArray, s_.size ≤ 9223372036854775807 → -(s_.size : Int) = wrap64 (-(s_.size : Int)) := (fun s_ h_ => by unfold wrap64; omega); rw [← z_ _ (by omega)]; rfl)) ?_
             with_reducible refine (florinlaw02_Places.calls kj65 t389 t390 t391 60 t410 _ A83.out).mono ?_
             rintro e w91 ⟨rfl, hb⟩
             refine ⟨_, rfl, ?_⟩
             have n0_ := bb_ BK382 hb
             have n1_ := bb_ BK388 hb
             have n2_ := bb_ BK392 hb
             have n3_ := Aside0.mk (below_step (by repeat (first | (with_reducible first | exact HB.out | apply below_alloc | apply pw_below_drewN | apply below_drew1 | refine below_set ?_ GE382.out | refine below_set ?_ GE388.out | refine below_set ?_ GE392.out) | exact HB.out)) hb)
             clear BK382
             clear BK388
             clear BK392
             clear HB
             have BK382 := n0_
             have BK388 := n1_
             have BK392 := n2_
             have HB := n3_
             clear n0_ n1_ n2_ n3_
             (try clear hb)
             (try clear hb2)
             (try clear hk)
             (try clear hi)
             refine hK.out _ _ ⟨(blk_cell BK392.out 0).trans rfl, (blk_cell BK392.out 1).trans rfl, (blk_cell BK392.out 2).trans rfl, (blk_cell BK382.out 0).trans rfl, (blk_cell BK382.out 1).trans rfl, (blk_cell BK382.out 2).trans rfl, (blk_cell BK388.out 0).trans rfl, (blk_cell BK388.out 1).trans rfl, (blk_cell BK388.out 2).trans rfl⟩ (fun hHeld => ?_)
             clear hK K
             refine norm_ (a' := ?_) ?_ ?_
             rotate_left
             ·show Act.put _ (some 81) _ = _
              simp only [Act.put, List.setIfInBounds_toArray, List.set_cons_zero, List.set_cons_succ, i64_w, i32_w]
              rfl
             refine one_ (i := 9) (N := some 83) (bm_ 14 1023) rfl rfl (one_of HT_.out (by kernel_rfl)) (by decide) (fun K hK => ?_)
             refine goes_ Tryd.func31 (by kernel_rfl) rfl #[.agg #[.bool t385, .string t386, .int .i64 t387], .int .i64 60] (by rfl) rfl rfl (by (try simp only [List.map_toArray, List.map_cons, List.map_nil]); first | done | rfl | (simp only [List.length_drop, List.length_take]; rfl) | (have z_ : ∀ s_ : ByteArray, s_.size ≤ 9223372036854775807 → -(s_.size : Int) = wrap64 (-(s_.size : Int)) := (fun s_ h_ => by unfold wrap64; omega); rw [← z_ _ (by omega)]; rfl)) ?_
             with_reducible refine (florinlaw02_Places.calls kj65 t385 t386 t387 60 t411 _ A84.out).mono ?_
             rintro e w92 ⟨rfl, hb⟩
             refine ⟨_, rfl, ?_⟩
             have n0_ := bb_ BK382 hb
             have n1_ := bb_ BK388 hb
             have n2_ := bb_ BK392 hb
             have n3_ := Aside0.mk (below_step (by repeat (first | (with_reducible first | exact HB.out | apply below_alloc | apply pw_below_drewN | apply below_drew1 | refine below_set ?_ GE382.out | refine below_set ?_ GE388.out | refine below_set ?_ GE392.out) | exact HB.out)) hb)
             clear BK382
             clear BK388
             clear BK392
             clear HB
             have BK382 := n0_
             have BK388 := n1_
             have BK392 := n2_
             have HB := n3_
             clear n0_ n1_ n2_ n3_
             (try clear hb)
             (try clear hb2)
             (try clear hk)
             (try clear hi)
             refine hK.out _ _ ⟨(blk_cell BK392.out 0).trans rfl, (blk_cell BK392.out 1).trans rfl, (blk_cell BK392.out 2).trans rfl, (blk_cell BK382.out 0).trans rfl, (blk_cell BK382.out 1).trans rfl, (blk_cell BK382.out 2).trans rfl, (blk_cell BK388.out 0).trans rfl, (blk_cell BK388.out 1).trans rfl, (blk_cell BK388.out 2).trans rfl⟩ (fun hHeld => ?_)
             clear hK K
             refine norm_ (a' := ?_) ?_ ?_
             rotate_left
             ·show Act.put _ (some 83) _ = _
              simp only [Act.put, List.setIfInBounds_toArray, List.set_cons_zero, List.set_cons_succ, i64_w, i32_w]
              rfl
             refine one_ (i := 10) (N := some 84) (bm_ 14 2047) rfl rfl (one_of HT_.out (by kernel_rfl)) (by decide) (fun K hK => ?_)
             refine goes_ Tryd.func30 (by kernel_rfl) rfl #[.string t410, .string t411] (by rfl) rfl rfl (by (try simp only [List.map_toArray, List.map_cons, List.map_nil]); first | done | rfl | (simp only [List.length_drop, List.length_take]; rfl) | (have z_ : ∀ s_ : ByteArray, s_.size ≤ 9223372036854775807 → -(s_.size : Int) = wrap64 (-(s_.size : Int)) := (fun s_ h_ => by unfold wrap64; omega); rw [← z_ _ (by omega)]; rfl)) ?_
             with_reducible refine (num_Cmp.calls kj65 t410 t411 t412 _ A85.out).mono ?_
             rintro e w93 ⟨rfl, hb⟩
             refine ⟨_, rfl, ?_⟩
             have n0_ := bb_ BK382 hb
             have n1_ := bb_ BK388 hb
             have n2_ := bb_ BK392 hb
             have n3_ := Aside0.mk (below_step (by repeat (first | (with_reducible first | exact HB.out | apply below_alloc | apply pw_below_drewN | apply below_drew1 | refine below_set ?_ GE382.out | refine below_set ?_ GE388.out | refine below_set ?_ GE392.out) | exact HB.out)) hb)
             clear BK382
             clear BK388
             clear BK392
             clear HB
             have BK382 := n0_
             have BK388 := n1_
             have BK392 := n2_
             have HB := n3_
             clear n0_ n1_ n2_ n3_
             (try clear hb)
             (try clear hb2)
             (try clear hk)
             (try clear hi)
             refine hK.out _ _ ⟨(blk_cell BK392.out 0).trans rfl, (blk_cell BK392.out 1).trans rfl, (blk_cell BK392.out 2).trans rfl, (blk_cell BK382.out 0).trans rfl, (blk_cell BK382.out 1).trans rfl, (blk_cell BK382.out 2).trans rfl, (blk_cell BK388.out 0).trans rfl, (blk_cell BK388.out 1).trans rfl, (blk_cell BK388.out 2).trans rfl⟩ (fun hHeld => ?_)
             clear hK K
             refine norm_ (a' := ?_) ?_ ?_
             rotate_left
             ·show Act.put _ (some 84) _ = _
              simp only [Act.put, List.setIfInBounds_toArray, List.set_cons_zero, List.set_cons_succ, i64_w, i32_w]
              rfl
             refine pure_ (i := 11) (N := some 85) (v := ?_) (a' := ?_) (bm_ 14 4095) rfl rfl (any_of HT_.out (by kernel_rfl)) (fun _ _ _ h => h) (Or.inl ⟨by rfl, ?_⟩) ?_ ?_
             rotate_left; ·intro w'; go_simp; with_reducible rfl
             rotate_left; ·simp only [Act.put, List.setIfInBounds_toArray, List.set_cons_zero, List.set_cons_succ, i64_w, i32_w]; rfl
             refine pure_ (i := 12) (N := some 86) (v := ?_) (a' := ?_) (bm_ 14 8191) rfl rfl (any_of HT_.out (by kernel_rfl)) (fun _ _ _ h => h) (Or.inl ⟨by rfl, ?_⟩) ?_ ?_
             rotate_left; ·intro w'; go_simp; with_reducible rfl
             rotate_left; ·simp only [Act.put, List.setIfInBounds_toArray, List.set_cons_zero, List.set_cons_succ, i64_w, i32_w]; rfl
             refine pure_ (i := 13) (N := some 4) (v := ?_) (a' := ?_) (bm_ 14 16383) rfl rfl (any_of HT_.out (by kernel_rfl)) (fun _ _ _ h => h) (Or.inl ⟨by rfl, ?_⟩) ?_ ?_
             rotate_left; ·intro w'; go_simp; with_reducible rfl
             rotate_left; ·simp only [Act.put, List.setIfInBounds_toArray, List.set_cons_zero, List.set_cons_succ, i64_w, i32_w]; rfl
             refine done_ (done_of HT_.out (by kernel_rfl)) ?_
             try go_wp2
             go_ret
             exact ⟨by first | rfl | (simp [errW_none, errW_some] <;> rfl) | (simp [*, errW_none, errW_some] <;> first | rfl | exact given_isEmpty _ | exact (given_isEmpty _).symm), by repeat (first | (with_reducible first | exact HB.out | apply below_alloc | apply pw_below_drewN | apply below_drew1 | refine below_set ?_ GE382.out | refine below_set ?_ GE388.out | refine below_set ?_ GE392.out) | exact HB.out)⟩
            ·rw [if_neg c82] at H
             have c82b0 : (t389 == a0_0) = false := by simpa using c82
             (try (have c82b1 : decide (t389 = a0_0) = false := by simpa using c82))
             (try (have c82b2 : (t389 == a0_0) = false := by simpa using c82))
             (try (have c82b3 : ¬ (t389 = a0_0) := by simpa using c82))
             clear c82
             obtain rfl := Option.some.inj H
             have hnb94 := NB392_382.out
             have hnc94 := NB382_392.out
             have hnb95 := NB392_388.out
             have hnc95 := NB388_392.out
             have hcz96_0 : wc.cell? ⟨gb392, 0, none⟩ = some (.bool t389) := (blk_cell BK392.out 0).trans rfl
             have hcz96_1 : wc.cell? ⟨gb392, 1, none⟩ = some (.string t390) := (blk_cell BK392.out 1).trans rfl
             have hcz96_2 : wc.cell? ⟨gb392, 2, none⟩ = some (.int .i64 t391) := (blk_cell BK392.out 2).trans rfl
             have hfz96_0 := blk_frozen BK392.out 0
             have hfz96_1 := blk_frozen BK392.out 1
             have hfz96_2 := blk_frozen BK392.out 2
             try go_wp2_with (first | ((with_reducible refine gate_callee (f := 24) rfl ?_); refine goesL_ (some 73) rfl rfl Tryd.func24 (by kernel_rfl) rfl #[.agg #[.bool t389, .string t390, .int .i64 t391]] rfl (by (try simp only [List.map_toArray, List.map_cons, List.map_nil]); first | done | rfl | (simp only [List.length_drop, List.length_take]; rfl) | (have z_ : ∀ s_ : ByteArray, s_.size ≤ 9223372036854775807 → -(s_.size : Int) = wrap64 (-(s_.size : Int)) := (fun s_ h_ => by unfold wrap64; omega); rw [← z_ _ (by omega)]; rfl)) ?_; (with_reducible refine (dec_Dec_Zero.calls kj65 t389 t390 t391 false _ A76.out).mono ?_); rintro e w97 ⟨rfl, hb⟩; refine ⟨_, rfl, ?_⟩; have n0_ := bb_ BK382 hb; have n1_ := bb_ BK388 hb; have n2_ := bb_ BK392 hb; have n3_ := Aside0.mk (below_step (by repeat (first | (with_reducible first | exact HB.out | apply below_alloc | apply pw_below_drewN | apply below_drew1 | refine below_set ?_ GE382.out | refine below_set ?_ GE388.out | refine below_set ?_ GE392.out) | exact HB.out)) hb); clear BK382; clear BK388; clear BK392; clear HB; have BK382 := n0_; have BK388 := n1_; have BK392 := n2_; have HB := n3_; clear n0_ n1_ n2_ n3_; (try clear hb); (try clear hb2); (try clear hk); (try clear hi)))
             have n0_ := Aside0.mk (blk_drew BK382.out)
             have n1_ := Aside0.mk (blk_drew BK388.out)
             have n2_ := Aside0.mk (blk_drew BK392.out)
             have n3_ := Aside0.mk (below_drew1 HB.out)
             clear BK382
             clear BK388
             clear BK392
             clear HB
             have BK382 := n0_
             have BK388 := n1_
             have BK392 := n2_
             have HB := n3_
             clear n0_ n1_ n2_ n3_
             refine start_ (n := 14) (S := fun w' => w'.cell? ⟨gb392, 0, none⟩ = some (.bool t389) ∧ w'.cell? ⟨gb392, 1, none⟩ = some (.string t390) ∧ w'.cell? ⟨gb392, 2, none⟩ = some (.int .i64 t391) ∧ w'.cell? ⟨gb382, 0, none⟩ = some (.bool a0_0) ∧ w'.cell? ⟨gb382, 1, none⟩ = some (.slice A0_1 l0_1.length c0_1) ∧ w'.cell? ⟨gb382, 2, none⟩ = some (.int .i64 a0_2)) (ds := []) #[false, false, false, false, false, false, false, false, false, false, false, false, false, false] (by kernel_rfl) rfl rfl ⟨(blk_cell BK392.out 0).trans rfl, (blk_cell BK392.out 1).trans rfl, (blk_cell BK392.out 2).trans rfl, (blk_cell BK382.out 0).trans rfl, (blk_cell BK382.out 1).trans rfl, (blk_cell BK382.out 2).trans rfl⟩ (fun hHeld => ?_); refine with_tabW florinlaw02_DecForms.tab13 florinlaw02_DecForms.bits13 (fun HT_ HW_ => ?_)
             generalize w97.drew = w98 at BK382 BK388 BK392 HB hHeld ⊢
             refine pure_ (i := 0) (N := some 74) (v := ?_) (a' := ?_) (bm_ 14 1) rfl rfl (any_of HT_.out (by kernel_rfl)) (fun _ _ _ h => h) (Or.inl ⟨by rfl, ?_⟩) ?_ ?_
             rotate_left; ·intro w'; go_simp; with_reducible rfl
             rotate_left; ·simp only [Act.put, List.setIfInBounds_toArray, List.set_cons_zero, List.set_cons_succ, i64_w, i32_w]; rfl
             refine pure_ (i := 2) (N := some 76) (v := ?_) (a' := ?_) (bm_ 14 5) rfl rfl (any_of HT_.out (by kernel_rfl)) (fun _ _ _ h => h) (Or.inl ⟨by rfl, ?_⟩) ?_ ?_
             rotate_left; ·intro w'; go_simp; with_reducible rfl
             rotate_left; ·simp only [Act.put, List.setIfInBounds_toArray, List.set_cons_zero, List.set_cons_succ, i64_w, i32_w]; rfl
             refine take_ (i := 1) (N := some 75) (v := ?_) (a' := ?_) (bm_ 14 7) rfl rfl (take_ofW HT_.out HW_.out (by kernel_rfl)) (fun _ _ _ h => h) (Or.inl ⟨by rfl, ?_⟩) hHeld ?_ ?_
             rotate_left; ·rintro w' ⟨s0, s1, s2, s3, s4, s5⟩; go_simp; with_reducible rfl
             rotate_left; ·simp only [Act.put, List.setIfInBounds_toArray, List.set_cons_zero, List.set_cons_succ, i64_w, i32_w]; rfl
             refine take_ (i := 3) (N := some 77) (v := ?_) (a' := ?_) (bm_ 14 15) rfl rfl (take_ofW HT_.out HW_.out (by kernel_rfl)) (fun _ _ _ h => h) (Or.inl ⟨by rfl, ?_⟩) hHeld ?_ ?_
             rotate_left; ·rintro w' ⟨s0, s1, s2, s3, s4, s5⟩; go_simp; with_reducible rfl
             rotate_left; ·simp only [Act.put, List.setIfInBounds_toArray, List.set_cons_zero, List.set_cons_succ, i64_w, i32_w]; rfl
             refine pure_ (i := 4) (N := some 78) (v := ?_) (a' := ?_) (bm_ 14 31) rfl rfl (any_of HT_.out (by kernel_rfl)) (fun _ _ _ h => h) (Or.inl ⟨by rfl, ?_⟩) ?_ ?_
             rotate_left; ·intro w'; go_simp; with_reducible rfl
             rotate_left; ·simp only [Act.put, List.setIfInBounds_toArray, List.set_cons_zero, List.set_cons_succ, i64_w, i32_w]; rfl
             refine pure_ (i := 5) (N := some 79) (v := ?_) (a' := ?_) (bm_ 14 63) rfl rfl (any_of HT_.out (by kernel_rfl)) (fun _ _ _ h => h) (Or.inl ⟨by rfl, ?_⟩) ?_ ?_
             rotate_left; ·intro w'; go_simp; with_reducible rfl
             rotate_left; ·simp only [Act.put, List.setIfInBounds_toArray, List.set_cons_zero, List.set_cons_succ, i64_w, i32_w]; rfl
             refine pure_ (i := 6) (N := some 80) (v := undef) (a' := ?_) (bm_ 14 127) rfl rfl (any_of HT_.out (by kernel_rfl)) (fun _ _ _ h => h) (Or.inr ⟨by rfl, rfl⟩) ?_ ?_
             rotate_left; ·simp only [Act.put, List.setIfInBounds_toArray, List.set_cons_zero, List.set_cons_succ, i64_w, i32_w]; rfl
             refine pure_ (i := 7) (N := some 81) (v := undef) (a' := ?_) (bm_ 14 255) rfl rfl (any_of HT_.out (by kernel_rfl)) (fun _ _ _ h => h) (Or.inr ⟨by rfl, rfl⟩) ?_ ?_
             rotate_left; ·simp only [Act.put, List.setIfInBounds_toArray, List.set_cons_zero, List.set_cons_succ, i64_w, i32_w]; rfl
             refine pure_ (i := 8) (N := some 82) (v := undef) (a' := ?_) (bm_ 14 511) rfl rfl (any_of HT_.out (by kernel_rfl)) (fun _ _ _ h => h) (Or.inr ⟨by rfl, rfl⟩) ?_ ?_
             rotate_left; ·simp only [Act.put, List.setIfInBounds_toArray, List.set_cons_zero, List.set_cons_succ, i64_w, i32_w]; rfl
             refine pure_ (i := 9) (N := some 83) (v := undef) (a' := ?_) (bm_ 14 1023) rfl rfl (any_of HT_.out (by kernel_rfl)) (fun _ _ _ h => h) (Or.inr ⟨by rfl, rfl⟩) ?_ ?_
             rotate_left; ·simp only [Act.put, List.setIfInBounds_toArray, List.set_cons_zero, List.set_cons_succ, i64_w, i32_w]; rfl
             refine pure_ (i := 10) (N := some 84) (v := undef) (a' := ?_) (bm_ 14 2047) rfl rfl (any_of HT_.out (by kernel_rfl)) (fun _ _ _ h => h) (Or.inr ⟨by rfl, rfl⟩) ?_ ?_
             rotate_left; ·simp only [Act.put, List.setIfInBounds_toArray, List.set_cons_zero, List.set_cons_succ, i64_w, i32_w]; rfl
             refine pure_ (i := 11) (N := some 85) (v := undef) (a' := ?_) (bm_ 14 4095) rfl rfl (any_of HT_.out (by kernel_rfl)) (fun _ _ _ h => h) (Or.inr ⟨by rfl, rfl⟩) ?_ ?_
             rotate_left; ·simp only [Act.put, List.setIfInBounds_toArray, List.set_cons_zero, List.set_cons_succ, i64_w, i32_w]; rfl
             refine pure_ (i := 12) (N := some 86) (v := ?_) (a' := ?_) (bm_ 14 8191) rfl rfl (any_of HT_.out (by kernel_rfl)) (fun _ _ _ h => h) (Or.inl ⟨by rfl, ?_⟩) ?_ ?_
             rotate_left; ·intro w'; go_simp; with_reducible rfl
             rotate_left; ·simp only [Act.put, List.setIfInBounds_toArray, List.set_cons_zero, List.set_cons_succ, i64_w, i32_w]; rfl
             refine pure_ (i := 13) (N := some 4) (v := ?_) (a' := ?_) (bm_ 14 16383) rfl rfl (any_of HT_.out (by kernel_rfl)) (fun _ _ _ h => h) (Or.inl ⟨by rfl, ?_⟩) ?_ ?_
             rotate_left; ·intro w'; go_simp; with_reducible rfl
             rotate_left; ·simp only [Act.put, List.setIfInBounds_toArray, List.set_cons_zero, List.set_cons_succ, i64_w, i32_w]; rfl
             refine done_ (done_of HT_.out (by kernel_rfl)) ?_
             try go_wp2
             go_ret
             exact ⟨by first | rfl | (simp [errW_none, errW_some] <;> rfl) | (simp [*, errW_none, errW_some] <;> first | rfl | exact given_isEmpty _ | exact (given_isEmpty _).symm), by repeat (first | (with_reducible first | exact HB.out | apply below_alloc | apply pw_below_drewN | apply below_drew1 | refine below_set ?_ GE382.out | refine below_set ?_ GE388.out | refine below_set ?_ GE392.out) | exact HB.out)⟩
 ·replace c4 := Bool.eq_false_iff.mpr c4
  subst c4
  have H1 : (some false) = some r := by rw [if_neg (show ¬ (false = true) by decide)] at H; exact H
  clear H
  have H := H1
  clear H1
  obtain rfl := Option.some.inj H
  go_enter Tryd.func8, Tryd.ntmps8
  go_wp2_with (first | ((with_reducible refine gate_dst (N := 2) rfl ?_); (try (refine gate_guard (by rfl) ?_; dsimp only)); refine box_event ?hg (N := 2) ?hd (cs := #[.bool a0_0, .slice A0_1 l0_1.length c0_1, .int .i64 a0_2]) (t := 33) ?hr ?_; (case hd => rfl); (case hg => rfl); (case hr => first | (go_simp; done) | (go_simp; rfl)); intro gb382 hg w99 hbox hb; have n0_ := Aside0.mk (below_step (by repeat (first | (with_reducible first | exact HB.out | apply below_alloc | apply pw_below_drewN | apply below_drew1) | exact HB.out)) hb); have n1_ := Aside0.mk (hbox); have n2_ := Aside0.mk ((by rw [hg]; exact (below_size (by repeat (first | (with_reducible first | exact HB.out | apply below_alloc | apply pw_below_drewN | apply below_drew1) | exact HB.out))) : w.heap.size ≤ gb382)); have n3_ := Aside0.mk ((by rw [hg]; exact (below_size (by repeat (first | (with_reducible first | exact HB.out | apply below_alloc | apply pw_below_drewN | apply below_drew1) | exact HB.out))) : w.heap.size ≤ gb382)); clear HB; have HB := n0_; have BK382 := n1_; have GW382 := n2_; have GE382 := n3_; clear n0_ n1_ n2_ n3_; clear hb hbox hg) | ((with_reducible refine gate_callee (f := 11) rfl ?_); refine goesL_ (some 7) rfl rfl Tryd.func11 (by kernel_rfl) rfl #[] rfl (by (try simp only [List.map_toArray, List.map_cons, List.map_nil]); first | done | rfl | (simp only [List.length_drop, List.length_take]; rfl) | (have z_ : ∀ s_ : ByteArray, s_.size ≤ 9223372036854775807 → -(s_.size : Int) = wrap64 (-(s_.size : Int)) := (fun s_ h_ => by unfold wrap64; omega); rw [← z_ _ (by omega)]; rfl)) ?_; (with_reducible refine (florinlaw02_head.calls k  false _ A3.out).mono ?_); rintro e w100 ⟨rfl, hb⟩; refine ⟨_, rfl, ?_⟩; have n0_ := bb_ BK382 hb; have n1_ := Aside0.mk (below_step (by repeat (first | (with_reducible first | exact HB.out | apply below_alloc | apply pw_below_drewN | apply below_drew1 | refine below_set ?_ GE382.out) | exact HB.out)) hb); clear BK382; clear HB; have BK382 := n0_; have HB := n1_; clear n0_ n1_; (try clear hb); (try clear hb2); (try clear hk); (try clear hi)))
  go_ret
  exact ⟨by first | rfl | (simp [errW_none, errW_some] <;> rfl) | (simp [*, errW_none, errW_some] <;> first | rfl | exact given_isEmpty _ | exact (given_isEmpty _).symm), by repeat (first | (with_reducible first | exact HB.out | apply below_alloc | apply pw_below_drewN | apply below_drew1 | refine below_set ?_ GE382.out) | exact HB.out)⟩

end Go.Proofs.YtlkiaeipbekpkaaDoor.P
