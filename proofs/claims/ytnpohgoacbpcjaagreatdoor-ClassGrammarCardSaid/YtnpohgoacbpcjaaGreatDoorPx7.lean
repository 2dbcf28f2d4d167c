-- written by a program of this session (wip/p2)
import Derived.Test.YtnpohgoacbpcjaaGreatDoorPx0
import Derived.Test.YtnpohgoacbpcjaaGreatDoorPx3
import Derived.Test.YtnpohgoacbpcjaaGreatDoorPx4
import Derived.Test.YtnpohgoacbpcjaaGreatDoorPx5
import Derived.Test.YtnpohgoacbpcjaaGreatDoorPx6
namespace Go.Proofs.YtnpohgoacbpcjaaGreatDoor.P
open Go.RowKit Go.Proofs.YtnpohgoacbpcjaaGreatDoorW.PrintWords Go.Proofs.YtnpohgoacbpcjaaGreatDoorW.PrintLast Go.Proofs.YtnpohgoacbpcjaaGreatDoorW.PrintMore
attribute [local go_sem] max2_int min2_int max_two min_two max_three min_three max_four min_four   -- for this text's walks alone
set_option linter.unusedVariables false
set_option linter.unusedSimpArgs false

/-! ### class_reader_class: function 31 -/
mutual
def class_reader_class.l0 : Nat → Bool → List (S28) → ByteArray → Int → Int → Option ((List (S28)) × ByteArray × Int × Int)
 | 0, _, _, _, _, _ => none
 | k + 1, x3, x4, x1000, x1001, x1002 => if x1002 < 0 then ((class_reader_take.f k x1000 x1001 x1002 93).bind fun bt194 => (class_reader_class.j1 k x3 x4 (!bt194.1) bt194.2.1 bt194.2.2.1 bt194.2.2.2)) else (class_reader_class.j1 k x3 x4 false x1000 x1001 x1002)
def class_reader_class.j1 : Nat → Bool → List (S28) → Bool → ByteArray → Int → Int → Option ((List (S28)) × ByteArray × Int × Int)
 | 0, _, _, _, _, _, _ => none
 | k + 1, x3, x4, x24, x1000, x1001, x1002 => if x24 = true then ((class_reader_one.f k x1000 x1001 x1002).bind fun bt198 => (if bt198.2.2.2 < 0 then ((class_reader_take.f k bt198.2.1 bt198.2.2.1 bt198.2.2.2 45).bind fun bt202 => (class_reader_class.j2 k x3 x4 bt198.1 bt198.1 bt202.1 bt202.2.1 bt202.2.2.1 bt202.2.2.2)) else (class_reader_class.j2 k x3 x4 bt198.1 bt198.1 false bt198.2.1 bt198.2.2.1 bt198.2.2.2))) else (if x1002 < 0 then ((class_reader_peek.f k x1000 x1001 x1002).bind fun bt229 => (if bt229.1 = 0 then (if bt229.2.2.2 < 0 then (class_reader_class.j3 k x3 x4 (decide (bt229.2.2.1 < (bt229.2.1.size : Int))) bt229.2.1 bt229.2.2.1 bt229.2.2.2) else (class_reader_class.j3 k x3 x4 false bt229.2.1 bt229.2.2.1 bt229.2.2.2)) else (class_reader_class.j3 k x3 x4 true bt229.2.1 bt229.2.2.1 bt229.2.2.2))) else (class_reader_class.j3 k x3 x4 false x1000 x1001 x1002))
def class_reader_class.j2 : Nat → Bool → List (S28) → Int → Int → Bool → ByteArray → Int → Int → Option ((List (S28)) × ByteArray × Int × Int)
 | 0, _, _, _, _, _, _, _, _ => none
 | k + 1, x3, x4, x5, x6, x36, x1000, x1001, x1002 => if x36 = true then ((class_reader_peek.f k x1000 x1001 x1002).bind fun bt206 => ((class_reader_one.f k bt206.2.1 bt206.2.2.1 bt206.2.2.2).bind fun bt210 => (if bt210.2.2.2 < 0 then (if bt210.1 < x5 then ((class_reader_fail.f bt210.2.1 bt206.2.2.1 bt210.2.2.2).bind fun bt214 => (if x4.length < 17592186044416 then (class_reader_class.l0 k x3 (x4 ++ [(⟨x5, bt210.1⟩ : S28)]) bt214.1 bt214.2.1 bt214.2.2) else (none))) else (if x4.length < 17592186044416 then (class_reader_class.l0 k x3 (x4 ++ [(⟨x5, bt210.1⟩ : S28)]) bt210.2.1 bt210.2.2.1 bt210.2.2.2) else (none))) else (if x4.length < 17592186044416 then (class_reader_class.l0 k x3 (x4 ++ [(⟨x5, bt210.1⟩ : S28)]) bt210.2.1 bt210.2.2.1 bt210.2.2.2) else (none))))) else (if x4.length < 17592186044416 then (class_reader_class.l0 k x3 (x4 ++ [(⟨x5, x6⟩ : S28)]) x1000 x1001 x1002) else (none))
def class_reader_class.j3 : Nat → Bool → List (S28) → Bool → ByteArray → Int → Int → Option ((List (S28)) × ByteArray × Int × Int)
 | 0, _, _, _, _, _, _ => none
 | k + 1, x3, x4, x95, x1000, x1001, x1002 => if x95 = true then ((class_reader_fail.f x1000 x1001 x1002).bind fun bt233 => (class_reader_class.j4 k x3 x4 bt233.1 bt233.2.1 bt233.2.2)) else (class_reader_class.j4 k x3 x4 x1000 x1001 x1002)
def class_reader_class.j4 : Nat → Bool → List (S28) → ByteArray → Int → Int → Option ((List (S28)) × ByteArray × Int × Int)
 | 0, _, _, _, _, _ => none
 | k + 1, x3, x4, x1000, x1001, x1002 => if x3 = true then ((class_Made.f k x4).bind fun t236 => ((class_Class_Not.f k t236).bind fun t239 => (some (t239, x1000, x1001, x1002)))) else ((class_Made.f k x4).bind fun t242 => (some (t242, x1000, x1001, x1002)))
end
def class_reader_class.f (k : Nat) (s0_0 : ByteArray) (s0_1 : Int) (s0_2 : Int) : Option ((List (S28)) × ByteArray × Int × Int) := (class_reader_take.f k s0_0 s0_1 s0_2 91).bind fun bt183 => (if bt183.1 = true then ((class_reader_take.f k bt183.2.1 bt183.2.2.1 bt183.2.2.2 94).bind fun bt190 => (class_reader_class.l0 k bt190.1 ([] : List (S28)) bt190.2.1 bt190.2.2.1 bt190.2.2.2)) else ((class_reader_fail.f bt183.2.1 bt183.2.2.1 bt183.2.2.2).bind fun bt187 => (some (([] : List (S28)), bt187.1, bt187.2.1, bt187.2.2))))
theorem class_reader_class.mono_l : ∀ k, (∀ y0 y1 y2 y3 y4, LeO (class_reader_class.l0 k y0 y1 y2 y3 y4) (class_reader_class.l0 (k + 1) y0 y1 y2 y3 y4)) ∧ (∀ y0 y1 y2 y3 y4 y5, LeO (class_reader_class.j1 k y0 y1 y2 y3 y4 y5) (class_reader_class.j1 (k + 1) y0 y1 y2 y3 y4 y5)) ∧ (∀ y0 y1 y2 y3 y4 y5 y6 y7, LeO (class_reader_class.j2 k y0 y1 y2 y3 y4 y5 y6 y7) (class_reader_class.j2 (k + 1) y0 y1 y2 y3 y4 y5 y6 y7)) ∧ (∀ y0 y1 y2 y3 y4 y5, LeO (class_reader_class.j3 k y0 y1 y2 y3 y4 y5) (class_reader_class.j3 (k + 1) y0 y1 y2 y3 y4 y5)) ∧ (∀ y0 y1 y2 y3 y4, LeO (class_reader_class.j4 k y0 y1 y2 y3 y4) (class_reader_class.j4 (k + 1) y0 y1 y2 y3 y4))
 | 0 => ⟨fun _ _ _ _ _ r h => by simp [class_reader_class.l0] at h, fun _ _ _ _ _ _ r h => by simp [class_reader_class.j1] at h, fun _ _ _ _ _ _ _ _ r h => by simp [class_reader_class.j2] at h, fun _ _ _ _ _ _ r h => by simp [class_reader_class.j3] at h, fun _ _ _ _ _ r h => by simp [class_reader_class.j4] at h⟩
 | k + 1 => by
  obtain ⟨ih0, ih1, ih2, ih3, ih4⟩ := class_reader_class.mono_l k
  refine ⟨?_, ?_, ?_, ?_, ?_⟩
  ·intro y0 y1 y2 y3 y4
   unfold class_reader_class.l0
   repeat' first
   | (with_reducible exact ih0 _ _ _ _ _)
   | (with_reducible exact ih1 _ _ _ _ _ _)
   | (with_reducible exact ih2 _ _ _ _ _ _ _ _)
   | (with_reducible exact ih3 _ _ _ _ _ _)
   | (with_reducible exact ih4 _ _ _ _ _)
   | (with_reducible exact class_Class_Not.mono _ _)
   | (with_reducible exact class_Made.mono _ _)
   | (with_reducible exact class_reader_one.mono _ _ _ _)
   | (with_reducible exact class_reader_peek.mono _ _ _ _)
   | (with_reducible exact class_reader_take.mono _ _ _ _ _)
   | (with_reducible exact LeO.refl _)
   | (with_reducible exact LeO.none _)
   | (with_reducible refine LeO.ite ?_ ?_)
   | (with_reducible refine LeO.bind ?_ (fun _ => ?_))
   | exact ih0 _ _ _ _ _
   | exact ih1 _ _ _ _ _ _
   | exact ih2 _ _ _ _ _ _ _ _
   | exact ih3 _ _ _ _ _ _
   | exact ih4 _ _ _ _ _
   | exact class_Class_Not.mono _ _
   | exact class_Made.mono _ _
   | exact class_reader_one.mono _ _ _ _
   | exact class_reader_peek.mono _ _ _ _
   | exact class_reader_take.mono _ _ _ _ _
   | exact LeO.none _
   | refine LeO.ite ?_ ?_
   | refine LeO.bind ?_ (fun _ => ?_)
  ·intro y0 y1 y2 y3 y4 y5
   unfold class_reader_class.j1
   repeat' first
   | (with_reducible exact ih0 _ _ _ _ _)
   | (with_reducible exact ih1 _ _ _ _ _ _)
   | (with_reducible exact ih2 _ _ _ _ _ _ _ _)
   | (with_reducible exact ih3 _ _ _ _ _ _)
   | (with_reducible exact ih4 _ _ _ _ _)
   | (with_reducible exact class_Class_Not.mono _ _)
   | (with_reducible exact class_Made.mono _ _)
   | (with_reducible exact class_reader_one.mono _ _ _ _)
   | (with_reducible exact class_reader_peek.mono _ _ _ _)
   | (with_reducible exact class_reader_take.mono _ _ _ _ _)
   | (with_reducible exact LeO.refl _)
   | (with_reducible exact LeO.none _)
   | (with_reducible refine LeO.ite ?_ ?_)
   | (with_reducible refine LeO.bind ?_ (fun _ => ?_))
   | exact ih0 _ _ _ _ _
   | exact ih1 _ _ _ _ _ _
   | exact ih2 _ _ _ _ _ _ _ _
   | exact ih3 _ _ _ _ _ _
   | exact ih4 _ _ _ _ _
   | exact class_Class_Not.mono _ _
   | exact class_Made.mono _ _
   | exact class_reader_one.mono _ _ _ _
   | exact class_reader_peek.mono _ _ _ _
   | exact class_reader_take.mono _ _ _ _ _
   | exact LeO.none _
   | refine LeO.ite ?_ ?_
   | refine LeO.bind ?_ (fun _ => ?_)
  ·intro y0 y1 y2 y3 y4 y5 y6 y7
   unfold class_reader_class.j2
   repeat' first
   | (with_reducible exact ih0 _ _ _ _ _)
   | (with_reducible exact ih1 _ _ _ _ _ _)
   | (with_reducible exact ih2 _ _ _ _ _ _ _ _)
   | (with_reducible exact ih3 _ _ _ _ _ _)
   | (with_reducible exact ih4 _ _ _ _ _)
   | (with_reducible exact class_Class_Not.mono _ _)
   | (with_reducible exact class_Made.mono _ _)
   | (with_reducible exact class_reader_one.mono _ _ _ _)
   | (with_reducible exact class_reader_peek.mono _ _ _ _)
   | (with_reducible exact class_reader_take.mono _ _ _ _ _)
   | (with_reducible exact LeO.refl _)
   | (with_reducible exact LeO.none _)
   | (with_reducible refine LeO.ite ?_ ?_)
   | (with_reducible refine LeO.bind ?_ (fun _ => ?_))
   | exact ih0 _ _ _ _ _
   | exact ih1 _ _ _ _ _ _
   | exact ih2 _ _ _ _ _ _ _ _
   | exact ih3 _ _ _ _ _ _
   | exact ih4 _ _ _ _ _
   | exact class_Class_Not.mono _ _
   | exact class_Made.mono _ _
   | exact class_reader_one.mono _ _ _ _
   | exact class_reader_peek.mono _ _ _ _
   | exact class_reader_take.mono _ _ _ _ _
   | exact LeO.none _
   | refine LeO.ite ?_ ?_
   | refine LeO.bind ?_ (fun _ => ?_)
  ·intro y0 y1 y2 y3 y4 y5
   unfold class_reader_class.j3
   repeat' first
   | (with_reducible exact ih0 _ _ _ _ _)
   | (with_reducible exact ih1 _ _ _ _ _ _)
   | (with_reducible exact ih2 _ _ _ _ _ _ _ _)
   | (with_reducible exact ih3 _ _ _ _ _ _)
   | (with_reducible exact ih4 _ _ _ _ _)
   | (with_reducible exact class_Class_Not.mono _ _)
   | (with_reducible exact class_Made.mono _ _)
   | (with_reducible exact class_reader_one.mono _ _ _ _)
   | (with_reducible exact class_reader_peek.mono _ _ _ _)
   | (with_reducible exact class_reader_take.mono _ _ _ _ _)
   | (with_reducible exact LeO.refl _)
   | (with_reducible exact LeO.none _)
   | (with_reducible refine LeO.ite ?_ ?_)
   | (with_reducible refine LeO.bind ?_ (fun _ => ?_))
   | exact ih0 _ _ _ _ _
   | exact ih1 _ _ _ _ _ _
   | exact ih2 _ _ _ _ _ _ _ _
   | exact ih3 _ _ _ _ _ _
   | exact ih4 _ _ _ _ _
   | exact class_Class_Not.mono _ _
   | exact class_Made.mono _ _
   | exact class_reader_one.mono _ _ _ _
   | exact class_reader_peek.mono _ _ _ _
   | exact class_reader_take.mono _ _ _ _ _
   | exact LeO.none _
   | refine LeO.ite ?_ ?_
   | refine LeO.bind ?_ (fun _ => ?_)
  ·intro y0 y1 y2 y3 y4
   unfold class_reader_class.j4
   repeat' first
   | (with_reducible exact ih0 _ _ _ _ _)
   | (with_reducible exact ih1 _ _ _ _ _ _)
   | (with_reducible exact ih2 _ _ _ _ _ _ _ _)
   | (with_reducible exact ih3 _ _ _ _ _ _)
   | (with_reducible exact ih4 _ _ _ _ _)
   | (with_reducible exact class_Class_Not.mono _ _)
   | (with_reducible exact class_Made.mono _ _)
   | (with_reducible exact class_reader_one.mono _ _ _ _)
   | (with_reducible exact class_reader_peek.mono _ _ _ _)
   | (with_reducible exact class_reader_take.mono _ _ _ _ _)
   | (with_reducible exact LeO.refl _)
   | (with_reducible exact LeO.none _)
   | (with_reducible refine LeO.ite ?_ ?_)
   | (with_reducible refine LeO.bind ?_ (fun _ => ?_))
   | exact ih0 _ _ _ _ _
   | exact ih1 _ _ _ _ _ _
   | exact ih2 _ _ _ _ _ _ _ _
   | exact ih3 _ _ _ _ _ _
   | exact ih4 _ _ _ _ _
   | exact class_Class_Not.mono _ _
   | exact class_Made.mono _ _
   | exact class_reader_one.mono _ _ _ _
   | exact class_reader_peek.mono _ _ _ _
   | exact class_reader_take.mono _ _ _ _ _
   | exact LeO.none _
   | refine LeO.ite ?_ ?_
   | refine LeO.bind ?_ (fun _ => ?_)
theorem class_reader_class.mono : ∀ a0 a1 a2 k, LeO (class_reader_class.f k a0 a1 a2) (class_reader_class.f (k + 1) a0 a1 a2) := by
 intro a0 a1 a2 k
 obtain ⟨ih0, ih1, ih2, ih3, ih4⟩ := class_reader_class.mono_l k
 unfold class_reader_class.f
 repeat' first
   | (with_reducible exact ih0 _ _ _ _ _)
   | (with_reducible exact ih1 _ _ _ _ _ _)
   | (with_reducible exact ih2 _ _ _ _ _ _ _ _)
   | (with_reducible exact ih3 _ _ _ _ _ _)
   | (with_reducible exact ih4 _ _ _ _ _)
   | (with_reducible exact class_Class_Not.mono _ _)
   | (with_reducible exact class_Made.mono _ _)
   | (with_reducible exact class_reader_one.mono _ _ _ _)
   | (with_reducible exact class_reader_peek.mono _ _ _ _)
   | (with_reducible exact class_reader_take.mono _ _ _ _ _)
   | (with_reducible exact LeO.refl _)
   | (with_reducible exact LeO.none _)
   | (with_reducible refine LeO.ite ?_ ?_)
   | (with_reducible refine LeO.bind ?_ (fun _ => ?_))
   | exact ih0 _ _ _ _ _
   | exact ih1 _ _ _ _ _ _
   | exact ih2 _ _ _ _ _ _ _ _
   | exact ih3 _ _ _ _ _ _
   | exact ih4 _ _ _ _ _
   | exact class_Class_Not.mono _ _
   | exact class_Made.mono _ _
   | exact class_reader_one.mono _ _ _ _
   | exact class_reader_peek.mono _ _ _ _
   | exact class_reader_take.mono _ _ _ _ _
   | exact LeO.none _
   | refine LeO.ite ?_ ?_
   | refine LeO.bind ?_ (fun _ => ?_)
def class_reader_class.T17 : Bool × List (List Nat × List Nat) := (true, [([], []), ([0], [0]), ([1], [1]), ([2], [2]), ([3], [3]), ([4], [4]), ([5], [5]), ([6, 5, 5], [5, 6]), ([7, 5], [5, 7]), ([5, 8], [5, 8]), ([9, 7], [9]), ([10], [10]), ([11, 10], [10, 11]), ([12, 10], [10, 12]), ([13, 10], [10, 13]), ([14, 10], [10, 14]), ([15, 10, 10], [10, 15]), ([16], [16]), ([17, 16], [16, 17]), ([18, 16], [16, 18]), ([19, 16], [16, 19]), ([16], [16]), ([21, 16], [16, 21]), ([22, 16], [16, 22]), ([23, 16], [16, 23]), ([24, 16], [16, 24]), ([20, 25, 16], [16, 20, 25]), ([16, 26, 10], [10, 16, 26]), ([10, 27], [10, 27])])
def class_reader_class.B17 : List Nat := [0, 1, 3, 7, 15, 31, 63, 127, 255, 511, 1023, 2047, 4095, 8191, 16383, 32767, 65535, 131071, 262143, 524287, 1048575, 131071, 2228223, 6422527, 14811135, 31588351, 67108863, 134217727, 268435455]
theorem class_reader_class.tab17 : rtab .any (opsOf Tryz.f31 17) = class_reader_class.T17 := by kernel_rfl
theorem class_reader_class.bits17 : waitsOk class_reader_class.T17.2 class_reader_class.B17 = true := by kernel_rfl
set_option maxHeartbeats 64000000 in
set_option maxRecDepth 100000 in
theorem class_reader_class.calls (k : Nat) (g : Nat) (s0_0 : ByteArray) (s0_1 : Int) (s0_2 : Int) (r1 : List (S28)) (r2 : ByteArray) (r3 : Int) (r4 : Int) (w0 w : World) (hI : IsS66 w0 w g s0_0 s0_1 s0_2) (hB : Below w0.heap.size w0 w) (h : class_reader_class.f k s0_0 s0_1 s0_2 = some (r1, r2, r3, r4)) (ht : GTabs w0 := by first | assumption | exact gtb_ (by assumption) (bl_ (by assumption)).out) :
  Calls Tryz.prog 31 #[.pointer (some ⟨g, 0, none⟩)] w fun e w' => ∃ v0_ : Value, e = .returned (v0_) ∧ Kd.R k28 28 w' w.heap.size (fun _ => True) v0_ r1 ∧ IsS66 w0 w' g r2 r3 r4 ∧ Below w0.heap.size w0 w' ∧ KeepBut w w' g none := by
 have hu28 := Tryz.underlying28
 have HI0 := Aside0.mk hI
 have HK := Aside0.mk (KeepBut.refl w g none)
 have HL := Aside0.mk hB.size
 clear hI
 have HW0 := Aside0.mk hB.size
 have HB := Aside0.mk hB
 clear hB
 have H : ((class_reader_take.f k s0_0 s0_1 s0_2 91).bind fun bt183 => (if bt183.1 = true then ((class_reader_take.f k bt183.2.1 bt183.2.2.1 bt183.2.2.2 94).bind fun bt190 => (class_reader_class.l0 k bt190.1 ([] : List (S28)) bt190.2.1 bt190.2.2.1 bt190.2.2.2)) else ((class_reader_fail.f bt183.2.1 bt183.2.2.1 bt183.2.2.2).bind fun bt187 => (some (([] : List (S28)), bt187.1, bt187.2.1, bt187.2.2))))) = some (r1, r2, r3, r4) := h
 clear h
 replace H := Option.bind_eq_some_iff.mp H
 obtain ⟨⟨t183, t184, t185, t186⟩, A20, H⟩ := H
 replace H : (if t183 = true then ((class_reader_take.f k t184 t185 t186 94).bind fun bt190 => (class_reader_class.l0 k bt190.1 ([] : List (S28)) bt190.2.1 bt190.2.2.1 bt190.2.2.2)) else ((class_reader_fail.f t184 t185 t186).bind fun bt187 => (some (([] : List (S28)), bt187.1, bt187.2.1, bt187.2.2)))) = some (r1, r2, r3, r4) := H
 have A2 := Aside0.mk A20
 clear A20
 by_cases c3 : t183 = true
 ·subst c3
  have H1 : ((class_reader_take.f k t184 t185 t186 94).bind fun bt190 => (class_reader_class.l0 k bt190.1 ([] : List (S28)) bt190.2.1 bt190.2.2.1 bt190.2.2.2)) = some (r1, r2, r3, r4) := by rw [if_pos rfl] at H; exact H
  clear H
  have H := H1
  clear H1
  replace H := Option.bind_eq_some_iff.mp H
  obtain ⟨⟨t190, t191, t192, t193⟩, A40, H⟩ := H
  replace H : (class_reader_class.l0 k t190 ([] : List (S28)) t191 t192 t193) = some (r1, r2, r3, r4) := H
  have A4 := Aside0.mk A40
  clear A40
  have H' := Aside0.mk H
  clear H
  go_enter Tryz.func31, Tryz.ntmps31
  go_wp2_with (first | ((with_reducible refine gate_callee (f := 42) rfl ?_); refine gl_ (some 9) Tryz.func42 #[.pointer (some ⟨g, 0, none⟩), .int .u8 91] ?_; (with_reducible refine (class_reader_take.calls k g s0_0 s0_1 s0_2 91 true t184 t185 t186 w0 _ ?side1 ?side2 A2.out).mono ?_); (case side1 => repeat (first | (with_reducible first | exact HI0.out | apply IsS66.alloc | apply IsS66.drewN | apply IsS66.drew | apply IsS66.set_0 | apply IsS66.set_1 | apply IsS66.set_2) | exact HI0.out)); (case side2 => repeat (first | (with_reducible first | exact HB.out | apply below_alloc | apply pw_below_drewN | apply below_drew1 | refine below_set ?_ (IsS66.ge HI0.out)) | exact HB.out)); rintro e w5 ⟨rfl, hi, hb, hk⟩; refine ⟨_, rfl, ?_⟩; replace HK := Aside0.mk (KeepBut.trans (by repeat (first | (with_reducible first | exact HK.out | apply KeepBut.set_ | apply keep_drewN | apply keep_drew | apply keep_alloc) | exact HK.out)) hk (.inl rfl)); replace HB := Aside0.mk (hb); replace HI0 := Aside0.mk (hi); (try clear hb); (try clear hk); (try clear hi)) | ((with_reducible refine gate_callee (f := 42) rfl ?_); refine gl_ (some 14) Tryz.func42 #[.pointer (some ⟨g, 0, none⟩), .int .u8 94] ?_; (with_reducible refine (class_reader_take.calls k g t184 t185 t186 94 t190 t191 t192 t193 w0 _ ?side1 ?side2 A4.out).mono ?_); (case side1 => repeat (first | (with_reducible first | exact HI0.out | apply IsS66.alloc | apply IsS66.drewN | apply IsS66.drew | apply IsS66.set_0 | apply IsS66.set_1 | apply IsS66.set_2) | exact HI0.out)); (case side2 => repeat (first | (with_reducible first | exact HB.out | apply below_alloc | apply pw_below_drewN | apply below_drew1 | refine below_set ?_ (IsS66.ge HI0.out)) | exact HB.out)); rintro e w6 ⟨rfl, hi, hb, hk⟩; refine ⟨_, rfl, ?_⟩; replace HK := Aside0.mk (KeepBut.trans (by repeat (first | (with_reducible first | exact HK.out | apply KeepBut.set_ | apply keep_drewN | apply keep_drew | apply keep_alloc) | exact HK.out)) hk (.inl rfl)); replace HB := Aside0.mk (hb); replace HI0 := Aside0.mk (hi); (try clear hb); (try clear hk); (try clear hi)))
  go_loopg [4] k (fun kq v4 w' => ∃ (x4_1 : List (S28)) (x1000_1 : ByteArray) (x1001_1 : Int) (x1002_1 : Int), Aside0 (class_reader_class.l0 kq t190 x4_1 x1000_1 x1001_1 x1002_1 = some (r1, r2, r3, r4)) ∧ Aside0 (kq ≤ k) ∧ Aside0 (Kd.R k28 28 w' w.heap.size (fun _ => True) v4 x4_1) ∧ Aside0 (IsS66 w0 w' g x1000_1 x1001_1 x1002_1) ∧ Aside0 (KeepBut w w' g none) ∧ Aside0 (Below w0.heap.size w0 w'))
  case atStart => exact ⟨(([] : List (S28))), (t191), (t192), (t193), H', ⟨Nat.le_refl _⟩, ⟨by first | exact Kd.R_nil _ _ _ _ _ | exact Kd.N_nil _ _ _ _ _ | exact Kd.V_nil _ _ _ _ _ | exact Kd.Q_nil _ _ _ _ _ | exact Kd.S_nil _ _ _ _ _⟩, ⟨by repeat (first | (with_reducible first | exact HI0.out | apply IsS66.alloc | apply IsS66.drewN | apply IsS66.drew | apply IsS66.set_0 | apply IsS66.set_1 | apply IsS66.set_2) | exact HI0.out)⟩, ⟨by repeat (first | (with_reducible first | exact HK.out | apply KeepBut.set_ | apply keep_drewN | apply keep_drew | apply keep_alloc) | exact HK.out)⟩, ⟨by repeat (first | (with_reducible first | exact HB.out | apply below_alloc | apply pw_below_drewN | apply below_drew1 | refine below_set ?_ (IsS66.ge HI0.out)) | exact HB.out)⟩⟩
  case round =>
   clear H'
   try clear p2
   try clear c3
   try clear c4
   try clear p6
   obtain ⟨x4_1, x1000_1, x1001_1, x1002_1, HA, HK1, HO_4, HI0, HK, HB⟩ := hrel
   cases gk with
   | zero => exact absurd HA.out (by simp [class_reader_class.l0])
   | succ k1 =>
    have H := HA.out
    clear HA
    simp only [class_reader_class.l0] at H
    have HC7 := Aside0.mk H
    clear H
    go_upto_region 6 with (fail)
    go_cut [24] (fun v24 wc => ∃ (kq : Nat) (x24_6 : Bool) (x1000_6 : ByteArray) (x1001_6 : Int) (x1002_6 : Int), v24 = .bool x24_6 ∧ Aside0 (class_reader_class.j1 kq t190 x4_1 x24_6 x1000_6 x1001_6 x1002_6 = some (r1, r2, r3, r4)) ∧ Aside0 (kq ≤ k1) ∧ Aside0 (Kd.R k28 28 wc w.heap.size (fun _ => True) u4 x4_1) ∧ Aside0 (IsS66 w0 wc g x1000_6 x1001_6 x1002_6) ∧ Aside0 (KeepBut w wc g none) ∧ Aside0 (Below w0.heap.size w0 wc))
    case first =>
     have H := HC7.out
     clear HC7
     by_cases c8 : x1002_1 < 0
     ·rw [if_pos c8] at H
      have c8b0 : decide (x1002_1 < 0) = true := decide_eq_true c8
      clear c8
      (first | rw [c8b0] | (simp only [i64_w, i32_w]; rw [c8b0]) | skip)
      replace H := Option.bind_eq_some_iff.mp H
      obtain ⟨⟨t194, t195, t196, t197⟩, A90, H⟩ := H
      replace H : (class_reader_class.j1 k1 t190 x4_1 (!t194) t195 t196 t197) = some (r1, r2, r3, r4) := H
      have A9 := Aside0.mk A90
      clear A90
      have H' := Aside0.mk H
      clear H
      obtain ⟨HGz10, hgz10⟩ := HI0.out
      have hcz10_0 := cellS66_0 HGz10
      have hcz10_1 := cellS66_1 HGz10
      have hcz10_2 := cellS66_2 HGz10
      have hfz10_0 := blk_frozen HGz10 0
      have hfz10_1 := blk_frozen HGz10 1
      have hfz10_2 := blk_frozen HGz10 2
      clear HGz10 hgz10
      go_wp2_with (first | (go_at_call 42; (with_reducible refine (class_reader_take.calls k1 g x1000_1 x1001_1 x1002_1 93 t194 t195 t196 t197 w0 _ ?side1 ?side2 A9.out).mono ?_); (case side1 => repeat (first | (with_reducible first | exact HI0.out | apply IsS66.alloc | apply IsS66.drewN | apply IsS66.drew | apply IsS66.set_0 | apply IsS66.set_1 | apply IsS66.set_2) | exact HI0.out)); (case side2 => repeat (first | (with_reducible first | exact HB.out | apply below_alloc | apply pw_below_drewN | apply below_drew1 | refine below_set ?_ (IsS66.ge HI0.out)) | exact HB.out)); rintro e w11 ⟨rfl, hi, hb, hk⟩; have n0_ := Aside0.mk (Kd.R_mono (Kd.R_keep (IsS66.apart (show IsS66 w0 _ g x1000_1 x1001_1 x1002_1 from by repeat (first | (with_reducible first | exact HI0.out | apply IsS66.alloc | apply IsS66.drewN | apply IsS66.drew | apply IsS66.set_0 | apply IsS66.set_1 | apply IsS66.set_2) | exact HI0.out)) (kr_ HO_4) (by decide)) hk (fun _ h => h.2)) (fun _ h => h.1)); have n1_ := Aside0.mk (KeepBut.trans (by repeat (first | (with_reducible first | exact HK.out | apply KeepBut.set_ | apply keep_drewN | apply keep_drew | apply keep_alloc) | exact HK.out)) hk (.inl rfl)); have n2_ := Aside0.mk (hb); have n3_ := Aside0.mk (hi); clear HO_4; clear HK; clear HB; clear HI0; have HO_4 := n0_; have HK := n1_; have HB := n2_; have HI0 := n3_; clear n0_ n1_ n2_ n3_; (try clear hb); (try clear hk); (try clear hi)))
      go_meet
      case rel => exact ⟨_, (!t194), (t195), (t196), (t197), eq_, H', ⟨by have := HK1.out; first | omega | exact Nat.le_refl _⟩, ⟨by (with_reducible repeat (first | apply Kd.R_alloc | apply Kd.R_drewN | apply Kd.R_drew)); exact HO_4.out⟩, ⟨by repeat (first | (with_reducible first | exact HI0.out | apply IsS66.alloc | apply IsS66.drewN | apply IsS66.drew | apply IsS66.set_0 | apply IsS66.set_1 | apply IsS66.set_2) | exact HI0.out)⟩, ⟨by repeat (first | (with_reducible first | exact HK.out | apply KeepBut.set_ | apply keep_drewN | apply keep_drew | apply keep_alloc) | exact HK.out)⟩, ⟨by repeat (first | (with_reducible first | exact HB.out | apply below_alloc | apply pw_below_drewN | apply below_drew1 | refine below_set ?_ (IsS66.ge HI0.out)) | exact HB.out)⟩⟩
     ·rw [if_neg c8] at H
      have c8b0 : decide (x1002_1 < 0) = false := decide_eq_false c8
      clear c8
      (first | rw [c8b0] | (simp only [i64_w, i32_w]; rw [c8b0]) | skip)
      have H' := Aside0.mk H
      clear H
      obtain ⟨HGz12, hgz12⟩ := HI0.out
      have hcz12_0 := cellS66_0 HGz12
      have hcz12_1 := cellS66_1 HGz12
      have hcz12_2 := cellS66_2 HGz12
      have hfz12_0 := blk_frozen HGz12 0
      have hfz12_1 := blk_frozen HGz12 1
      have hfz12_2 := blk_frozen HGz12 2
      clear HGz12 hgz12
      go_wp2
      go_meet
      case rel => exact ⟨_, (false), (x1000_1), (x1001_1), (x1002_1), eq_, H', ⟨by have := HK1.out; first | omega | exact Nat.le_refl _⟩, ⟨by (with_reducible repeat (first | apply Kd.R_alloc | apply Kd.R_drewN | apply Kd.R_drew)); exact HO_4.out⟩, ⟨by repeat (first | (with_reducible first | exact HI0.out | apply IsS66.alloc | apply IsS66.drewN | apply IsS66.drew | apply IsS66.set_0 | apply IsS66.set_1 | apply IsS66.set_2) | exact HI0.out)⟩, ⟨by repeat (first | (with_reducible first | exact HK.out | apply KeepBut.set_ | apply keep_drewN | apply keep_drew | apply keep_alloc) | exact HK.out)⟩, ⟨by repeat (first | (with_reducible first | exact HB.out | apply below_alloc | apply pw_below_drewN | apply below_drew1 | refine below_set ?_ (IsS66.ge HI0.out)) | exact HB.out)⟩⟩
    case rest =>
     clear HC7
     try clear p2
     try clear c3
     try clear c4
     try clear p6
     try clear c8
     try clear c8b0
     try clear hcz10_0
     try clear hcz10_1
     try clear hcz10_2
     try clear hcz12_0
     try clear hcz12_1
     try clear hcz12_2
     try clear hfz10_0
     try clear hfz10_1
     try clear hfz10_2
     try clear hfz12_0
     try clear hfz12_1
     try clear hfz12_2
     try clear p2
     try clear p6
     obtain ⟨kq, x24_6, x1000_6, x1001_6, x1002_6, rfl, HA, HJ6, HO_4, HI0, HK, HB⟩ := hcut
     cases kq with
     | zero => exact absurd HA.out (by simp [class_reader_class.j1])
     | succ kj6 =>
      have H := HA.out
      clear HA
      simp only [class_reader_class.j1] at H
      by_cases c13 : x24_6 = true
      ·subst c13
       have H1 : ((class_reader_one.f kj6 x1000_6 x1001_6 x1002_6).bind fun bt198 => (if bt198.2.2.2 < 0 then ((class_reader_take.f kj6 bt198.2.1 bt198.2.2.1 bt198.2.2.2 45).bind fun bt202 => (class_reader_class.j2 kj6 t190 x4_1 bt198.1 bt198.1 bt202.1 bt202.2.1 bt202.2.2.1 bt202.2.2.2)) else (class_reader_class.j2 kj6 t190 x4_1 bt198.1 bt198.1 false bt198.2.1 bt198.2.2.1 bt198.2.2.2))) = some (r1, r2, r3, r4) := by rw [if_pos rfl] at H; exact H
       clear H
       have H := H1
       clear H1
       replace H := Option.bind_eq_some_iff.mp H
       obtain ⟨⟨t198, t199, t200, t201⟩, A140, H⟩ := H
       replace H : (if t201 < 0 then ((class_reader_take.f kj6 t199 t200 t201 45).bind fun bt202 => (class_reader_class.j2 kj6 t190 x4_1 t198 t198 bt202.1 bt202.2.1 bt202.2.2.1 bt202.2.2.2)) else (class_reader_class.j2 kj6 t190 x4_1 t198 t198 false t199 t200 t201)) = some (r1, r2, r3, r4) := H
       have A14 := Aside0.mk A140
       clear A140
       have HC15 := Aside0.mk H
       clear H
       go_upto_region 9 with (first | ((with_reducible refine gate_callee (f := 44) rfl ?_); refine gl_ (some 26) Tryz.func44 #[.pointer (some ⟨g, 0, none⟩)] ?_; (with_reducible refine (class_reader_one.calls kj6 g x1000_6 x1001_6 x1002_6 t198 t199 t200 t201 w0 _ ?side1 ?side2 A14.out).mono ?_); (case side1 => repeat (first | (with_reducible first | exact HI0.out | apply IsS66.alloc | apply IsS66.drewN | apply IsS66.drew | apply IsS66.set_0 | apply IsS66.set_1 | apply IsS66.set_2) | exact HI0.out)); (case side2 => repeat (first | (with_reducible first | exact HB.out | apply below_alloc | apply pw_below_drewN | apply below_drew1 | refine below_set ?_ (IsS66.ge HI0.out)) | exact HB.out)); rintro e w16 ⟨rfl, hi, hb, hk⟩; refine ⟨_, rfl, ?_⟩; have n0_ := Aside0.mk (Kd.R_mono (Kd.R_keep (IsS66.apart (show IsS66 w0 _ g x1000_6 x1001_6 x1002_6 from by repeat (first | (with_reducible first | exact HI0.out | apply IsS66.alloc | apply IsS66.drewN | apply IsS66.drew | apply IsS66.set_0 | apply IsS66.set_1 | apply IsS66.set_2) | exact HI0.out)) (kr_ HO_4) (by decide)) hk (fun _ h => h.2)) (fun _ h => h.1)); have n1_ := Aside0.mk (KeepBut.trans (by repeat (first | (with_reducible first | exact HK.out | apply KeepBut.set_ | apply keep_drewN | apply keep_drew | apply keep_alloc) | exact HK.out)) hk (.inl rfl)); have n2_ := Aside0.mk (hb); have n3_ := Aside0.mk (hi); clear HO_4; clear HK; clear HB; clear HI0; have HO_4 := n0_; have HK := n1_; have HB := n2_; have HI0 := n3_; clear n0_ n1_ n2_ n3_; (try clear hb); (try clear hk); (try clear hi)))
       (try simp only [Act.put, List.setIfInBounds_toArray, List.set_cons_zero, List.set_cons_succ])
       go_cut [36] (fun v36 wc => ∃ (kq : Nat) (x36_14 : Bool) (x1000_14 : ByteArray) (x1001_14 : Int) (x1002_14 : Int), v36 = .bool x36_14 ∧ Aside0 (class_reader_class.j2 kq t190 x4_1 t198 t198 x36_14 x1000_14 x1001_14 x1002_14 = some (r1, r2, r3, r4)) ∧ Aside0 (kq ≤ kj6) ∧ Aside0 (Kd.R k28 28 wc w.heap.size (fun _ => True) u4 x4_1) ∧ Aside0 (IsS66 w0 wc g x1000_14 x1001_14 x1002_14) ∧ Aside0 (KeepBut w wc g none) ∧ Aside0 (Below w0.heap.size w0 wc))
       case first =>
        have H := HC15.out
        clear HC15
        by_cases c17 : t201 < 0
        ·rw [if_pos c17] at H
         have c17b0 : decide (t201 < 0) = true := decide_eq_true c17
         clear c17
         (first | rw [c17b0] | (simp only [i64_w, i32_w]; rw [c17b0]) | skip)
         replace H := Option.bind_eq_some_iff.mp H
         obtain ⟨⟨t202, t203, t204, t205⟩, A180, H⟩ := H
         replace H : (class_reader_class.j2 kj6 t190 x4_1 t198 t198 t202 t203 t204 t205) = some (r1, r2, r3, r4) := H
         have A18 := Aside0.mk A180
         clear A180
         have H' := Aside0.mk H
         clear H
         obtain ⟨HGz19, hgz19⟩ := HI0.out
         have hcz19_0 := cellS66_0 HGz19
         have hcz19_1 := cellS66_1 HGz19
         have hcz19_2 := cellS66_2 HGz19
         have hfz19_0 := blk_frozen HGz19 0
         have hfz19_1 := blk_frozen HGz19 1
         have hfz19_2 := blk_frozen HGz19 2
         clear HGz19 hgz19
         go_wp2_with (first | (go_at_call 42; (with_reducible refine (class_reader_take.calls kj6 g t199 t200 t201 45 t202 t203 t204 t205 w0 _ ?side1 ?side2 A18.out).mono ?_); (case side1 => repeat (first | (with_reducible first | exact HI0.out | apply IsS66.alloc | apply IsS66.drewN | apply IsS66.drew | apply IsS66.set_0 | apply IsS66.set_1 | apply IsS66.set_2) | exact HI0.out)); (case side2 => repeat (first | (with_reducible first | exact HB.out | apply below_alloc | apply pw_below_drewN | apply below_drew1 | refine below_set ?_ (IsS66.ge HI0.out)) | exact HB.out)); rintro e w20 ⟨rfl, hi, hb, hk⟩; have n0_ := Aside0.mk (Kd.R_mono (Kd.R_keep (IsS66.apart (show IsS66 w0 _ g t199 t200 t201 from by repeat (first | (with_reducible first | exact HI0.out | apply IsS66.alloc | apply IsS66.drewN | apply IsS66.drew | apply IsS66.set_0 | apply IsS66.set_1 | apply IsS66.set_2) | exact HI0.out)) (kr_ HO_4) (by decide)) hk (fun _ h => h.2)) (fun _ h => h.1)); have n1_ := Aside0.mk (KeepBut.trans (by repeat (first | (with_reducible first | exact HK.out | apply KeepBut.set_ | apply keep_drewN | apply keep_drew | apply keep_alloc) | exact HK.out)) hk (.inl rfl)); have n2_ := Aside0.mk (hb); have n3_ := Aside0.mk (hi); clear HO_4; clear HK; clear HB; clear HI0; have HO_4 := n0_; have HK := n1_; have HB := n2_; have HI0 := n3_; clear n0_ n1_ n2_ n3_; (try clear hb); (try clear hk); (try clear hi)))
         go_meet
         case rel => exact ⟨_, (t202), (t203), (t204), (t205), eq_, H', ⟨by have := HK1.out; have := HJ6.out; first | omega | exact Nat.le_refl _⟩, ⟨by (with_reducible repeat (first | apply Kd.R_alloc | apply Kd.R_drewN | apply Kd.R_drew)); exact HO_4.out⟩, ⟨by repeat (first | (with_reducible first | exact HI0.out | apply IsS66.alloc | apply IsS66.drewN | apply IsS66.drew | apply IsS66.set_0 | apply IsS66.set_1 | apply IsS66.set_2) | exact HI0.out)⟩, ⟨by repeat (first | (with_reducible first | exact HK.out | apply KeepBut.set_ | apply keep_drewN | apply keep_drew | apply keep_alloc) | exact HK.out)⟩, ⟨by repeat (first | (with_reducible first | exact HB.out | apply below_alloc | apply pw_below_drewN | apply below_drew1 | refine below_set ?_ (IsS66.ge HI0.out)) | exact HB.out)⟩⟩
        ·rw [if_neg c17] at H
         have c17b0 : decide (t201 < 0) = false := decide_eq_false c17
         clear c17
         (first | rw [c17b0] | (simp only [i64_w, i32_w]; rw [c17b0]) | skip)
         have H' := Aside0.mk H
         clear H
         obtain ⟨HGz21, hgz21⟩ := HI0.out
         have hcz21_0 := cellS66_0 HGz21
         have hcz21_1 := cellS66_1 HGz21
         have hcz21_2 := cellS66_2 HGz21
         have hfz21_0 := blk_frozen HGz21 0
         have hfz21_1 := blk_frozen HGz21 1
         have hfz21_2 := blk_frozen HGz21 2
         clear HGz21 hgz21
         go_wp2
         go_meet
         case rel => exact ⟨_, (false), (t199), (t200), (t201), eq_, H', ⟨by have := HK1.out; have := HJ6.out; first | omega | exact Nat.le_refl _⟩, ⟨by (with_reducible repeat (first | apply Kd.R_alloc | apply Kd.R_drewN | apply Kd.R_drew)); exact HO_4.out⟩, ⟨by repeat (first | (with_reducible first | exact HI0.out | apply IsS66.alloc | apply IsS66.drewN | apply IsS66.drew | apply IsS66.set_0 | apply IsS66.set_1 | apply IsS66.set_2) | exact HI0.out)⟩, ⟨by repeat (first | (with_reducible first | exact HK.out | apply KeepBut.set_ | apply keep_drewN | apply keep_drew | apply keep_alloc) | exact HK.out)⟩, ⟨by repeat (first | (with_reducible first | exact HB.out | apply below_alloc | apply pw_below_drewN | apply below_drew1 | refine below_set ?_ (IsS66.ge HI0.out)) | exact HB.out)⟩⟩
       case rest =>
        clear HC15
        try clear c1
        try clear p2
        try clear c3
        try clear c4
        try clear p6
        try clear c8
        try clear c8b0
        try clear c13
        try clear c17
        try clear c17b0
        try clear hcz10_0
        try clear hcz10_1
        try clear hcz10_2
        try clear hcz12_0
        try clear hcz12_1
        try clear hcz12_2
        try clear hcz19_0
        try clear hcz19_1
        try clear hcz19_2
        try clear hcz21_0
        try clear hcz21_1
        try clear hcz21_2
        try clear hfz10_0
        try clear hfz10_1
        try clear hfz10_2
        try clear hfz12_0
        try clear hfz12_1
        try clear hfz12_2
        try clear hfz19_0
        try clear hfz19_1
        try clear hfz19_2
        try clear hfz21_0
        try clear hfz21_1
        try clear hfz21_2
        try clear p2
        try clear p6
        obtain ⟨kq, x36_14, x1000_14, x1001_14, x1002_14, rfl, HA, HJ14, HO_4, HI0, HK, HB⟩ := hcut
        cases kq with
        | zero => exact absurd HA.out (by simp [class_reader_class.j2])
        | succ kj14 =>
         have H := HA.out
         clear HA
         simp only [class_reader_class.j2] at H
         by_cases c22 : x36_14 = true
         ·subst c22
          have H1 : ((class_reader_peek.f kj14 x1000_14 x1001_14 x1002_14).bind fun bt206 => ((class_reader_one.f kj14 bt206.2.1 bt206.2.2.1 bt206.2.2.2).bind fun bt210 => (if bt210.2.2.2 < 0 then (if bt210.1 < t198 then ((class_reader_fail.f bt210.2.1 bt206.2.2.1 bt210.2.2.2).bind fun bt214 => (if x4_1.length < 17592186044416 then (class_reader_class.l0 kj14 t190 (x4_1 ++ [(⟨t198, bt210.1⟩ : S28)]) bt214.1 bt214.2.1 bt214.2.2) else (none))) else (if x4_1.length < 17592186044416 then (class_reader_class.l0 kj14 t190 (x4_1 ++ [(⟨t198, bt210.1⟩ : S28)]) bt210.2.1 bt210.2.2.1 bt210.2.2.2) else (none))) else (if x4_1.length < 17592186044416 then (class_reader_class.l0 kj14 t190 (x4_1 ++ [(⟨t198, bt210.1⟩ : S28)]) bt210.2.1 bt210.2.2.1 bt210.2.2.2) else (none))))) = some (r1, r2, r3, r4) := by rw [if_pos rfl] at H; exact H
          clear H
          have H := H1
          clear H1
          replace H := Option.bind_eq_some_iff.mp H
          obtain ⟨⟨t206, t207, t208, t209⟩, A230, H⟩ := H
          replace H : ((class_reader_one.f kj14 t207 t208 t209).bind fun bt210 => (if bt210.2.2.2 < 0 then (if bt210.1 < t198 then ((class_reader_fail.f bt210.2.1 t208 bt210.2.2.2).bind fun bt214 => (if x4_1.length < 17592186044416 then (class_reader_class.l0 kj14 t190 (x4_1 ++ [(⟨t198, bt210.1⟩ : S28)]) bt214.1 bt214.2.1 bt214.2.2) else (none))) else (if x4_1.length < 17592186044416 then (class_reader_class.l0 kj14 t190 (x4_1 ++ [(⟨t198, bt210.1⟩ : S28)]) bt210.2.1 bt210.2.2.1 bt210.2.2.2) else (none))) else (if x4_1.length < 17592186044416 then (class_reader_class.l0 kj14 t190 (x4_1 ++ [(⟨t198, bt210.1⟩ : S28)]) bt210.2.1 bt210.2.2.1 bt210.2.2.2) else (none)))) = some (r1, r2, r3, r4) := H
          have A23 := Aside0.mk A230
          clear A230
          replace H := Option.bind_eq_some_iff.mp H
          obtain ⟨⟨t210, t211, t212, t213⟩, A240, H⟩ := H
          replace H : (if t213 < 0 then (if t210 < t198 then ((class_reader_fail.f t211 t208 t213).bind fun bt214 => (if x4_1.length < 17592186044416 then (class_reader_class.l0 kj14 t190 (x4_1 ++ [(⟨t198, t210⟩ : S28)]) bt214.1 bt214.2.1 bt214.2.2) else (none))) else (if x4_1.length < 17592186044416 then (class_reader_class.l0 kj14 t190 (x4_1 ++ [(⟨t198, t210⟩ : S28)]) t211 t212 t213) else (none))) else (if x4_1.length < 17592186044416 then (class_reader_class.l0 kj14 t190 (x4_1 ++ [(⟨t198, t210⟩ : S28)]) t211 t212 t213) else (none))) = some (r1, r2, r3, r4) := H
          have A24 := Aside0.mk A240
          clear A240
          by_cases c25 : t213 < 0
          ·rw [if_pos c25] at H
           have c25b0 : decide (t213 < 0) = true := decide_eq_true c25
           clear c25
           by_cases c26 : t210 < t198
           ·rw [if_pos c26] at H
            have c26b0 : decide (t210 < t198) = true := decide_eq_true c26
            clear c26
            replace H := Option.bind_eq_some_iff.mp H
            obtain ⟨⟨t214, t215, t216⟩, A270, H⟩ := H
            replace H : (if x4_1.length < 17592186044416 then (class_reader_class.l0 kj14 t190 (x4_1 ++ [(⟨t198, t210⟩ : S28)]) t214 t215 t216) else (none)) = some (r1, r2, r3, r4) := H
            have A27 := Aside0.mk A270
            clear A270
            by_cases c28 : x4_1.length < 17592186044416
            ·rw [if_pos c28] at H
             have LMc28 := Aside0.mk c28
             clear c28
             obtain ⟨y217, hy217⟩ : ∃ y_ : List (S28), y_ = (x4_1 ++ [(⟨t198, t210⟩ : S28)]) := ⟨_, rfl⟩
             replace H : (class_reader_class.l0 kj14 t190 y217 t214 t215 t216) = some (r1, r2, r3, r4) := by first | (rw [hy217]; with_reducible exact H) | (have H2_ := (Option.bind_some _ _).symm.trans H; rw [hy217]; with_reducible exact H2_) | (have H2_ := (Option.bind_some _ _).symm.trans H; with_reducible exact H2_) | with_reducible exact H | (rw [hy217]; exact H) | exact H
             have Ny217 := Aside0.mk hy217
             clear hy217
             have H' := Aside0.mk H
             clear H
             go_wp2_with (first | ((with_reducible refine gate_callee (f := 45) rfl ?_); refine gl_ (some 38) Tryz.func45 #[.pointer (some ⟨g, 0, none⟩)] ?_; (with_reducible refine (class_reader_peek.calls kj14 g x1000_14 x1001_14 x1002_14 t206 t207 t208 t209 w0 _ ?side1 ?side2 A23.out).mono ?_); (case side1 => repeat (first | (with_reducible first | exact HI0.out | apply IsS66.alloc | apply IsS66.drewN | apply IsS66.drew | apply IsS66.set_0 | apply IsS66.set_1 | apply IsS66.set_2) | exact HI0.out)); (case side2 => repeat (first | (with_reducible first | exact HB.out | apply below_alloc | apply pw_below_drewN | apply below_drew1 | refine below_set ?_ (IsS66.ge HI0.out)) | exact HB.out)); rintro e w29 ⟨rfl, hi, hb, hk⟩; refine ⟨_, rfl, ?_⟩; have n0_ := Aside0.mk (Kd.R_mono (Kd.R_keep (IsS66.apart (show IsS66 w0 _ g x1000_14 x1001_14 x1002_14 from by repeat (first | (with_reducible first | exact HI0.out | apply IsS66.alloc | apply IsS66.drewN | apply IsS66.drew | apply IsS66.set_0 | apply IsS66.set_1 | apply IsS66.set_2) | exact HI0.out)) (kr_ HO_4) (by decide)) hk (fun _ h => h.2)) (fun _ h => h.1)); have n1_ := Aside0.mk (KeepBut.trans (by repeat (first | (with_reducible first | exact HK.out | apply KeepBut.set_ | apply keep_drewN | apply keep_drew | apply keep_alloc) | exact HK.out)) hk (.inl rfl)); have n2_ := Aside0.mk (hb); have n3_ := Aside0.mk (hi); clear HO_4; clear HK; clear HB; clear HI0; have HO_4 := n0_; have HK := n1_; have HB := n2_; have HI0 := n3_; clear n0_ n1_ n2_ n3_; (try clear hb); (try clear hk); (try clear hi); obtain ⟨HGz30, hgz30⟩ := HI0.out; have hcz30_0 := cellS66_0 HGz30; have hcz30_1 := cellS66_1 HGz30; have hcz30_2 := cellS66_2 HGz30; have hfz30_0 := blk_frozen HGz30 0; have hfz30_1 := blk_frozen HGz30 1; have hfz30_2 := blk_frozen HGz30 2; clear HGz30 hgz30) | ((with_reducible refine gate_callee (f := 44) rfl ?_); refine gl_ (some 44) Tryz.func44 #[.pointer (some ⟨g, 0, none⟩)] ?_; (with_reducible refine (class_reader_one.calls kj14 g t207 t208 t209 t210 t211 t212 t213 w0 _ ?side1 ?side2 A24.out).mono ?_); (case side1 => repeat (first | (with_reducible first | exact HI0.out | apply IsS66.alloc | apply IsS66.drewN | apply IsS66.drew | apply IsS66.set_0 | apply IsS66.set_1 | apply IsS66.set_2) | exact HI0.out)); (case side2 => repeat (first | (with_reducible first | exact HB.out | apply below_alloc | apply pw_below_drewN | apply below_drew1 | refine below_set ?_ (IsS66.ge HI0.out)) | exact HB.out)); rintro e w31 ⟨rfl, hi, hb, hk⟩; refine ⟨_, rfl, ?_⟩; have n0_ := Aside0.mk (Kd.R_mono (Kd.R_keep (IsS66.apart (show IsS66 w0 _ g t207 t208 t209 from by repeat (first | (with_reducible first | exact HI0.out | apply IsS66.alloc | apply IsS66.drewN | apply IsS66.drew | apply IsS66.set_0 | apply IsS66.set_1 | apply IsS66.set_2) | exact HI0.out)) (kr_ HO_4) (by decide)) hk (fun _ h => h.2)) (fun _ h => h.1)); have n1_ := Aside0.mk (KeepBut.trans (by repeat (first | (with_reducible first | exact HK.out | apply KeepBut.set_ | apply keep_drewN | apply keep_drew | apply keep_alloc) | exact HK.out)) hk (.inl rfl)); have n2_ := Aside0.mk (hb); have n3_ := Aside0.mk (hi); clear HO_4; clear HK; clear HB; clear HI0; have HO_4 := n0_; have HK := n1_; have HB := n2_; have HI0 := n3_; clear n0_ n1_ n2_ n3_; (try clear hb); (try clear hk); (try clear hi); obtain ⟨HGz32, hgz32⟩ := HI0.out; have hcz32_0 := cellS66_0 HGz32; have hcz32_1 := cellS66_1 HGz32; have hcz32_2 := cellS66_2 HGz32; have hfz32_0 := blk_frozen HGz32 0; have hfz32_1 := blk_frozen HGz32 1; have hfz32_2 := blk_frozen HGz32 2; clear HGz32 hgz32) | ((with_reducible refine gate_callee (f := 43) rfl ?_); refine gl_ (some 60) Tryz.func43 #[.pointer (some ⟨g, 0, none⟩)] ?_; (with_reducible refine (class_reader_fail.calls g t211 t208 t213 t214 t215 t216 w0 _ ?side1 ?side2 A27.out).mono ?_); (case side1 => repeat (first | (with_reducible first | exact HI0.out | apply IsS66.alloc | apply IsS66.drewN | apply IsS66.drew | apply IsS66.set_0 | apply IsS66.set_1 | apply IsS66.set_2) | exact HI0.out)); (case side2 => repeat (first | (with_reducible first | exact HB.out | apply below_alloc | apply pw_below_drewN | apply below_drew1 | refine below_set ?_ (IsS66.ge HI0.out)) | exact HB.out)); rintro e w33 ⟨rfl, hi, hb, hk⟩; refine ⟨_, rfl, ?_⟩; have n0_ := Aside0.mk (Kd.R_mono (Kd.R_keep (IsS66.apart (show IsS66 w0 _ g t211 t208 t213 from by repeat (first | (with_reducible first | exact HI0.out | apply IsS66.alloc | apply IsS66.drewN | apply IsS66.drew | apply IsS66.set_0 | apply IsS66.set_1 | apply IsS66.set_2) | exact HI0.out)) (by (with_reducible repeat (first | apply Kd.R_alloc | apply Kd.R_drewN | apply Kd.R_drew)); exact (Kd.R_mono (Kd.R_far (p := ⟨g, 1, none⟩) (IsS66.apart HI0.out HO_4.out (by decide)) (fun _ hk => hk.2) (.int .i64 t208)) (fun _ h_ => h_.1))) (by decide)) hk (fun _ h => h.2)) (fun _ h => h.1)); have n1_ := Aside0.mk (KeepBut.trans (by repeat (first | (with_reducible first | exact HK.out | apply KeepBut.set_ | apply keep_drewN | apply keep_drew | apply keep_alloc) | exact HK.out)) hk (.inl rfl)); have n2_ := Aside0.mk (hb); have n3_ := Aside0.mk (hi); clear HO_4; clear HK; clear HB; clear HI0; have HO_4 := n0_; have HK := n1_; have HB := n2_; have HI0 := n3_; clear n0_ n1_ n2_ n3_; (try clear hb); (try clear hk); (try clear hi)) | ((with_reducible refine gate_builtin (b := .append) (xs := #[.tmp 61, .tmp 65]) rfl ?_); (try (refine gate_guard (by rfl) ?_; dsimp only)); at_builtin; refine Kd.R_append k28 w.heap.size rfl (.tmp 61) (.tmp 65) 22 28 (.agg #[(.int .i32 0), (.int .i32 0)]) 8 rfl Tryz.underlying22 info28 rfl (by decide) (by omega) u4 x4_1 (⟨t198, t210⟩ : S28) [.int .i32 t198, .int .i32 t210] (fun _ => True) (fun _ => False) rfl rfl ?aP (fun _ hk => hk.elim) ?aF ?aO (Below.refl _ _) ?aS ?aL ?_; (case aP => exact k28_mkM _ _ _ (⟨t198, t210⟩ : S28)); (case aF => exact (fun _ _ => trivial)); (case aO => exact (kr_ HO_4)); (case aS => exact (keep_size (w := w) (g := g) (row := none) (by repeat (first | (with_reducible first | exact HK.out | apply KeepBut.set_ | apply keep_drewN | apply keep_drew | apply keep_alloc) | exact HK.out)))); (case aL => have := LMc28.out; omega); intro v218 w34 ho hb hg hat; rw [← Ny217.out] at ho; have n0_ := Aside0.mk (IsS66.grown (by repeat (first | (with_reducible first | exact HI0.out | apply IsS66.alloc | apply IsS66.drewN | apply IsS66.drew | apply IsS66.set_0 | apply IsS66.set_1 | apply IsS66.set_2) | exact HI0.out)) hg (IsS66.own_ne HI0.out HO_4.out (by decide))); have n1_ := Aside0.mk (below_weaken (by repeat (first | (with_reducible first | exact HB.out | apply below_alloc | apply pw_below_drewN | apply below_drew1 | refine below_set ?_ (IsS66.ge HI0.out)) | exact HB.out)) HL.out hb); have n2_ := Aside0.mk (KeepBut.trans (by repeat (first | (with_reducible first | exact HK.out | apply KeepBut.set_ | apply keep_drewN | apply keep_drew | apply keep_alloc) | exact HK.out)) (KeepBut.of_grown hg g) (Kd.R_base2 HO_4.out)); have n3_ := Aside0.mk (ho); clear HI0; clear HB; clear HK; clear HO_4; have HI0 := n0_; have HB := n1_; have HK := n2_; have HO219 := n3_; clear n0_ n1_ n2_ n3_; clear ho hb hg hat))
             go_roundg kj14
             case measure => have := HK1.out; have := HJ6.out; have := HJ14.out; omega
             case rel => exact ⟨(y217), (t214), (t215), (t216), H', ⟨by have := HK1.out; have := HJ6.out; have := HJ14.out; omega⟩, ⟨by (with_reducible repeat (first | apply Kd.R_alloc | apply Kd.R_drewN | apply Kd.R_drew)); exact HO219.out⟩, ⟨by repeat (first | (with_reducible first | exact HI0.out | apply IsS66.alloc | apply IsS66.drewN | apply IsS66.drew | apply IsS66.set_0 | apply IsS66.set_1 | apply IsS66.set_2) | exact HI0.out)⟩, ⟨by repeat (first | (with_reducible first | exact HK.out | apply KeepBut.set_ | apply keep_drewN | apply keep_drew | apply keep_alloc) | exact HK.out)⟩, ⟨by repeat (first | (with_reducible first | exact HB.out | apply below_alloc | apply pw_below_drewN | apply below_drew1 | refine below_set ?_ (IsS66.ge HI0.out)) | exact HB.out)⟩⟩
            ·rw [if_neg c28] at H
             exact absurd H (by simp)
           ·rw [if_neg c26] at H
            have c26b0 : decide (t210 < t198) = false := decide_eq_false c26
            clear c26
            by_cases c35 : x4_1.length < 17592186044416
            ·rw [if_pos c35] at H
             have LMc35 := Aside0.mk c35
             clear c35
             obtain ⟨y220, hy220⟩ : ∃ y_ : List (S28), y_ = (x4_1 ++ [(⟨t198, t210⟩ : S28)]) := ⟨_, rfl⟩
             replace H : (class_reader_class.l0 kj14 t190 y220 t211 t212 t213) = some (r1, r2, r3, r4) := by first | (rw [hy220]; with_reducible exact H) | (have H2_ := (Option.bind_some _ _).symm.trans H; rw [hy220]; with_reducible exact H2_) | (have H2_ := (Option.bind_some _ _).symm.trans H; with_reducible exact H2_) | with_reducible exact H | (rw [hy220]; exact H) | exact H
             have Ny220 := Aside0.mk hy220
             clear hy220
             have H' := Aside0.mk H
             clear H
             go_wp2_with (first | ((with_reducible refine gate_callee (f := 45) rfl ?_); refine gl_ (some 38) Tryz.func45 #[.pointer (some ⟨g, 0, none⟩)] ?_; (with_reducible refine (class_reader_peek.calls kj14 g x1000_14 x1001_14 x1002_14 t206 t207 t208 t209 w0 _ ?side1 ?side2 A23.out).mono ?_); (case side1 => repeat (first | (with_reducible first | exact HI0.out | apply IsS66.alloc | apply IsS66.drewN | apply IsS66.drew | apply IsS66.set_0 | apply IsS66.set_1 | apply IsS66.set_2) | exact HI0.out)); (case side2 => repeat (first | (with_reducible first | exact HB.out | apply below_alloc | apply pw_below_drewN | apply below_drew1 | refine below_set ?_ (IsS66.ge HI0.out)) | exact HB.out)); rintro e w36 ⟨rfl, hi, hb, hk⟩; refine ⟨_, rfl, ?_⟩; have n0_ := Aside0.mk (Kd.R_mono (Kd.R_keep (IsS66.apart (show IsS66 w0 _ g x1000_14 x1001_14 x1002_14 from by repeat (first | (with_reducible first | exact HI0.out | apply IsS66.alloc | apply IsS66.drewN | apply IsS66.drew | apply IsS66.set_0 | apply IsS66.set_1 | apply IsS66.set_2) | exact HI0.out)) (kr_ HO_4) (by decide)) hk (fun _ h => h.2)) (fun _ h => h.1)); have n1_ := Aside0.mk (KeepBut.trans (by repeat (first | (with_reducible first | exact HK.out | apply KeepBut.set_ | apply keep_drewN | apply keep_drew | apply keep_alloc) | exact HK.out)) hk (.inl rfl)); have n2_ := Aside0.mk (hb); have n3_ := Aside0.mk (hi); clear HO_4; clear HK; clear HB; clear HI0; have HO_4 := n0_; have HK := n1_; have HB := n2_; have HI0 := n3_; clear n0_ n1_ n2_ n3_; (try clear hb); (try clear hk); (try clear hi); obtain ⟨HGz37, hgz37⟩ := HI0.out; have hcz37_0 := cellS66_0 HGz37; have hcz37_1 := cellS66_1 HGz37; have hcz37_2 := cellS66_2 HGz37; have hfz37_0 := blk_frozen HGz37 0; have hfz37_1 := blk_frozen HGz37 1; have hfz37_2 := blk_frozen HGz37 2; clear HGz37 hgz37) | ((with_reducible refine gate_callee (f := 44) rfl ?_); refine gl_ (some 44) Tryz.func44 #[.pointer (some ⟨g, 0, none⟩)] ?_; (with_reducible refine (class_reader_one.calls kj14 g t207 t208 t209 t210 t211 t212 t213 w0 _ ?side1 ?side2 A24.out).mono ?_); (case side1 => repeat (first | (with_reducible first | exact HI0.out | apply IsS66.alloc | apply IsS66.drewN | apply IsS66.drew | apply IsS66.set_0 | apply IsS66.set_1 | apply IsS66.set_2) | exact HI0.out)); (case side2 => repeat (first | (with_reducible first | exact HB.out | apply below_alloc | apply pw_below_drewN | apply below_drew1 | refine below_set ?_ (IsS66.ge HI0.out)) | exact HB.out)); rintro e w38 ⟨rfl, hi, hb, hk⟩; refine ⟨_, rfl, ?_⟩; have n0_ := Aside0.mk (Kd.R_mono (Kd.R_keep (IsS66.apart (show IsS66 w0 _ g t207 t208 t209 from by repeat (first | (with_reducible first | exact HI0.out | apply IsS66.alloc | apply IsS66.drewN | apply IsS66.drew | apply IsS66.set_0 | apply IsS66.set_1 | apply IsS66.set_2) | exact HI0.out)) (kr_ HO_4) (by decide)) hk (fun _ h => h.2)) (fun _ h => h.1)); have n1_ := Aside0.mk (KeepBut.trans (by repeat (first | (with_reducible first | exact HK.out | apply KeepBut.set_ | apply keep_drewN | apply keep_drew | apply keep_alloc) | exact HK.out)) hk (.inl rfl)); have n2_ := Aside0.mk (hb); have n3_ := Aside0.mk (hi); clear HO_4; clear HK; clear HB; clear HI0; have HO_4 := n0_; have HK := n1_; have HB := n2_; have HI0 := n3_; clear n0_ n1_ n2_ n3_; (try clear hb); (try clear hk); (try clear hi); obtain ⟨HGz39, hgz39⟩ := HI0.out; have hcz39_0 := cellS66_0 HGz39; have hcz39_1 := cellS66_1 HGz39; have hcz39_2 := cellS66_2 HGz39; have hfz39_0 := blk_frozen HGz39 0; have hfz39_1 := blk_frozen HGz39 1; have hfz39_2 := blk_frozen HGz39 2; clear HGz39 hgz39) | ((with_reducible refine gate_builtin (b := .append) (xs := #[.tmp 61, .tmp 65]) rfl ?_); (try (refine gate_guard (by rfl) ?_; dsimp only)); at_builtin; refine Kd.R_append k28 w.heap.size rfl (.tmp 61) (.tmp 65) 22 28 (.agg #[(.int .i32 0), (.int .i32 0)]) 8 rfl Tryz.underlying22 info28 rfl (by decide) (by omega) u4 x4_1 (⟨t198, t210⟩ : S28) [.int .i32 t198, .int .i32 t210] (fun _ => True) (fun _ => False) rfl rfl ?aP (fun _ hk => hk.elim) ?aF ?aO (Below.refl _ _) ?aS ?aL ?_; (case aP => exact k28_mkM _ _ _ (⟨t198, t210⟩ : S28)); (case aF => exact (fun _ _ => trivial)); (case aO => exact (kr_ HO_4)); (case aS => exact (keep_size (w := w) (g := g) (row := none) (by repeat (first | (with_reducible first | exact HK.out | apply KeepBut.set_ | apply keep_drewN | apply keep_drew | apply keep_alloc) | exact HK.out)))); (case aL => have := LMc35.out; omega); intro v221 w40 ho hb hg hat; rw [← Ny220.out] at ho; have n0_ := Aside0.mk (IsS66.grown (by repeat (first | (with_reducible first | exact HI0.out | apply IsS66.alloc | apply IsS66.drewN | apply IsS66.drew | apply IsS66.set_0 | apply IsS66.set_1 | apply IsS66.set_2) | exact HI0.out)) hg (IsS66.own_ne HI0.out HO_4.out (by decide))); have n1_ := Aside0.mk (below_weaken (by repeat (first | (with_reducible first | exact HB.out | apply below_alloc | apply pw_below_drewN | apply below_drew1 | refine below_set ?_ (IsS66.ge HI0.out)) | exact HB.out)) HL.out hb); have n2_ := Aside0.mk (KeepBut.trans (by repeat (first | (with_reducible first | exact HK.out | apply KeepBut.set_ | apply keep_drewN | apply keep_drew | apply keep_alloc) | exact HK.out)) (KeepBut.of_grown hg g) (Kd.R_base2 HO_4.out)); have n3_ := Aside0.mk (ho); clear HI0; clear HB; clear HK; clear HO_4; have HI0 := n0_; have HB := n1_; have HK := n2_; have HO222 := n3_; clear n0_ n1_ n2_ n3_; clear ho hb hg hat))
             go_roundg kj14
             case measure => have := HK1.out; have := HJ6.out; have := HJ14.out; omega
             case rel => exact ⟨(y220), (t211), (t212), (t213), H', ⟨by have := HK1.out; have := HJ6.out; have := HJ14.out; omega⟩, ⟨by (with_reducible repeat (first | apply Kd.R_alloc | apply Kd.R_drewN | apply Kd.R_drew)); exact HO222.out⟩, ⟨by repeat (first | (with_reducible first | exact HI0.out | apply IsS66.alloc | apply IsS66.drewN | apply IsS66.drew | apply IsS66.set_0 | apply IsS66.set_1 | apply IsS66.set_2) | exact HI0.out)⟩, ⟨by repeat (first | (with_reducible first | exact HK.out | apply KeepBut.set_ | apply keep_drewN | apply keep_drew | apply keep_alloc) | exact HK.out)⟩, ⟨by repeat (first | (with_reducible first | exact HB.out | apply below_alloc | apply pw_below_drewN | apply below_drew1 | refine below_set ?_ (IsS66.ge HI0.out)) | exact HB.out)⟩⟩
            ·rw [if_neg c35] at H
             exact absurd H (by simp)
          ·rw [if_neg c25] at H
           have c25b0 : decide (t213 < 0) = false := decide_eq_false c25
           clear c25
           by_cases c41 : x4_1.length < 17592186044416
           ·rw [if_pos c41] at H
            have LMc41 := Aside0.mk c41
            clear c41
            obtain ⟨y223, hy223⟩ : ∃ y_ : List (S28), y_ = (x4_1 ++ [(⟨t198, t210⟩ : S28)]) := ⟨_, rfl⟩
            replace H : (class_reader_class.l0 kj14 t190 y223 t211 t212 t213) = some (r1, r2, r3, r4) := by first | (rw [hy223]; with_reducible exact H) | (have H2_ := (Option.bind_some _ _).symm.trans H; rw [hy223]; with_reducible exact H2_) | (have H2_ := (Option.bind_some _ _).symm.trans H; with_reducible exact H2_) | with_reducible exact H | (rw [hy223]; exact H) | exact H
            have Ny223 := Aside0.mk hy223
            clear hy223
            have H' := Aside0.mk H
            clear H
            go_wp2_with (first | ((with_reducible refine gate_callee (f := 45) rfl ?_); refine gl_ (some 38) Tryz.func45 #[.pointer (some ⟨g, 0, none⟩)] ?_; (with_reducible refine (class_reader_peek.calls kj14 g x1000_14 x1001_14 x1002_14 t206 t207 t208 t209 w0 _ ?side1 ?side2 A23.out).mono ?_); (case side1 => repeat (first | (with_reducible first | exact HI0.out | apply IsS66.alloc | apply IsS66.drewN | apply IsS66.drew | apply IsS66.set_0 | apply IsS66.set_1 | apply IsS66.set_2) | exact HI0.out)); (case side2 => repeat (first | (with_reducible first | exact HB.out | apply below_alloc | apply pw_below_drewN | apply below_drew1 | refine below_set ?_ (IsS66.ge HI0.out)) | exact HB.out)); rintro e w42 ⟨rfl, hi, hb, hk⟩; refine ⟨_, rfl, ?_⟩; have n0_ := Aside0.mk (Kd.R_mono (Kd.R_keep (IsS66.apart (show IsS66 w0 _ g x1000_14 x1001_14 x1002_14 from by repeat (first | (with_reducible first | exact HI0.out | apply IsS66.alloc | apply IsS66.drewN | apply IsS66.drew | apply IsS66.set_0 | apply IsS66.set_1 | apply IsS66.set_2) | exact HI0.out)) (kr_ HO_4) (by decide)) hk (fun _ h => h.2)) (fun _ h => h.1)); have n1_ := Aside0.mk (KeepBut.trans (by repeat (first | (with_reducible first | exact HK.out | apply KeepBut.set_ | apply keep_drewN | apply keep_drew | apply keep_alloc) | exact HK.out)) hk (.inl rfl)); have n2_ := Aside0.mk (hb); have n3_ := Aside0.mk (hi); clear HO_4; clear HK; clear HB; clear HI0; have HO_4 := n0_; have HK := n1_; have HB := n2_; have HI0 := n3_; clear n0_ n1_ n2_ n3_; (try clear hb); (try clear hk); (try clear hi); obtain ⟨HGz43, hgz43⟩ := HI0.out; have hcz43_0 := cellS66_0 HGz43; have hcz43_1 := cellS66_1 HGz43; have hcz43_2 := cellS66_2 HGz43; have hfz43_0 := blk_frozen HGz43 0; have hfz43_1 := blk_frozen HGz43 1; have hfz43_2 := blk_frozen HGz43 2; clear HGz43 hgz43) | ((with_reducible refine gate_callee (f := 44) rfl ?_); refine gl_ (some 44) Tryz.func44 #[.pointer (some ⟨g, 0, none⟩)] ?_; (with_reducible refine (class_reader_one.calls kj14 g t207 t208 t209 t210 t211 t212 t213 w0 _ ?side1 ?side2 A24.out).mono ?_); (case side1 => repeat (first | (with_reducible first | exact HI0.out | apply IsS66.alloc | apply IsS66.drewN | apply IsS66.drew | apply IsS66.set_0 | apply IsS66.set_1 | apply IsS66.set_2) | exact HI0.out)); (case side2 => repeat (first | (with_reducible first | exact HB.out | apply below_alloc | apply pw_below_drewN | apply below_drew1 | refine below_set ?_ (IsS66.ge HI0.out)) | exact HB.out)); rintro e w44 ⟨rfl, hi, hb, hk⟩; refine ⟨_, rfl, ?_⟩; have n0_ := Aside0.mk (Kd.R_mono (Kd.R_keep (IsS66.apart (show IsS66 w0 _ g t207 t208 t209 from by repeat (first | (with_reducible first | exact HI0.out | apply IsS66.alloc | apply IsS66.drewN | apply IsS66.drew | apply IsS66.set_0 | apply IsS66.set_1 | apply IsS66.set_2) | exact HI0.out)) (kr_ HO_4) (by decide)) hk (fun _ h => h.2)) (fun _ h => h.1)); have n1_ := Aside0.mk (KeepBut.trans (by repeat (first | (with_reducible first | exact HK.out | apply KeepBut.set_ | apply keep_drewN | apply keep_drew | apply keep_alloc) | exact HK.out)) hk (.inl rfl)); have n2_ := Aside0.mk (hb); have n3_ := Aside0.mk (hi); clear HO_4; clear HK; clear HB; clear HI0; have HO_4 := n0_; have HK := n1_; have HB := n2_; have HI0 := n3_; clear n0_ n1_ n2_ n3_; (try clear hb); (try clear hk); (try clear hi); obtain ⟨HGz45, hgz45⟩ := HI0.out; have hcz45_0 := cellS66_0 HGz45; have hcz45_1 := cellS66_1 HGz45; have hcz45_2 := cellS66_2 HGz45; have hfz45_0 := blk_frozen HGz45 0; have hfz45_1 := blk_frozen HGz45 1; have hfz45_2 := blk_frozen HGz45 2; clear HGz45 hgz45) | ((with_reducible refine gate_builtin (b := .append) (xs := #[.tmp 61, .tmp 65]) rfl ?_); (try (refine gate_guard (by rfl) ?_; dsimp only)); at_builtin; refine Kd.R_append k28 w.heap.size rfl (.tmp 61) (.tmp 65) 22 28 (.agg #[(.int .i32 0), (.int .i32 0)]) 8 rfl Tryz.underlying22 info28 rfl (by decide) (by omega) u4 x4_1 (⟨t198, t210⟩ : S28) [.int .i32 t198, .int .i32 t210] (fun _ => True) (fun _ => False) rfl rfl ?aP (fun _ hk => hk.elim) ?aF ?aO (Below.refl _ _) ?aS ?aL ?_; (case aP => exact k28_mkM _ _ _ (⟨t198, t210⟩ : S28)); (case aF => exact (fun _ _ => trivial)); (case aO => exact (kr_ HO_4)); (case aS => exact (keep_size (w := w) (g := g) (row := none) (by repeat (first | (with_reducible first | exact HK.out | apply KeepBut.set_ | apply keep_drewN | apply keep_drew | apply keep_alloc) | exact HK.out)))); (case aL => have := LMc41.out; omega); intro v224 w46 ho hb hg hat; rw [← Ny223.out] at ho; have n0_ := Aside0.mk (IsS66.grown (by repeat (first | (with_reducible first | exact HI0.out | apply IsS66.alloc | apply IsS66.drewN | apply IsS66.drew | apply IsS66.set_0 | apply IsS66.set_1 | apply IsS66.set_2) | exact HI0.out)) hg (IsS66.own_ne HI0.out HO_4.out (by decide))); have n1_ := Aside0.mk (below_weaken (by repeat (first | (with_reducible first | exact HB.out | apply below_alloc | apply pw_below_drewN | apply below_drew1 | refine below_set ?_ (IsS66.ge HI0.out)) | exact HB.out)) HL.out hb); have n2_ := Aside0.mk (KeepBut.trans (by repeat (first | (with_reducible first | exact HK.out | apply KeepBut.set_ | apply keep_drewN | apply keep_drew | apply keep_alloc) | exact HK.out)) (KeepBut.of_grown hg g) (Kd.R_base2 HO_4.out)); have n3_ := Aside0.mk (ho); clear HI0; clear HB; clear HK; clear HO_4; have HI0 := n0_; have HB := n1_; have HK := n2_; have HO225 := n3_; clear n0_ n1_ n2_ n3_; clear ho hb hg hat))
            go_roundg kj14
            case measure => have := HK1.out; have := HJ6.out; have := HJ14.out; omega
            case rel => exact ⟨(y223), (t211), (t212), (t213), H', ⟨by have := HK1.out; have := HJ6.out; have := HJ14.out; omega⟩, ⟨by (with_reducible repeat (first | apply Kd.R_alloc | apply Kd.R_drewN | apply Kd.R_drew)); exact HO225.out⟩, ⟨by repeat (first | (with_reducible first | exact HI0.out | apply IsS66.alloc | apply IsS66.drewN | apply IsS66.drew | apply IsS66.set_0 | apply IsS66.set_1 | apply IsS66.set_2) | exact HI0.out)⟩, ⟨by repeat (first | (with_reducible first | exact HK.out | apply KeepBut.set_ | apply keep_drewN | apply keep_drew | apply keep_alloc) | exact HK.out)⟩, ⟨by repeat (first | (with_reducible first | exact HB.out | apply below_alloc | apply pw_below_drewN | apply below_drew1 | refine below_set ?_ (IsS66.ge HI0.out)) | exact HB.out)⟩⟩
           ·rw [if_neg c41] at H
            exact absurd H (by simp)
         ·replace c22 := Bool.eq_false_iff.mpr c22
          subst c22
          have H1 : (if x4_1.length < 17592186044416 then (class_reader_class.l0 kj14 t190 (x4_1 ++ [(⟨t198, t198⟩ : S28)]) x1000_14 x1001_14 x1002_14) else (none)) = some (r1, r2, r3, r4) := by rw [if_neg (show ¬ (false = true) by decide)] at H; exact H
          clear H
          have H := H1
          clear H1
          by_cases c47 : x4_1.length < 17592186044416
          ·rw [if_pos c47] at H
           have LMc47 := Aside0.mk c47
           clear c47
           obtain ⟨y226, hy226⟩ : ∃ y_ : List (S28), y_ = (x4_1 ++ [(⟨t198, t198⟩ : S28)]) := ⟨_, rfl⟩
           replace H : (class_reader_class.l0 kj14 t190 y226 x1000_14 x1001_14 x1002_14) = some (r1, r2, r3, r4) := by first | (rw [hy226]; with_reducible exact H) | (have H2_ := (Option.bind_some _ _).symm.trans H; rw [hy226]; with_reducible exact H2_) | (have H2_ := (Option.bind_some _ _).symm.trans H; with_reducible exact H2_) | with_reducible exact H | (rw [hy226]; exact H) | exact H
           have Ny226 := Aside0.mk hy226
           clear hy226
           have H' := Aside0.mk H
           clear H
           go_wp2_with (first | ((with_reducible refine gate_builtin (b := .append) (xs := #[.tmp 61, .tmp 65]) rfl ?_); (try (refine gate_guard (by rfl) ?_; dsimp only)); at_builtin; refine Kd.R_append k28 w.heap.size rfl (.tmp 61) (.tmp 65) 22 28 (.agg #[(.int .i32 0), (.int .i32 0)]) 8 rfl Tryz.underlying22 info28 rfl (by decide) (by omega) u4 x4_1 (⟨t198, t198⟩ : S28) [.int .i32 t198, .int .i32 t198] (fun _ => True) (fun _ => False) rfl rfl ?aP (fun _ hk => hk.elim) ?aF ?aO (Below.refl _ _) ?aS ?aL ?_; (case aP => exact k28_mkM _ _ _ (⟨t198, t198⟩ : S28)); (case aF => exact (fun _ _ => trivial)); (case aO => exact (kr_ HO_4)); (case aS => exact (keep_size (w := w) (g := g) (row := none) (by repeat (first | (with_reducible first | exact HK.out | apply KeepBut.set_ | apply keep_drewN | apply keep_drew | apply keep_alloc) | exact HK.out)))); (case aL => have := LMc47.out; omega); intro v227 w48 ho hb hg hat; rw [← Ny226.out] at ho; have n0_ := Aside0.mk (IsS66.grown (by repeat (first | (with_reducible first | exact HI0.out | apply IsS66.alloc | apply IsS66.drewN | apply IsS66.drew | apply IsS66.set_0 | apply IsS66.set_1 | apply IsS66.set_2) | exact HI0.out)) hg (IsS66.own_ne HI0.out HO_4.out (by decide))); have n1_ := Aside0.mk (below_weaken (by repeat (first | (with_reducible first | exact HB.out | apply below_alloc | apply pw_below_drewN | apply below_drew1 | refine below_set ?_ (IsS66.ge HI0.out)) | exact HB.out)) HL.out hb); have n2_ := Aside0.mk (KeepBut.trans (by repeat (first | (with_reducible first | exact HK.out | apply KeepBut.set_ | apply keep_drewN | apply keep_drew | apply keep_alloc) | exact HK.out)) (KeepBut.of_grown hg g) (Kd.R_base2 HO_4.out)); have n3_ := Aside0.mk (ho); clear HI0; clear HB; clear HK; clear HO_4; have HI0 := n0_; have HB := n1_; have HK := n2_; have HO228 := n3_; clear n0_ n1_ n2_ n3_; clear ho hb hg hat))
           go_roundg kj14
           case measure => have := HK1.out; have := HJ6.out; have := HJ14.out; omega
           case rel => exact ⟨(y226), (x1000_14), (x1001_14), (x1002_14), H', ⟨by have := HK1.out; have := HJ6.out; have := HJ14.out; omega⟩, ⟨by (with_reducible repeat (first | apply Kd.R_alloc | apply Kd.R_drewN | apply Kd.R_drew)); exact HO228.out⟩, ⟨by repeat (first | (with_reducible first | exact HI0.out | apply IsS66.alloc | apply IsS66.drewN | apply IsS66.drew | apply IsS66.set_0 | apply IsS66.set_1 | apply IsS66.set_2) | exact HI0.out)⟩, ⟨by repeat (first | (with_reducible first | exact HK.out | apply KeepBut.set_ | apply keep_drewN | apply keep_drew | apply keep_alloc) | exact HK.out)⟩, ⟨by repeat (first | (with_reducible first | exact HB.out | apply below_alloc | apply pw_below_drewN | apply below_drew1 | refine below_set ?_ (IsS66.ge HI0.out)) | exact HB.out)⟩⟩
          ·rw [if_neg c47] at H
           exact absurd H (by simp)
      ·replace c13 := Bool.eq_false_iff.mpr c13
       subst c13
       have H1 : (if x1002_6 < 0 then ((class_reader_peek.f kj6 x1000_6 x1001_6 x1002_6).bind fun bt229 => (if bt229.1 = 0 then (if bt229.2.2.2 < 0 then (class_reader_class.j3 kj6 t190 x4_1 (decide (bt229.2.2.1 < (bt229.2.1.size : Int))) bt229.2.1 bt229.2.2.1 bt229.2.2.2) else (class_reader_class.j3 kj6 t190 x4_1 false bt229.2.1 bt229.2.2.1 bt229.2.2.2)) else (class_reader_class.j3 kj6 t190 x4_1 true bt229.2.1 bt229.2.2.1 bt229.2.2.2))) else (class_reader_class.j3 kj6 t190 x4_1 false x1000_6 x1001_6 x1002_6)) = some (r1, r2, r3, r4) := by rw [if_neg (show ¬ (false = true) by decide)] at H; exact H
       clear H
       have H := H1
       clear H1
       have HC49 := Aside0.mk H
       clear H
       go_upto_region 17 with (fail)
       go_cut [95] (fun v95 wc => ∃ (kq : Nat) (x95_48 : Bool) (x1000_48 : ByteArray) (x1001_48 : Int) (x1002_48 : Int), v95 = .bool x95_48 ∧ Aside0 (class_reader_class.j3 kq t190 x4_1 x95_48 x1000_48 x1001_48 x1002_48 = some (r1, r2, r3, r4)) ∧ Aside0 (kq ≤ kj6) ∧ Aside0 (Kd.R k28 28 wc w.heap.size (fun _ => True) u4 x4_1) ∧ Aside0 (IsS66 w0 wc g x1000_48 x1001_48 x1002_48) ∧ Aside0 (KeepBut w wc g none) ∧ Aside0 (Below w0.heap.size w0 wc))
       case first =>
        have H := HC49.out
        clear HC49
        by_cases c50 : x1002_6 < 0
        ·rw [if_pos c50] at H
         have c50b0 : decide (x1002_6 < 0) = true := decide_eq_true c50
         clear c50
         (first | rw [c50b0] | (simp only [i64_w, i32_w]; rw [c50b0]) | skip)
         replace H := Option.bind_eq_some_iff.mp H
         obtain ⟨⟨t229, t230, t231, t232⟩, A510, H⟩ := H
         replace H : (if t229 = 0 then (if t232 < 0 then (class_reader_class.j3 kj6 t190 x4_1 (decide (t231 < (t230.size : Int))) t230 t231 t232) else (class_reader_class.j3 kj6 t190 x4_1 false t230 t231 t232)) else (class_reader_class.j3 kj6 t190 x4_1 true t230 t231 t232)) = some (r1, r2, r3, r4) := H
         have A51 := Aside0.mk A510
         clear A510
         by_cases c52 : t229 = 0
         ·rw [if_pos c52] at H
          have c52b0 : (t229 == 0) = true := beq_iff_eq.mpr c52
          have c52b1 : (t229 != 0) = false := bne_eq_false_iff_eq.mpr c52
          clear c52
          by_cases c53 : t232 < 0
          ·rw [if_pos c53] at H
           have c53b0 : decide (t232 < 0) = true := decide_eq_true c53
           clear c53
           have H' := Aside0.mk H
           clear H
           try go_wp2
           replace HO_4 := Aside0.mk (Kd.R_drew HO_4.out)
           replace HI0 := Aside0.mk (IsS66.drew HI0.out)
           replace HK := Aside0.mk (keep_drew HK.out)
           replace HB := Aside0.mk (below_drew1 HB.out)
           refine start_ (n := 29) (S := fun w' => w'.cell? ⟨g, 0, none⟩ = some (.string x1000_6) ∧ w'.cell? ⟨g, 1, none⟩ = some (.int .i64 x1001_6) ∧ w'.cell? ⟨g, 2, none⟩ = some (.int .i64 x1002_6)) (ds := [7, 8, 9, 10, 11, 12, 13, 14, 15, 16, 17, 18, 19, 20, 21, 22, 23, 24, 25, 26, 27, 28]) #[false, false, false, false, false, false, false, false, false, false, false, false, false, false, false, false, false, false, false, false, false, false, false, false, false, false, false, false, false] (by kernel_rfl) rfl rfl ⟨(cellS66_0 HI0.out.1), (cellS66_1 HI0.out.1), (cellS66_2 HI0.out.1)⟩ (fun hHeld => ?_); refine with_tabW class_reader_class.tab17 class_reader_class.bits17 (fun HT_ HW_ => ?_)
           generalize wc.drew = w54 at HO_4 HI0 HK HB hHeld ⊢
           refine pu_ 0 67 (bm_ 29 1) HT_ ?_
           refine pu_ 1 68 (bm_ 29 3) HT_ ?_
           refine pu_ 2 69 (bm_ 29 7) HT_ ?_
           refine tk_ 3 70 (bm_ 29 15) HT_ HW_ hHeld rfl (by rintro w' ⟨s0, s1, s2⟩; go_simp; with_reducible rfl) ?_
           refine pu_ 4 71 (bm_ 29 31) HT_ ?_
           refine pu_ 5 72 (bm_ 29 63) HT_ ?_
           refine pu_ 6 73 (bm_ 29 127) HT_ ?_
           refine last_ (i := 7) (N := some 74) #[true, true, true, true, true, true, true, true, false, false, false, false, false, false, false, false, false, false, false, false, false, false, false, false, false, false, false, false, false] rfl rfl (one_of HT_.out (by kernel_rfl)) (by decide) (fun K hK => ?_)
           refine gs_ Tryz.func45 #[.pointer (some ⟨g, 0, none⟩)] ?_
           with_reducible refine (class_reader_peek.calls kj6 g x1000_6 x1001_6 x1002_6 t229 t230 t231 t232 w0 _ ?side1 ?side2 A51.out).mono ?_
           (case side1 => repeat (first | (with_reducible first | exact HI0.out | apply IsS66.alloc | apply IsS66.drewN | apply IsS66.drew | apply IsS66.set_0 | apply IsS66.set_1 | apply IsS66.set_2) | exact HI0.out))
           (case side2 => repeat (first | (with_reducible first | exact HB.out | apply below_alloc | apply pw_below_drewN | apply below_drew1 | refine below_set ?_ (IsS66.ge HI0.out)) | exact HB.out))
           rintro e w55 ⟨rfl, hi, hb, hk⟩
           refine ⟨_, rfl, ?_⟩
           have n0_ := Aside0.mk (Kd.R_mono (Kd.R_keep (IsS66.apart (show IsS66 w0 _ g x1000_6 x1001_6 x1002_6 from by repeat (first | (with_reducible first | exact HI0.out | apply IsS66.alloc | apply IsS66.drewN | apply IsS66.drew | apply IsS66.set_0 | apply IsS66.set_1 | apply IsS66.set_2) | exact HI0.out)) (kr_ HO_4) (by decide)) hk (fun _ h => h.2)) (fun _ h => h.1))
           have n1_ := Aside0.mk (KeepBut.trans (by repeat (first | (with_reducible first | exact HK.out | apply KeepBut.set_ | apply keep_drewN | apply keep_drew | apply keep_alloc) | exact HK.out)) hk (.inl rfl))
           have n2_ := Aside0.mk (hb)
           have n3_ := Aside0.mk (hi)
           clear HO_4
           clear HK
           clear HB
           clear HI0
           have HO_4 := n0_
           have HK := n1_
           have HB := n2_
           have HI0 := n3_
           clear n0_ n1_ n2_ n3_
           (try clear hb)
           (try clear hb2)
           (try clear hk)
           (try clear hi)
           refine hK.out _ _ ?_
           clear hK K
           refine nm_ 74 ?_
           clear hHeld
           refine restart1_ (S' := fun w' => w'.cell? ⟨g, 0, none⟩ = some (.string t230) ∧ w'.cell? ⟨g, 1, none⟩ = some (.int .i64 t231) ∧ w'.cell? ⟨g, 2, none⟩ = some (.int .i64 t232)) [] (by kernel_rfl) ⟨(cellS66_0 HI0.out.1), (cellS66_1 HI0.out.1), (cellS66_2 HI0.out.1)⟩ (fun hHeld => ?_)
           refine pu_ 8 75 (bm_ 29 511) HT_ ?_
           refine pu_ 9 76 (bm_ 29 1023) HT_ ?_
           refine pu_ 10 77 (bm_ 29 2047) HT_ ?_
           refine pu_ 11 78 (bm_ 29 4095) HT_ ?_
           refine pu_ 12 79 (bm_ 29 8191) HT_ ?_
           refine pu_ 13 80 (bm_ 29 16383) HT_ ?_
           refine tk_ 14 81 (bm_ 29 32767) HT_ HW_ hHeld rfl (by rintro w' ⟨s0, s1, s2⟩; go_simp; with_reducible rfl) ?_
           refine pu_ 15 82 (bm_ 29 65535) HT_ ?_
           refine pu_ 16 83 (bm_ 29 131071) HT_ ?_
           refine pu_ 17 84 (bm_ 29 262143) HT_ ?_
           refine pu_ 18 85 (bm_ 29 524287) HT_ ?_
           refine pu_ 19 86 (bm_ 29 1048575) HT_ ?_
           refine pu_ 21 88 (bm_ 29 3145727) HT_ ?_
           refine pu_ 22 89 (bm_ 29 7340031) HT_ ?_
           refine pu_ 23 90 (bm_ 29 15728639) HT_ ?_
           refine tk_ 20 87 (bm_ 29 16777215) HT_ HW_ hHeld rfl (by rintro w' ⟨s0, s1, s2⟩; go_simp; with_reducible rfl) ?_
           refine tk_ 24 91 (bm_ 29 33554431) HT_ HW_ hHeld rfl (by rintro w' ⟨s0, s1, s2⟩; go_simp; with_reducible rfl) ?_
           refine pu_ 25 92 (bm_ 29 67108863) HT_ ?_
           refine pu_ 26 93 (bm_ 29 134217727) HT_ ?_
           refine pu_ 27 94 (bm_ 29 268435455) HT_ ?_
           refine pu_ 28 95 (bm_ 29 536870911) HT_ ?_
           refine done_ (done_of HT_.out (by kernel_rfl)) ?_
           try go_wp2
           go_meet
           case rel => exact ⟨_, (decide (t231 < (t230.size : Int))), (t230), (t231), (t232), eq_, H', ⟨by have := HK1.out; have := HJ6.out; first | omega | exact Nat.le_refl _⟩, ⟨by (with_reducible repeat (first | apply Kd.R_alloc | apply Kd.R_drewN | apply Kd.R_drew)); exact HO_4.out⟩, ⟨by repeat (first | (with_reducible first | exact HI0.out | apply IsS66.alloc | apply IsS66.drewN | apply IsS66.drew | apply IsS66.set_0 | apply IsS66.set_1 | apply IsS66.set_2) | exact HI0.out)⟩, ⟨by repeat (first | (with_reducible first | exact HK.out | apply KeepBut.set_ | apply keep_drewN | apply keep_drew | apply keep_alloc) | exact HK.out)⟩, ⟨by repeat (first | (with_reducible first | exact HB.out | apply below_alloc | apply pw_below_drewN | apply below_drew1 | refine below_set ?_ (IsS66.ge HI0.out)) | exact HB.out)⟩⟩
          ·rw [if_neg c53] at H
           have c53b0 : decide (t232 < 0) = false := decide_eq_false c53
           clear c53
           have H' := Aside0.mk H
           clear H
           try go_wp2
           replace HO_4 := Aside0.mk (Kd.R_drew HO_4.out)
           replace HI0 := Aside0.mk (IsS66.drew HI0.out)
           replace HK := Aside0.mk (keep_drew HK.out)
           replace HB := Aside0.mk (below_drew1 HB.out)
           refine start_ (n := 29) (S := fun w' => w'.cell? ⟨g, 0, none⟩ = some (.string x1000_6) ∧ w'.cell? ⟨g, 1, none⟩ = some (.int .i64 x1001_6) ∧ w'.cell? ⟨g, 2, none⟩ = some (.int .i64 x1002_6)) (ds := [7, 8, 9, 10, 11, 12, 13, 14, 15, 16, 17, 18, 19, 20, 21, 22, 23, 24, 25, 26, 27, 28]) #[false, false, false, false, false, false, false, false, false, false, false, false, false, false, false, false, false, false, false, false, false, false, false, false, false, false, false, false, false] (by kernel_rfl) rfl rfl ⟨(cellS66_0 HI0.out.1), (cellS66_1 HI0.out.1), (cellS66_2 HI0.out.1)⟩ (fun hHeld => ?_); refine with_tabW class_reader_class.tab17 class_reader_class.bits17 (fun HT_ HW_ => ?_)
           generalize wc.drew = w56 at HO_4 HI0 HK HB hHeld ⊢
           refine pu_ 0 67 (bm_ 29 1) HT_ ?_
           refine pu_ 1 68 (bm_ 29 3) HT_ ?_
           refine pu_ 2 69 (bm_ 29 7) HT_ ?_
           refine tk_ 3 70 (bm_ 29 15) HT_ HW_ hHeld rfl (by rintro w' ⟨s0, s1, s2⟩; go_simp; with_reducible rfl) ?_
           refine pu_ 4 71 (bm_ 29 31) HT_ ?_
           refine pu_ 5 72 (bm_ 29 63) HT_ ?_
           refine pu_ 6 73 (bm_ 29 127) HT_ ?_
           refine last_ (i := 7) (N := some 74) #[true, true, true, true, true, true, true, true, false, false, false, false, false, false, false, false, false, false, false, false, false, false, false, false, false, false, false, false, false] rfl rfl (one_of HT_.out (by kernel_rfl)) (by decide) (fun K hK => ?_)
           refine gs_ Tryz.func45 #[.pointer (some ⟨g, 0, none⟩)] ?_
           with_reducible refine (class_reader_peek.calls kj6 g x1000_6 x1001_6 x1002_6 t229 t230 t231 t232 w0 _ ?side1 ?side2 A51.out).mono ?_
           (case side1 => repeat (first | (with_reducible first | exact HI0.out | apply IsS66.alloc | apply IsS66.drewN | apply IsS66.drew | apply IsS66.set_0 | apply IsS66.set_1 | apply IsS66.set_2) | exact HI0.out))
           (case side2 => repeat (first | (with_reducible first | exact HB.out | apply below_alloc | apply pw_below_drewN | apply below_drew1 | refine below_set ?_ (IsS66.ge HI0.out)) | exact HB.out))
           rintro e w57 ⟨rfl, hi, hb, hk⟩
           refine ⟨_, rfl, ?_⟩
           have n0_ := Aside0.mk (Kd.R_mono (Kd.R_keep (IsS66.apart (show IsS66 w0 _ g x1000_6 x1001_6 x1002_6 from by repeat (first | (with_reducible first | exact HI0.out | apply IsS66.alloc | apply IsS66.drewN | apply IsS66.drew | apply IsS66.set_0 | apply IsS66.set_1 | apply IsS66.set_2) | exact HI0.out)) (kr_ HO_4) (by decide)) hk (fun _ h => h.2)) (fun _ h => h.1))
           have n1_ := Aside0.mk (KeepBut.trans (by repeat (first | (with_reducible first | exact HK.out | apply KeepBut.set_ | apply keep_drewN | apply keep_drew | apply keep_alloc) | exact HK.out)) hk (.inl rfl))
           have n2_ := Aside0.mk (hb)
           have n3_ := Aside0.mk (hi)
           clear HO_4
           clear HK
           clear HB
           clear HI0
           have HO_4 := n0_
           have HK := n1_
           have HB := n2_
           have HI0 := n3_
           clear n0_ n1_ n2_ n3_
           (try clear hb)
           (try clear hb2)
           (try clear hk)
           (try clear hi)
           refine hK.out _ _ ?_
           clear hK K
           refine nm_ 74 ?_
           clear hHeld
           refine restart1_ (S' := fun w' => w'.cell? ⟨g, 0, none⟩ = some (.string t230) ∧ w'.cell? ⟨g, 1, none⟩ = some (.int .i64 t231) ∧ w'.cell? ⟨g, 2, none⟩ = some (.int .i64 t232)) [] (by kernel_rfl) ⟨(cellS66_0 HI0.out.1), (cellS66_1 HI0.out.1), (cellS66_2 HI0.out.1)⟩ (fun hHeld => ?_)
           refine pu_ 8 75 (bm_ 29 511) HT_ ?_
           refine pu_ 9 76 (bm_ 29 1023) HT_ ?_
           refine pu_ 10 77 (bm_ 29 2047) HT_ ?_
           refine pu_ 11 78 (bm_ 29 4095) HT_ ?_
           refine pu_ 12 79 (bm_ 29 8191) HT_ ?_
           refine pu_ 13 80 (bm_ 29 16383) HT_ ?_
           refine tk_ 14 81 (bm_ 29 32767) HT_ HW_ hHeld rfl (by rintro w' ⟨s0, s1, s2⟩; go_simp; with_reducible rfl) ?_
           refine pu_ 15 82 (bm_ 29 65535) HT_ ?_
           refine pu_ 16 83 (bm_ 29 131071) HT_ ?_
           refine pn_ 17 84 (bm_ 29 262143) HT_ ?_
           refine pn_ 18 85 (bm_ 29 524287) HT_ ?_
           refine pn_ 19 86 (bm_ 29 1048575) HT_ ?_
           refine pn_ 20 87 (bm_ 29 2097151) HT_ ?_
           refine pn_ 21 88 (bm_ 29 4194303) HT_ ?_
           refine pn_ 22 89 (bm_ 29 8388607) HT_ ?_
           refine pn_ 23 90 (bm_ 29 16777215) HT_ ?_
           refine pn_ 24 91 (bm_ 29 33554431) HT_ ?_
           refine pn_ 25 92 (bm_ 29 67108863) HT_ ?_
           refine pn_ 26 93 (bm_ 29 134217727) HT_ ?_
           refine pu_ 27 94 (bm_ 29 268435455) HT_ ?_
           refine pu_ 28 95 (bm_ 29 536870911) HT_ ?_
           refine done_ (done_of HT_.out (by kernel_rfl)) ?_
           try go_wp2
           go_meet
           case rel => exact ⟨_, (false), (t230), (t231), (t232), eq_, H', ⟨by have := HK1.out; have := HJ6.out; first | omega | exact Nat.le_refl _⟩, ⟨by (with_reducible repeat (first | apply Kd.R_alloc | apply Kd.R_drewN | apply Kd.R_drew)); exact HO_4.out⟩, ⟨by repeat (first | (with_reducible first | exact HI0.out | apply IsS66.alloc | apply IsS66.drewN | apply IsS66.drew | apply IsS66.set_0 | apply IsS66.set_1 | apply IsS66.set_2) | exact HI0.out)⟩, ⟨by repeat (first | (with_reducible first | exact HK.out | apply KeepBut.set_ | apply keep_drewN | apply keep_drew | apply keep_alloc) | exact HK.out)⟩, ⟨by repeat (first | (with_reducible first | exact HB.out | apply below_alloc | apply pw_below_drewN | apply below_drew1 | refine below_set ?_ (IsS66.ge HI0.out)) | exact HB.out)⟩⟩
         ·rw [if_neg c52] at H
          have c52b0 : (t229 == 0) = false := beq_eq_false_iff_ne.mpr c52
          have c52b1 : (t229 != 0) = true := bne_iff_ne.mpr c52
          have H' := Aside0.mk H
          clear H
          try go_wp2
          replace HO_4 := Aside0.mk (Kd.R_drew HO_4.out)
          replace HI0 := Aside0.mk (IsS66.drew HI0.out)
          replace HK := Aside0.mk (keep_drew HK.out)
          replace HB := Aside0.mk (below_drew1 HB.out)
          refine start_ (n := 29) (S := fun w' => w'.cell? ⟨g, 0, none⟩ = some (.string x1000_6) ∧ w'.cell? ⟨g, 1, none⟩ = some (.int .i64 x1001_6) ∧ w'.cell? ⟨g, 2, none⟩ = some (.int .i64 x1002_6)) (ds := [7, 8, 9, 10, 11, 12, 13, 14, 15, 16, 17, 18, 19, 20, 21, 22, 23, 24, 25, 26, 27, 28]) #[false, false, false, false, false, false, false, false, false, false, false, false, false, false, false, false, false, false, false, false, false, false, false, false, false, false, false, false, false] (by kernel_rfl) rfl rfl ⟨(cellS66_0 HI0.out.1), (cellS66_1 HI0.out.1), (cellS66_2 HI0.out.1)⟩ (fun hHeld => ?_); refine with_tabW class_reader_class.tab17 class_reader_class.bits17 (fun HT_ HW_ => ?_)
          generalize wc.drew = w58 at HO_4 HI0 HK HB hHeld ⊢
          refine pu_ 0 67 (bm_ 29 1) HT_ ?_
          refine pu_ 1 68 (bm_ 29 3) HT_ ?_
          refine pu_ 2 69 (bm_ 29 7) HT_ ?_
          refine tk_ 3 70 (bm_ 29 15) HT_ HW_ hHeld rfl (by rintro w' ⟨s0, s1, s2⟩; go_simp; with_reducible rfl) ?_
          refine pu_ 4 71 (bm_ 29 31) HT_ ?_
          refine pu_ 5 72 (bm_ 29 63) HT_ ?_
          refine pu_ 6 73 (bm_ 29 127) HT_ ?_
          refine last_ (i := 7) (N := some 74) #[true, true, true, true, true, true, true, true, false, false, false, false, false, false, false, false, false, false, false, false, false, false, false, false, false, false, false, false, false] rfl rfl (one_of HT_.out (by kernel_rfl)) (by decide) (fun K hK => ?_)
          refine gs_ Tryz.func45 #[.pointer (some ⟨g, 0, none⟩)] ?_
          with_reducible refine (class_reader_peek.calls kj6 g x1000_6 x1001_6 x1002_6 t229 t230 t231 t232 w0 _ ?side1 ?side2 A51.out).mono ?_
          (case side1 => repeat (first | (with_reducible first | exact HI0.out | apply IsS66.alloc | apply IsS66.drewN | apply IsS66.drew | apply IsS66.set_0 | apply IsS66.set_1 | apply IsS66.set_2) | exact HI0.out))
          (case side2 => repeat (first | (with_reducible first | exact HB.out | apply below_alloc | apply pw_below_drewN | apply below_drew1 | refine below_set ?_ (IsS66.ge HI0.out)) | exact HB.out))
          rintro e w59 ⟨rfl, hi, hb, hk⟩
          refine ⟨_, rfl, ?_⟩
          have n0_ := Aside0.mk (Kd.R_mono (Kd.R_keep (IsS66.apart (show IsS66 w0 _ g x1000_6 x1001_6 x1002_6 from by repeat (first | (with_reducible first | exact HI0.out | apply IsS66.alloc | apply IsS66.drewN | apply IsS66.drew | apply IsS66.set_0 | apply IsS66.set_1 | apply IsS66.set_2) | exact HI0.out)) (kr_ HO_4) (by decide)) hk (fun _ h => h.2)) (fun _ h => h.1))
          have n1_ := Aside0.mk (KeepBut.trans (by repeat (first | (with_reducible first | exact HK.out | apply KeepBut.set_ | apply keep_drewN | apply keep_drew | apply keep_alloc) | exact HK.out)) hk (.inl rfl))
          have n2_ := Aside0.mk (hb)
          have n3_ := Aside0.mk (hi)
          clear HO_4
          clear HK
          clear HB
          clear HI0
          have HO_4 := n0_
          have HK := n1_
          have HB := n2_
          have HI0 := n3_
          clear n0_ n1_ n2_ n3_
          (try clear hb)
          (try clear hb2)
          (try clear hk)
          (try clear hi)
          refine hK.out _ _ ?_
          clear hK K
          refine nm_ 74 ?_
          refine pu_ 8 75 (bm_ 29 511) HT_ ?_
          refine pu_ 9 76 (bm_ 29 1023) HT_ ?_
          refine pu_ 10 77 (bm_ 29 2047) HT_ ?_
          refine pn_ 11 78 (bm_ 29 4095) HT_ ?_
          refine pn_ 12 79 (bm_ 29 8191) HT_ ?_
          refine pn_ 13 80 (bm_ 29 16383) HT_ ?_
          refine pn_ 14 81 (bm_ 29 32767) HT_ ?_
          refine pn_ 15 82 (bm_ 29 65535) HT_ ?_
          refine pn_ 16 83 (bm_ 29 131071) HT_ ?_
          refine pn_ 17 84 (bm_ 29 262143) HT_ ?_
          refine pn_ 18 85 (bm_ 29 524287) HT_ ?_
          refine pn_ 19 86 (bm_ 29 1048575) HT_ ?_
          refine pn_ 20 87 (bm_ 29 2097151) HT_ ?_
          refine pn_ 21 88 (bm_ 29 4194303) HT_ ?_
          refine pn_ 22 89 (bm_ 29 8388607) HT_ ?_
          refine pn_ 23 90 (bm_ 29 16777215) HT_ ?_
          refine pn_ 24 91 (bm_ 29 33554431) HT_ ?_
          refine pn_ 25 92 (bm_ 29 67108863) HT_ ?_
          refine pn_ 26 93 (bm_ 29 134217727) HT_ ?_
          refine pn_ 27 94 (bm_ 29 268435455) HT_ ?_
          refine pu_ 28 95 (bm_ 29 536870911) HT_ ?_
          refine done_ (done_of HT_.out (by kernel_rfl)) ?_
          try go_wp2
          go_meet
          case rel => exact ⟨_, (true), (t230), (t231), (t232), eq_, H', ⟨by have := HK1.out; have := HJ6.out; first | omega | exact Nat.le_refl _⟩, ⟨by (with_reducible repeat (first | apply Kd.R_alloc | apply Kd.R_drewN | apply Kd.R_drew)); exact HO_4.out⟩, ⟨by repeat (first | (with_reducible first | exact HI0.out | apply IsS66.alloc | apply IsS66.drewN | apply IsS66.drew | apply IsS66.set_0 | apply IsS66.set_1 | apply IsS66.set_2) | exact HI0.out)⟩, ⟨by repeat (first | (with_reducible first | exact HK.out | apply KeepBut.set_ | apply keep_drewN | apply keep_drew | apply keep_alloc) | exact HK.out)⟩, ⟨by repeat (first | (with_reducible first | exact HB.out | apply below_alloc | apply pw_below_drewN | apply below_drew1 | refine below_set ?_ (IsS66.ge HI0.out)) | exact HB.out)⟩⟩
        ·rw [if_neg c50] at H
         have c50b0 : decide (x1002_6 < 0) = false := decide_eq_false c50
         clear c50
         (first | rw [c50b0] | (simp only [i64_w, i32_w]; rw [c50b0]) | skip)
         have H' := Aside0.mk H
         clear H
         try go_wp2
         replace HO_4 := Aside0.mk (Kd.R_drew HO_4.out)
         replace HI0 := Aside0.mk (IsS66.drew HI0.out)
         replace HK := Aside0.mk (keep_drew HK.out)
         replace HB := Aside0.mk (below_drew1 HB.out)
         refine start_ (n := 29) (S := fun w' => w'.cell? ⟨g, 0, none⟩ = some (.string x1000_6) ∧ w'.cell? ⟨g, 1, none⟩ = some (.int .i64 x1001_6) ∧ w'.cell? ⟨g, 2, none⟩ = some (.int .i64 x1002_6)) (ds := []) #[false, false, false, false, false, false, false, false, false, false, false, false, false, false, false, false, false, false, false, false, false, false, false, false, false, false, false, false, false] (by kernel_rfl) rfl rfl ⟨(cellS66_0 HI0.out.1), (cellS66_1 HI0.out.1), (cellS66_2 HI0.out.1)⟩ (fun hHeld => ?_); refine with_tabW class_reader_class.tab17 class_reader_class.bits17 (fun HT_ HW_ => ?_)
         generalize wc.drew = w60 at HO_4 HI0 HK HB hHeld ⊢
         refine pu_ 0 67 (bm_ 29 1) HT_ ?_
         refine pu_ 1 68 (bm_ 29 3) HT_ ?_
         refine pu_ 2 69 (bm_ 29 7) HT_ ?_
         refine tk_ 3 70 (bm_ 29 15) HT_ HW_ hHeld rfl (by rintro w' ⟨s0, s1, s2⟩; go_simp; with_reducible rfl) ?_
         refine pu_ 4 71 (bm_ 29 31) HT_ ?_
         refine pu_ 5 72 (bm_ 29 63) HT_ ?_
         refine pn_ 6 73 (bm_ 29 127) HT_ ?_
         refine pn_ 7 74 (bm_ 29 255) HT_ ?_
         refine pn_ 8 75 (bm_ 29 511) HT_ ?_
         refine pu_ 9 76 (bm_ 29 1023) HT_ ?_
         refine pu_ 10 77 (bm_ 29 2047) HT_ ?_
         refine pu_ 11 78 (bm_ 29 4095) HT_ ?_
         refine pu_ 12 79 (bm_ 29 8191) HT_ ?_
         refine pu_ 13 80 (bm_ 29 16383) HT_ ?_
         refine tk_ 14 81 (bm_ 29 32767) HT_ HW_ hHeld rfl (by rintro w' ⟨s0, s1, s2⟩; go_simp; with_reducible rfl) ?_
         refine pu_ 15 82 (bm_ 29 65535) HT_ ?_
         refine pu_ 16 83 (bm_ 29 131071) HT_ ?_
         refine pn_ 17 84 (bm_ 29 262143) HT_ ?_
         refine pn_ 18 85 (bm_ 29 524287) HT_ ?_
         refine pn_ 19 86 (bm_ 29 1048575) HT_ ?_
         refine pn_ 20 87 (bm_ 29 2097151) HT_ ?_
         refine pn_ 21 88 (bm_ 29 4194303) HT_ ?_
         refine pn_ 22 89 (bm_ 29 8388607) HT_ ?_
         refine pn_ 23 90 (bm_ 29 16777215) HT_ ?_
         refine pn_ 24 91 (bm_ 29 33554431) HT_ ?_
         refine pn_ 25 92 (bm_ 29 67108863) HT_ ?_
         refine pn_ 26 93 (bm_ 29 134217727) HT_ ?_
         refine pu_ 27 94 (bm_ 29 268435455) HT_ ?_
         refine pu_ 28 95 (bm_ 29 536870911) HT_ ?_
         refine done_ (done_of HT_.out (by kernel_rfl)) ?_
         try go_wp2
         go_meet
         case rel => exact ⟨_, (false), (x1000_6), (x1001_6), (x1002_6), eq_, H', ⟨by have := HK1.out; have := HJ6.out; first | omega | exact Nat.le_refl _⟩, ⟨by (with_reducible repeat (first | apply Kd.R_alloc | apply Kd.R_drewN | apply Kd.R_drew)); exact HO_4.out⟩, ⟨by repeat (first | (with_reducible first | exact HI0.out | apply IsS66.alloc | apply IsS66.drewN | apply IsS66.drew | apply IsS66.set_0 | apply IsS66.set_1 | apply IsS66.set_2) | exact HI0.out)⟩, ⟨by repeat (first | (with_reducible first | exact HK.out | apply KeepBut.set_ | apply keep_drewN | apply keep_drew | apply keep_alloc) | exact HK.out)⟩, ⟨by repeat (first | (with_reducible first | exact HB.out | apply below_alloc | apply pw_below_drewN | apply below_drew1 | refine below_set ?_ (IsS66.ge HI0.out)) | exact HB.out)⟩⟩
       case rest =>
        clear HC49
        try clear p2
        try clear c4
        try clear c5
        try clear p6
        try clear c45
        try clear c50
        try clear c50b0
        try clear c52
        try clear c52b0
        try clear c52b1
        obtain ⟨kq, x95_48, x1000_48, x1001_48, x1002_48, rfl, HA, HJ48, HO_4, HI0, HK, HB⟩ := hcut
        cases kq with
        | zero => exact absurd HA.out (by simp [class_reader_class.j3])
        | succ kj48 =>
         have H := HA.out
         clear HA
         simp only [class_reader_class.j3] at H
         have HC61 := Aside0.mk H
         clear H
         go_upto_if 95 with (fail)
         go_cut [] (fun wc => ∃ (kq : Nat) (x1000_60 : ByteArray) (x1001_60 : Int) (x1002_60 : Int), Aside0 (class_reader_class.j4 kq t190 x4_1 x1000_60 x1001_60 x1002_60 = some (r1, r2, r3, r4)) ∧ Aside0 (kq ≤ kj48) ∧ Aside0 (Kd.R k28 28 wc w.heap.size (fun _ => True) u4 x4_1) ∧ Aside0 (IsS66 w0 wc g x1000_60 x1001_60 x1002_60) ∧ Aside0 (KeepBut w wc g none) ∧ Aside0 (Below w0.heap.size w0 wc))
         case first =>
          have H := HC61.out
          clear HC61
          by_cases c62 : x95_48 = true
          ·subst c62
           have H1 : ((class_reader_fail.f x1000_48 x1001_48 x1002_48).bind fun bt233 => (class_reader_class.j4 kj48 t190 x4_1 bt233.1 bt233.2.1 bt233.2.2)) = some (r1, r2, r3, r4) := by rw [if_pos rfl] at H; exact H
           clear H
           have H := H1
           clear H1
           replace H := Option.bind_eq_some_iff.mp H
           obtain ⟨⟨t233, t234, t235⟩, A630, H⟩ := H
           replace H : (class_reader_class.j4 kj48 t190 x4_1 t233 t234 t235) = some (r1, r2, r3, r4) := H
           have A63 := Aside0.mk A630
           clear A630
           have H' := Aside0.mk H
           clear H
           go_wp2_with (first | ((with_reducible refine gate_callee (f := 43) rfl ?_); refine gl_ (some 97) Tryz.func43 #[.pointer (some ⟨g, 0, none⟩)] ?_; (with_reducible refine (class_reader_fail.calls g x1000_48 x1001_48 x1002_48 t233 t234 t235 w0 _ ?side1 ?side2 A63.out).mono ?_); (case side1 => repeat (first | (with_reducible first | exact HI0.out | apply IsS66.alloc | apply IsS66.drewN | apply IsS66.drew | apply IsS66.set_0 | apply IsS66.set_1 | apply IsS66.set_2) | exact HI0.out)); (case side2 => repeat (first | (with_reducible first | exact HB.out | apply below_alloc | apply pw_below_drewN | apply below_drew1 | refine below_set ?_ (IsS66.ge HI0.out)) | exact HB.out)); rintro e w64 ⟨rfl, hi, hb, hk⟩; refine ⟨_, rfl, ?_⟩; have n0_ := Aside0.mk (Kd.R_mono (Kd.R_keep (IsS66.apart (show IsS66 w0 _ g x1000_48 x1001_48 x1002_48 from by repeat (first | (with_reducible first | exact HI0.out | apply IsS66.alloc | apply IsS66.drewN | apply IsS66.drew | apply IsS66.set_0 | apply IsS66.set_1 | apply IsS66.set_2) | exact HI0.out)) (kr_ HO_4) (by decide)) hk (fun _ h => h.2)) (fun _ h => h.1)); have n1_ := Aside0.mk (KeepBut.trans (by repeat (first | (with_reducible first | exact HK.out | apply KeepBut.set_ | apply keep_drewN | apply keep_drew | apply keep_alloc) | exact HK.out)) hk (.inl rfl)); have n2_ := Aside0.mk (hb); have n3_ := Aside0.mk (hi); clear HO_4; clear HK; clear HB; clear HI0; have HO_4 := n0_; have HK := n1_; have HB := n2_; have HI0 := n3_; clear n0_ n1_ n2_ n3_; (try clear hb); (try clear hk); (try clear hi)))
           go_meet
           case rel => exact ⟨_, (t233), (t234), (t235), H', ⟨by have := HK1.out; have := HJ6.out; have := HJ48.out; first | omega | exact Nat.le_refl _⟩, ⟨by (with_reducible repeat (first | apply Kd.R_alloc | apply Kd.R_drewN | apply Kd.R_drew)); exact HO_4.out⟩, ⟨by repeat (first | (with_reducible first | exact HI0.out | apply IsS66.alloc | apply IsS66.drewN | apply IsS66.drew | apply IsS66.set_0 | apply IsS66.set_1 | apply IsS66.set_2) | exact HI0.out)⟩, ⟨by repeat (first | (with_reducible first | exact HK.out | apply KeepBut.set_ | apply keep_drewN | apply keep_drew | apply keep_alloc) | exact HK.out)⟩, ⟨by repeat (first | (with_reducible first | exact HB.out | apply below_alloc | apply pw_below_drewN | apply below_drew1 | refine below_set ?_ (IsS66.ge HI0.out)) | exact HB.out)⟩⟩
          ·replace c62 := Bool.eq_false_iff.mpr c62
           subst c62
           have H1 : (class_reader_class.j4 kj48 t190 x4_1 x1000_48 x1001_48 x1002_48) = some (r1, r2, r3, r4) := by rw [if_neg (show ¬ (false = true) by decide)] at H; exact H
           clear H
           have H := H1
           clear H1
           have H' := Aside0.mk H
           clear H
           go_wp2
           go_meet
           case rel => exact ⟨_, (x1000_48), (x1001_48), (x1002_48), H', ⟨by have := HK1.out; have := HJ6.out; have := HJ48.out; first | omega | exact Nat.le_refl _⟩, ⟨by (with_reducible repeat (first | apply Kd.R_alloc | apply Kd.R_drewN | apply Kd.R_drew)); exact HO_4.out⟩, ⟨by repeat (first | (with_reducible first | exact HI0.out | apply IsS66.alloc | apply IsS66.drewN | apply IsS66.drew | apply IsS66.set_0 | apply IsS66.set_1 | apply IsS66.set_2) | exact HI0.out)⟩, ⟨by repeat (first | (with_reducible first | exact HK.out | apply KeepBut.set_ | apply keep_drewN | apply keep_drew | apply keep_alloc) | exact HK.out)⟩, ⟨by repeat (first | (with_reducible first | exact HB.out | apply below_alloc | apply pw_below_drewN | apply below_drew1 | refine below_set ?_ (IsS66.ge HI0.out)) | exact HB.out)⟩⟩
         case rest =>
          clear HC61
          try clear p2
          try clear c4
          try clear c5
          try clear c6
          try clear p6
          try clear c43
          try clear c45
          try clear c50
          try clear c50b0
          try clear c52
          try clear c52b0
          try clear c52b1
          try clear c62
          try clear p64
          try clear p2
          try clear p6
          obtain ⟨kq, x1000_60, x1001_60, x1002_60, HA, HJ60, HO_4, HI0, HK, HB⟩ := hcut
          cases kq with
          | zero => exact absurd HA.out (by simp [class_reader_class.j4])
          | succ kj60 =>
           have H := HA.out
           clear HA
           simp only [class_reader_class.j4] at H
           by_cases c65 : t190 = true
           ·subst c65
            have H1 : ((class_Made.f kj60 x4_1).bind fun t236 => ((class_Class_Not.f kj60 t236).bind fun t239 => (some (t239, x1000_60, x1001_60, x1002_60)))) = some (r1, r2, r3, r4) := by rw [if_pos rfl] at H; exact H
            clear H
            have H := H1
            clear H1
            replace H := Option.bind_eq_some_iff.mp H
            obtain ⟨t236, A660, H⟩ := H
            replace H : ((class_Class_Not.f kj60 t236).bind fun t239 => (some (t239, x1000_60, x1001_60, x1002_60))) = some (r1, r2, r3, r4) := H
            have A66 := Aside0.mk A660
            clear A660
            replace H := Option.bind_eq_some_iff.mp H
            obtain ⟨t239, A670, H⟩ := H
            replace H : (some (t239, x1000_60, x1001_60, x1002_60)) = some (r1, r2, r3, r4) := H
            have A67 := Aside0.mk A670
            clear A670
            simp only [Option.some.injEq, Prod.mk.injEq] at H
            obtain ⟨rfl, rfl, rfl, rfl⟩ := H
            obtain ⟨Ao68, co68, eo68⟩ := Kd.R_slice HO_4.out
            subst eo68
            go_wp2_with (first | ((with_reducible refine gate_callee (f := 11) rfl ?_); refine gl_ (some 100) Tryz.func11 #[.slice Ao68 x4_1.length co68] ?_; (with_reducible refine (class_Made.calls kj60 _ _ x4_1 t236 _ ?side1 ?side2 A66.out).mono ?_); (case side1 => exact kc_ HO_4); (case side2 => exact kl_ HO_4); rintro e w69 ⟨v237, rfl, ho0, hb⟩; refine ⟨_, rfl, ?_⟩; have n0_ := ke_ HO_4 ho0 hb; have n1_ := Aside0.mk (Kd.R_lower (Kd.R_new' ho0 (kx_ HO_4)) (keep_size (w := w) (g := g) (row := none) (by repeat (first | (with_reducible first | exact HK.out | apply KeepBut.set_ | apply keep_drewN | apply keep_drew | apply keep_alloc) | exact HK.out)))); have n2_ := Aside0.mk (IsS66.below (by repeat (first | (with_reducible first | exact HI0.out | apply IsS66.alloc | apply IsS66.drewN | apply IsS66.drew | apply IsS66.set_0 | apply IsS66.set_1 | apply IsS66.set_2) | exact HI0.out)) hb); have n3_ := Aside0.mk (KeepBut.trans (by repeat (first | (with_reducible first | exact HK.out | apply KeepBut.set_ | apply keep_drewN | apply keep_drew | apply keep_alloc) | exact HK.out)) (KeepBut.of_below hb g none) (.inl rfl)); have n4_ := Aside0.mk (below_step (by repeat (first | (with_reducible first | exact HB.out | apply below_alloc | apply pw_below_drewN | apply below_drew1 | refine below_set ?_ (IsS66.ge HI0.out)) | exact HB.out)) hb); clear HO_4; clear HI0; clear HK; clear HB; have HO_4 := n0_; have HO238 := n1_; have HI0 := n2_; have HK := n3_; have HB := n4_; clear n0_ n1_ n2_ n3_ n4_; (try clear hb); (try clear ho0); obtain ⟨Ao70, co70, eo70⟩ := Kd.R_slice HO238.out; subst eo70) | ((with_reducible refine gate_callee (f := 18) rfl ?_); refine gl_ (some 101) Tryz.func18 #[.slice Ao70 t236.length co70] ?_; (with_reducible refine (class_Class_Not.calls kj60 _ _ t236 t239 _ ?side1 ?side2 A67.out).mono ?_); (case side1 => exact kc_ HO238); (case side2 => exact kl_ HO238); rintro e w71 ⟨v240, rfl, ho0, hb⟩; refine ⟨_, rfl, ?_⟩; have n0_ := ke_ HO_4 ho0 hb; have n1_ := ke_ HO238 ho0 hb; have n2_ := Aside0.mk (Kd.R_lower (Kd.R_new' (Kd.R_new' ho0 (kx_ HO_4)) (kx_ HO238)) (keep_size (w := w) (g := g) (row := none) (by repeat (first | (with_reducible first | exact HK.out | apply KeepBut.set_ | apply keep_drewN | apply keep_drew | apply keep_alloc) | exact HK.out)))); have n3_ := Aside0.mk (IsS66.below (by repeat (first | (with_reducible first | exact HI0.out | apply IsS66.alloc | apply IsS66.drewN | apply IsS66.drew | apply IsS66.set_0 | apply IsS66.set_1 | apply IsS66.set_2) | exact HI0.out)) hb); have n4_ := Aside0.mk (KeepBut.trans (by repeat (first | (with_reducible first | exact HK.out | apply KeepBut.set_ | apply keep_drewN | apply keep_drew | apply keep_alloc) | exact HK.out)) (KeepBut.of_below hb g none) (.inl rfl)); have n5_ := Aside0.mk (below_step (by repeat (first | (with_reducible first | exact HB.out | apply below_alloc | apply pw_below_drewN | apply below_drew1 | refine below_set ?_ (IsS66.ge HI0.out)) | exact HB.out)) hb); clear HO_4; clear HO238; clear HI0; clear HK; clear HB; have HO_4 := n0_; have HO238 := n1_; have HO241 := n2_; have HI0 := n3_; have HK := n4_; have HB := n5_; clear n0_ n1_ n2_ n3_ n4_ n5_; (try clear hb); (try clear ho0)))
            go_ret
            exact ⟨_, by first | rfl | (simp [errW_none, errW_some] <;> rfl) | (simp [*, errW_none, errW_some] <;> first | rfl | exact given_isEmpty _ | exact (given_isEmpty _).symm), by (with_reducible repeat (first | apply Kd.R_alloc | apply Kd.R_drewN | apply Kd.R_drew)); exact Kd.R_mono HO241.out (fun _ hk => trivial), by repeat (first | (with_reducible first | exact HI0.out | apply IsS66.alloc | apply IsS66.drewN | apply IsS66.drew | apply IsS66.set_0 | apply IsS66.set_1 | apply IsS66.set_2) | exact HI0.out), by repeat (first | (with_reducible first | exact HB.out | apply below_alloc | apply pw_below_drewN | apply below_drew1 | refine below_set ?_ (IsS66.ge HI0.out)) | exact HB.out), by repeat (first | (with_reducible first | exact HK.out | apply KeepBut.set_ | apply keep_drewN | apply keep_drew | apply keep_alloc) | exact HK.out)⟩
           ·replace c65 := Bool.eq_false_iff.mpr c65
            subst c65
            have H1 : ((class_Made.f kj60 x4_1).bind fun t242 => (some (t242, x1000_60, x1001_60, x1002_60))) = some (r1, r2, r3, r4) := by rw [if_neg (show ¬ (false = true) by decide)] at H; exact H
            clear H
            have H := H1
            clear H1
            replace H := Option.bind_eq_some_iff.mp H
            obtain ⟨t242, A720, H⟩ := H
            replace H : (some (t242, x1000_60, x1001_60, x1002_60)) = some (r1, r2, r3, r4) := H
            have A72 := Aside0.mk A720
            clear A720
            simp only [Option.some.injEq, Prod.mk.injEq] at H
            obtain ⟨rfl, rfl, rfl, rfl⟩ := H
            obtain ⟨Ao73, co73, eo73⟩ := Kd.R_slice HO_4.out
            subst eo73
            go_wp2_with (first | ((with_reducible refine gate_callee (f := 11) rfl ?_); refine gl_ (some 103) Tryz.func11 #[.slice Ao73 x4_1.length co73] ?_; (with_reducible refine (class_Made.calls kj60 _ _ x4_1 t242 _ ?side1 ?side2 A72.out).mono ?_); (case side1 => exact kc_ HO_4); (case side2 => exact kl_ HO_4); rintro e w74 ⟨v243, rfl, ho0, hb⟩; refine ⟨_, rfl, ?_⟩; have n0_ := ke_ HO_4 ho0 hb; have n1_ := Aside0.mk (Kd.R_lower (Kd.R_new' ho0 (kx_ HO_4)) (keep_size (w := w) (g := g) (row := none) (by repeat (first | (with_reducible first | exact HK.out | apply KeepBut.set_ | apply keep_drewN | apply keep_drew | apply keep_alloc) | exact HK.out)))); have n2_ := Aside0.mk (IsS66.below (by repeat (first | (with_reducible first | exact HI0.out | apply IsS66.alloc | apply IsS66.drewN | apply IsS66.drew | apply IsS66.set_0 | apply IsS66.set_1 | apply IsS66.set_2) | exact HI0.out)) hb); have n3_ := Aside0.mk (KeepBut.trans (by repeat (first | (with_reducible first | exact HK.out | apply KeepBut.set_ | apply keep_drewN | apply keep_drew | apply keep_alloc) | exact HK.out)) (KeepBut.of_below hb g none) (.inl rfl)); have n4_ := Aside0.mk (below_step (by repeat (first | (with_reducible first | exact HB.out | apply below_alloc | apply pw_below_drewN | apply below_drew1 | refine below_set ?_ (IsS66.ge HI0.out)) | exact HB.out)) hb); clear HO_4; clear HI0; clear HK; clear HB; have HO_4 := n0_; have HO244 := n1_; have HI0 := n2_; have HK := n3_; have HB := n4_; clear n0_ n1_ n2_ n3_ n4_; (try clear hb); (try clear ho0)))
            go_ret
            exact ⟨_, by first | rfl | (simp [errW_none, errW_some] <;> rfl) | (simp [*, errW_none, errW_some] <;> first | rfl | exact given_isEmpty _ | exact (given_isEmpty _).symm), by (with_reducible repeat (first | apply Kd.R_alloc | apply Kd.R_drewN | apply Kd.R_drew)); exact Kd.R_mono HO244.out (fun _ hk => trivial), by repeat (first | (with_reducible first | exact HI0.out | apply IsS66.alloc | apply IsS66.drewN | apply IsS66.drew | apply IsS66.set_0 | apply IsS66.set_1 | apply IsS66.set_2) | exact HI0.out), by repeat (first | (with_reducible first | exact HB.out | apply below_alloc | apply pw_below_drewN | apply below_drew1 | refine below_set ?_ (IsS66.ge HI0.out)) | exact HB.out), by repeat (first | (with_reducible first | exact HK.out | apply KeepBut.set_ | apply keep_drewN | apply keep_drew | apply keep_alloc) | exact HK.out)⟩
 ·replace c3 := Bool.eq_false_iff.mpr c3
  subst c3
  have H1 : ((class_reader_fail.f t184 t185 t186).bind fun bt187 => (some (([] : List (S28)), bt187.1, bt187.2.1, bt187.2.2))) = some (r1, r2, r3, r4) := by rw [if_neg (show ¬ (false = true) by decide)] at H; exact H
  clear H
  have H := H1
  clear H1
  replace H := Option.bind_eq_some_iff.mp H
  obtain ⟨⟨t187, t188, t189⟩, A750, H⟩ := H
  replace H : (some (([] : List (S28)), t187, t188, t189)) = some (r1, r2, r3, r4) := H
  have A75 := Aside0.mk A750
  clear A750
  simp only [Option.some.injEq, Prod.mk.injEq] at H
  obtain ⟨rfl, rfl, rfl, rfl⟩ := H
  go_enter Tryz.func31, Tryz.ntmps31
  go_wp2_with (first | ((with_reducible refine gate_callee (f := 42) rfl ?_); refine gl_ (some 9) Tryz.func42 #[.pointer (some ⟨g, 0, none⟩), .int .u8 91] ?_; (with_reducible refine (class_reader_take.calls k g s0_0 s0_1 s0_2 91 false t184 t185 t186 w0 _ ?side1 ?side2 A2.out).mono ?_); (case side1 => repeat (first | (with_reducible first | exact HI0.out | apply IsS66.alloc | apply IsS66.drewN | apply IsS66.drew | apply IsS66.set_0 | apply IsS66.set_1 | apply IsS66.set_2) | exact HI0.out)); (case side2 => repeat (first | (with_reducible first | exact HB.out | apply below_alloc | apply pw_below_drewN | apply below_drew1 | refine below_set ?_ (IsS66.ge HI0.out)) | exact HB.out)); rintro e w76 ⟨rfl, hi, hb, hk⟩; refine ⟨_, rfl, ?_⟩; replace HK := Aside0.mk (KeepBut.trans (by repeat (first | (with_reducible first | exact HK.out | apply KeepBut.set_ | apply keep_drewN | apply keep_drew | apply keep_alloc) | exact HK.out)) hk (.inl rfl)); replace HB := Aside0.mk (hb); replace HI0 := Aside0.mk (hi); (try clear hb); (try clear hk); (try clear hi)) | ((with_reducible refine gate_callee (f := 43) rfl ?_); refine gl_ (some 12) Tryz.func43 #[.pointer (some ⟨g, 0, none⟩)] ?_; (with_reducible refine (class_reader_fail.calls g t184 t185 t186 t187 t188 t189 w0 _ ?side1 ?side2 A75.out).mono ?_); (case side1 => repeat (first | (with_reducible first | exact HI0.out | apply IsS66.alloc | apply IsS66.drewN | apply IsS66.drew | apply IsS66.set_0 | apply IsS66.set_1 | apply IsS66.set_2) | exact HI0.out)); (case side2 => repeat (first | (with_reducible first | exact HB.out | apply below_alloc | apply pw_below_drewN | apply below_drew1 | refine below_set ?_ (IsS66.ge HI0.out)) | exact HB.out)); rintro e w77 ⟨rfl, hi, hb, hk⟩; refine ⟨_, rfl, ?_⟩; replace HK := Aside0.mk (KeepBut.trans (by repeat (first | (with_reducible first | exact HK.out | apply KeepBut.set_ | apply keep_drewN | apply keep_drew | apply keep_alloc) | exact HK.out)) hk (.inl rfl)); replace HB := Aside0.mk (hb); replace HI0 := Aside0.mk (hi); (try clear hb); (try clear hk); (try clear hi)))
  go_ret
  exact ⟨_, by first | rfl | (simp [errW_none, errW_some] <;> rfl) | (simp [*, errW_none, errW_some] <;> first | rfl | exact given_isEmpty _ | exact (given_isEmpty _).symm), by first | exact Kd.R_nil _ _ _ _ _ | exact Kd.N_nil _ _ _ _ _ | exact Kd.V_nil _ _ _ _ _ | exact Kd.Q_nil _ _ _ _ _ | exact Kd.S_nil _ _ _ _ _, by repeat (first | (with_reducible first | exact HI0.out | apply IsS66.alloc | apply IsS66.drewN | apply IsS66.drew | apply IsS66.set_0 | apply IsS66.set_1 | apply IsS66.set_2) | exact HI0.out), by repeat (first | (with_reducible first | exact HB.out | apply below_alloc | apply pw_below_drewN | apply below_drew1 | refine below_set ?_ (IsS66.ge HI0.out)) | exact HB.out), by repeat (first | (with_reducible first | exact HK.out | apply KeepBut.set_ | apply keep_drewN | apply keep_drew | apply keep_alloc) | exact HK.out)⟩

end Go.Proofs.YtnpohgoacbpcjaaGreatDoor.P
