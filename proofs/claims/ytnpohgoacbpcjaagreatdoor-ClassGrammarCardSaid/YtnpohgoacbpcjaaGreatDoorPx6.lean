-- written by a program of this session (wip/p2)
import Derived.Test.YtnpohgoacbpcjaaGreatDoorPx0
import Derived.Test.YtnpohgoacbpcjaaGreatDoorPx4
import Derived.Test.YtnpohgoacbpcjaaGreatDoorPx5
namespace Go.Proofs.YtnpohgoacbpcjaaGreatDoor.P
open Go.RowKit Go.Proofs.YtnpohgoacbpcjaaGreatDoorW.PrintWords Go.Proofs.YtnpohgoacbpcjaaGreatDoorW.PrintLast Go.Proofs.YtnpohgoacbpcjaaGreatDoorW.PrintMore
attribute [local go_sem] max2_int min2_int max_two min_two max_three min_three max_four min_four   -- for this text's walks alone
set_option linter.unusedVariables false
set_option linter.unusedSimpArgs false

/-! ### class_reader_one: function 44 -/
def class_reader_one.f (k : Nat) (s0_0 : ByteArray) (s0_1 : Int) (s0_2 : Int) : Option (Int × ByteArray × Int × Int) := (class_reader_peek.f k s0_0 s0_1 s0_2).bind fun bt155 => (if bt155.1 = 92 then ((class_reader_escape.f k bt155.2.1 bt155.2.2.1 bt155.2.2.2).bind fun bt159 => (some (bt159.1, bt159.2.1, bt159.2.2.1, bt159.2.2.2))) else (if bt155.1 = 91 then ((class_reader_fail.f bt155.2.1 bt155.2.2.1 bt155.2.2.2).bind fun bt163 => (some (0, bt163.1, bt163.2.1, bt163.2.2))) else (if bt155.1 = 93 then ((class_reader_fail.f bt155.2.1 bt155.2.2.1 bt155.2.2.2).bind fun bt166 => (some (0, bt166.1, bt166.2.1, bt166.2.2))) else (if bt155.1 = 45 then ((class_reader_fail.f bt155.2.1 bt155.2.2.1 bt155.2.2.2).bind fun bt169 => (some (0, bt169.1, bt169.2.1, bt169.2.2))) else (if bt155.1 = 94 then ((class_reader_fail.f bt155.2.1 bt155.2.2.1 bt155.2.2.2).bind fun bt172 => (some (0, bt172.1, bt172.2.1, bt172.2.2))) else (if bt155.2.2.1 = (bt155.2.1.size : Int) then ((class_reader_fail.f bt155.2.1 bt155.2.2.1 bt155.2.2.2).bind fun bt175 => (some (0, bt175.1, bt175.2.1, bt175.2.2))) else (if 0 ≤ bt155.2.2.1 then (if bt155.2.2.1 ≤ (bt155.2.1.size : Int) then ((utf8_DecodeRuneInString.f (bt155.2.1.extract (bt155.2.2.1 : Int).toNat bt155.2.1.size)).bind fun bt178 => (if bt178.1 = 65533 then (if bt178.2 < 2 then ((class_reader_fail.f bt155.2.1 bt155.2.2.1 bt155.2.2.2).bind fun bt180 => (some (0, bt180.1, bt180.2.1, bt180.2.2))) else (some (bt178.1, bt155.2.1, wrap64 (bt155.2.2.1 + bt178.2), bt155.2.2.2))) else (some (bt178.1, bt155.2.1, wrap64 (bt155.2.2.1 + bt178.2), bt155.2.2.2)))) else (none)) else (none))))))))
theorem class_reader_one.mono : ∀ a0 a1 a2 k, LeO (class_reader_one.f k a0 a1 a2) (class_reader_one.f (k + 1) a0 a1 a2) := by
  intro a0 a1 a2 k
  unfold class_reader_one.f
  repeat' first
      | (with_reducible exact class_reader_escape.mono _ _ _ _)
      | (with_reducible exact class_reader_peek.mono _ _ _ _)
      | (with_reducible exact LeO.refl _)
      | (with_reducible exact LeO.none _)
      | (with_reducible refine LeO.ite ?_ ?_)
      | (with_reducible refine LeO.bind ?_ (fun _ => ?_))
      | exact class_reader_escape.mono _ _ _ _
      | exact class_reader_peek.mono _ _ _ _
      | exact LeO.none _
      | refine LeO.ite ?_ ?_
      | refine LeO.bind ?_ (fun _ => ?_)
def class_reader_one.T8 : Bool × List (List Nat × List Nat) := (true, [([], []), ([0], [0]), ([1], [1]), ([2], [2]), ([], []), ([4], [4]), ([5], [5]), ([6], [6]), ([7], [7]), ([3, 8], [3, 8]), ([9], [9])])
def class_reader_one.B8 : List Nat := [0, 1, 3, 7, 0, 16, 48, 112, 240, 511, 1023]
theorem class_reader_one.tab8 : rtab .any (opsOf Tryz.f44 8) = class_reader_one.T8 := by kernel_rfl
theorem class_reader_one.bits8 : waitsOk class_reader_one.T8.2 class_reader_one.B8 = true := by kernel_rfl
def class_reader_one.T11 : Bool × List (List Nat × List Nat) := (true, [([], []), ([0], [0]), ([1], [1]), ([2], [2]), ([], []), ([4], [4]), ([5], [5]), ([6], [6]), ([3, 7], [3, 7]), ([8], [8]), ([9], [9]), ([10], [10]), ([10], [10]), ([11, 9, 0, 1, 2, 3, 4, 5, 6, 7, 8, 9, 10, 11], [11]), ([12, 13, 0, 1, 2, 3, 4, 5, 6, 7, 8, 9, 10, 11, 12, 13], [12])])
def class_reader_one.B11 : List Nat := [0, 1, 3, 7, 0, 16, 48, 112, 255, 511, 1023, 2047, 2047, 4095, 16383]
theorem class_reader_one.tab11 : rtab .any (opsOf Tryz.f44 11) = class_reader_one.T11 := by kernel_rfl
theorem class_reader_one.bits11 : waitsOk class_reader_one.T11.2 class_reader_one.B11 = true := by kernel_rfl
set_option maxHeartbeats 64000000 in
set_option maxRecDepth 100000 in
theorem class_reader_one.calls (k : Nat) (g : Nat) (s0_0 : ByteArray) (s0_1 : Int) (s0_2 : Int) (r1 : Int) (r2 : ByteArray) (r3 : Int) (r4 : Int) (w0 w : World) (hI : IsS66 w0 w g s0_0 s0_1 s0_2) (hB : Below w0.heap.size w0 w) (h : class_reader_one.f k s0_0 s0_1 s0_2 = some (r1, r2, r3, r4)) (ht : GTabs w0 := by first | assumption | exact gtb_ (by assumption) (bl_ (by assumption)).out) :
    Calls Tryz.prog 44 #[.pointer (some ⟨g, 0, none⟩)] w fun e w' => e = .returned (.int .i32 r1) ∧ IsS66 w0 w' g r2 r3 r4 ∧ Below w0.heap.size w0 w' ∧ KeepBut w w' g none := by
  have HI0 := Aside0.mk hI
  have HK := Aside0.mk (KeepBut.refl w g none)
  have HL := Aside0.mk hB.size
  clear hI
  have HW0 := Aside0.mk hB.size
  have HB := Aside0.mk hB
  clear hB
  have H : ((class_reader_peek.f k s0_0 s0_1 s0_2).bind fun bt155 => (if bt155.1 = 92 then ((class_reader_escape.f k bt155.2.1 bt155.2.2.1 bt155.2.2.2).bind fun bt159 => (some (bt159.1, bt159.2.1, bt159.2.2.1, bt159.2.2.2))) else (if bt155.1 = 91 then ((class_reader_fail.f bt155.2.1 bt155.2.2.1 bt155.2.2.2).bind fun bt163 => (some (0, bt163.1, bt163.2.1, bt163.2.2))) else (if bt155.1 = 93 then ((class_reader_fail.f bt155.2.1 bt155.2.2.1 bt155.2.2.2).bind fun bt166 => (some (0, bt166.1, bt166.2.1, bt166.2.2))) else (if bt155.1 = 45 then ((class_reader_fail.f bt155.2.1 bt155.2.2.1 bt155.2.2.2).bind fun bt169 => (some (0, bt169.1, bt169.2.1, bt169.2.2))) else (if bt155.1 = 94 then ((class_reader_fail.f bt155.2.1 bt155.2.2.1 bt155.2.2.2).bind fun bt172 => (some (0, bt172.1, bt172.2.1, bt172.2.2))) else (if bt155.2.2.1 = (bt155.2.1.size : Int) then ((class_reader_fail.f bt155.2.1 bt155.2.2.1 bt155.2.2.2).bind fun bt175 => (some (0, bt175.1, bt175.2.1, bt175.2.2))) else (if 0 ≤ bt155.2.2.1 then (if bt155.2.2.1 ≤ (bt155.2.1.size : Int) then ((utf8_DecodeRuneInString.f (bt155.2.1.extract (bt155.2.2.1 : Int).toNat bt155.2.1.size)).bind fun bt178 => (if bt178.1 = 65533 then (if bt178.2 < 2 then ((class_reader_fail.f bt155.2.1 bt155.2.2.1 bt155.2.2.2).bind fun bt180 => (some (0, bt180.1, bt180.2.1, bt180.2.2))) else (some (bt178.1, bt155.2.1, wrap64 (bt155.2.2.1 + bt178.2), bt155.2.2.2))) else (some (bt178.1, bt155.2.1, wrap64 (bt155.2.2.1 + bt178.2), bt155.2.2.2)))) else (none)) else (none))))))))) = some (r1, r2, r3, r4) := h
  clear h
  replace H := Option.bind_eq_some_iff.mp H
  obtain ⟨⟨t155, t156, t157, t158⟩, A20, H⟩ := H
  replace H : (if t155 = 92 then ((class_reader_escape.f k t156 t157 t158).bind fun bt159 => (some (bt159.1, bt159.2.1, bt159.2.2.1, bt159.2.2.2))) else (if t155 = 91 then ((class_reader_fail.f t156 t157 t158).bind fun bt163 => (some (0, bt163.1, bt163.2.1, bt163.2.2))) else (if t155 = 93 then ((class_reader_fail.f t156 t157 t158).bind fun bt166 => (some (0, bt166.1, bt166.2.1, bt166.2.2))) else (if t155 = 45 then ((class_reader_fail.f t156 t157 t158).bind fun bt169 => (some (0, bt169.1, bt169.2.1, bt169.2.2))) else (if t155 = 94 then ((class_reader_fail.f t156 t157 t158).bind fun bt172 => (some (0, bt172.1, bt172.2.1, bt172.2.2))) else (if t157 = (t156.size : Int) then ((class_reader_fail.f t156 t157 t158).bind fun bt175 => (some (0, bt175.1, bt175.2.1, bt175.2.2))) else (if 0 ≤ t157 then (if t157 ≤ (t156.size : Int) then ((utf8_DecodeRuneInString.f (t156.extract (t157 : Int).toNat t156.size)).bind fun bt178 => (if bt178.1 = 65533 then (if bt178.2 < 2 then ((class_reader_fail.f t156 t157 t158).bind fun bt180 => (some (0, bt180.1, bt180.2.1, bt180.2.2))) else (some (bt178.1, t156, wrap64 (t157 + bt178.2), t158))) else (some (bt178.1, t156, wrap64 (t157 + bt178.2), t158)))) else (none)) else (none)))))))) = some (r1, r2, r3, r4) := H
  have A2 := Aside0.mk A20
  clear A20
  by_cases c3 : t155 = 92
  · rw [if_pos c3] at H
    have c3b0 : (t155 == 92) = true := beq_iff_eq.mpr c3
    have c3b1 : (t155 != 92) = false := bne_eq_false_iff_eq.mpr c3
    clear c3
    replace H := Option.bind_eq_some_iff.mp H
    obtain ⟨⟨t159, t160, t161, t162⟩, A40, H⟩ := H
    replace H : (some (t159, t160, t161, t162)) = some (r1, r2, r3, r4) := H
    have A4 := Aside0.mk A40
    clear A40
    simp only [Option.some.injEq, Prod.mk.injEq] at H
    obtain ⟨rfl, rfl, rfl, rfl⟩ := H
    go_enter Tryz.func44, Tryz.ntmps44
    go_wp2_with (first | ((with_reducible refine gate_callee (f := 45) rfl ?_); refine gl_ (some 7) Tryz.func45 #[.pointer (some ⟨g, 0, none⟩)] ?_; (with_reducible refine (class_reader_peek.calls k g s0_0 s0_1 s0_2 t155 t156 t157 t158 w0 _ ?side1 ?side2 A2.out).mono ?_); (case side1 => repeat (first | (with_reducible first | exact HI0.out | apply IsS66.alloc | apply IsS66.drewN | apply IsS66.drew | apply IsS66.set_0 | apply IsS66.set_1 | apply IsS66.set_2) | exact HI0.out)); (case side2 => repeat (first | (with_reducible first | exact HB.out | apply below_alloc | apply pw_below_drewN | apply below_drew1 | refine below_set ?_ (IsS66.ge HI0.out)) | exact HB.out)); rintro e w5 ⟨rfl, hi, hb, hk⟩; refine ⟨_, rfl, ?_⟩; replace HK := Aside0.mk (KeepBut.trans (by repeat (first | (with_reducible first | exact HK.out | apply KeepBut.set_ | apply keep_drewN | apply keep_drew | apply keep_alloc) | exact HK.out)) hk (.inl rfl)); replace HB := Aside0.mk (hb); replace HI0 := Aside0.mk (hi); (try clear hb); (try clear hk); (try clear hi)) | ((with_reducible refine gate_callee (f := 59) rfl ?_); refine gl_ (some 12) Tryz.func59 #[.pointer (some ⟨g, 0, none⟩)] ?_; (with_reducible refine (class_reader_escape.calls k g t156 t157 t158 t159 t160 t161 t162 w0 _ ?side1 ?side2 A4.out).mono ?_); (case side1 => repeat (first | (with_reducible first | exact HI0.out | apply IsS66.alloc | apply IsS66.drewN | apply IsS66.drew | apply IsS66.set_0 | apply IsS66.set_1 | apply IsS66.set_2) | exact HI0.out)); (case side2 => repeat (first | (with_reducible first | exact HB.out | apply below_alloc | apply pw_below_drewN | apply below_drew1 | refine below_set ?_ (IsS66.ge HI0.out)) | exact HB.out)); rintro e w6 ⟨rfl, hi, hb, hk⟩; refine ⟨_, rfl, ?_⟩; replace HK := Aside0.mk (KeepBut.trans (by repeat (first | (with_reducible first | exact HK.out | apply KeepBut.set_ | apply keep_drewN | apply keep_drew | apply keep_alloc) | exact HK.out)) hk (.inl rfl)); replace HB := Aside0.mk (hb); replace HI0 := Aside0.mk (hi); (try clear hb); (try clear hk); (try clear hi)))
    go_ret
    exact ⟨ew_, by repeat (first | (with_reducible first | exact HI0.out | apply IsS66.alloc | apply IsS66.drewN | apply IsS66.drew | apply IsS66.set_0 | apply IsS66.set_1 | apply IsS66.set_2) | exact HI0.out), by repeat (first | (with_reducible first | exact HB.out | apply below_alloc | apply pw_below_drewN | apply below_drew1 | refine below_set ?_ (IsS66.ge HI0.out)) | exact HB.out), by repeat (first | (with_reducible first | exact HK.out | apply KeepBut.set_ | apply keep_drewN | apply keep_drew | apply keep_alloc) | exact HK.out)⟩
  · rw [if_neg c3] at H
    have c3b0 : (t155 == 92) = false := beq_eq_false_iff_ne.mpr c3
    have c3b1 : (t155 != 92) = true := bne_iff_ne.mpr c3
    by_cases c7 : t155 = 91
    · rw [if_pos c7] at H
      have c7b0 : (t155 == 91) = true := beq_iff_eq.mpr c7
      have c7b1 : (t155 != 91) = false := bne_eq_false_iff_eq.mpr c7
      clear c7
      replace H := Option.bind_eq_some_iff.mp H
      obtain ⟨⟨t163, t164, t165⟩, A80, H⟩ := H
      replace H : (some (0, t163, t164, t165)) = some (r1, r2, r3, r4) := H
      have A8 := Aside0.mk A80
      clear A80
      simp only [Option.some.injEq, Prod.mk.injEq] at H
      obtain ⟨rfl, rfl, rfl, rfl⟩ := H
      go_enter Tryz.func44, Tryz.ntmps44
      go_wp2_with (first | ((with_reducible refine gate_callee (f := 45) rfl ?_); refine gl_ (some 7) Tryz.func45 #[.pointer (some ⟨g, 0, none⟩)] ?_; (with_reducible refine (class_reader_peek.calls k g s0_0 s0_1 s0_2 t155 t156 t157 t158 w0 _ ?side1 ?side2 A2.out).mono ?_); (case side1 => repeat (first | (with_reducible first | exact HI0.out | apply IsS66.alloc | apply IsS66.drewN | apply IsS66.drew | apply IsS66.set_0 | apply IsS66.set_1 | apply IsS66.set_2) | exact HI0.out)); (case side2 => repeat (first | (with_reducible first | exact HB.out | apply below_alloc | apply pw_below_drewN | apply below_drew1 | refine below_set ?_ (IsS66.ge HI0.out)) | exact HB.out)); rintro e w9 ⟨rfl, hi, hb, hk⟩; refine ⟨_, rfl, ?_⟩; replace HK := Aside0.mk (KeepBut.trans (by repeat (first | (with_reducible first | exact HK.out | apply KeepBut.set_ | apply keep_drewN | apply keep_drew | apply keep_alloc) | exact HK.out)) hk (.inl rfl)); replace HB := Aside0.mk (hb); replace HI0 := Aside0.mk (hi); (try clear hb); (try clear hk); (try clear hi)) | ((with_reducible refine gate_callee (f := 43) rfl ?_); refine gl_ (some 33) Tryz.func43 #[.pointer (some ⟨g, 0, none⟩)] ?_; (with_reducible refine (class_reader_fail.calls g t156 t157 t158 t163 t164 t165 w0 _ ?side1 ?side2 A8.out).mono ?_); (case side1 => repeat (first | (with_reducible first | exact HI0.out | apply IsS66.alloc | apply IsS66.drewN | apply IsS66.drew | apply IsS66.set_0 | apply IsS66.set_1 | apply IsS66.set_2) | exact HI0.out)); (case side2 => repeat (first | (with_reducible first | exact HB.out | apply below_alloc | apply pw_below_drewN | apply below_drew1 | refine below_set ?_ (IsS66.ge HI0.out)) | exact HB.out)); rintro e w10 ⟨rfl, hi, hb, hk⟩; refine ⟨_, rfl, ?_⟩; replace HK := Aside0.mk (KeepBut.trans (by repeat (first | (with_reducible first | exact HK.out | apply KeepBut.set_ | apply keep_drewN | apply keep_drew | apply keep_alloc) | exact HK.out)) hk (.inl rfl)); replace HB := Aside0.mk (hb); replace HI0 := Aside0.mk (hi); (try clear hb); (try clear hk); (try clear hi)))
      go_ret
      exact ⟨ew_, by repeat (first | (with_reducible first | exact HI0.out | apply IsS66.alloc | apply IsS66.drewN | apply IsS66.drew | apply IsS66.set_0 | apply IsS66.set_1 | apply IsS66.set_2) | exact HI0.out), by repeat (first | (with_reducible first | exact HB.out | apply below_alloc | apply pw_below_drewN | apply below_drew1 | refine below_set ?_ (IsS66.ge HI0.out)) | exact HB.out), by repeat (first | (with_reducible first | exact HK.out | apply KeepBut.set_ | apply keep_drewN | apply keep_drew | apply keep_alloc) | exact HK.out)⟩
    · rw [if_neg c7] at H
      have c7b0 : (t155 == 91) = false := beq_eq_false_iff_ne.mpr c7
      have c7b1 : (t155 != 91) = true := bne_iff_ne.mpr c7
      by_cases c11 : t155 = 93
      · rw [if_pos c11] at H
        have c11b0 : (t155 == 93) = true := beq_iff_eq.mpr c11
        have c11b1 : (t155 != 93) = false := bne_eq_false_iff_eq.mpr c11
        clear c11
        replace H := Option.bind_eq_some_iff.mp H
        obtain ⟨⟨t166, t167, t168⟩, A120, H⟩ := H
        replace H : (some (0, t166, t167, t168)) = some (r1, r2, r3, r4) := H
        have A12 := Aside0.mk A120
        clear A120
        simp only [Option.some.injEq, Prod.mk.injEq] at H
        obtain ⟨rfl, rfl, rfl, rfl⟩ := H
        go_enter Tryz.func44, Tryz.ntmps44
        go_wp2_with (first | ((with_reducible refine gate_callee (f := 45) rfl ?_); refine gl_ (some 7) Tryz.func45 #[.pointer (some ⟨g, 0, none⟩)] ?_; (with_reducible refine (class_reader_peek.calls k g s0_0 s0_1 s0_2 t155 t156 t157 t158 w0 _ ?side1 ?side2 A2.out).mono ?_); (case side1 => repeat (first | (with_reducible first | exact HI0.out | apply IsS66.alloc | apply IsS66.drewN | apply IsS66.drew | apply IsS66.set_0 | apply IsS66.set_1 | apply IsS66.set_2) | exact HI0.out)); (case side2 => repeat (first | (with_reducible first | exact HB.out | apply below_alloc | apply pw_below_drewN | apply below_drew1 | refine below_set ?_ (IsS66.ge HI0.out)) | exact HB.out)); rintro e w13 ⟨rfl, hi, hb, hk⟩; refine ⟨_, rfl, ?_⟩; replace HK := Aside0.mk (KeepBut.trans (by repeat (first | (with_reducible first | exact HK.out | apply KeepBut.set_ | apply keep_drewN | apply keep_drew | apply keep_alloc) | exact HK.out)) hk (.inl rfl)); replace HB := Aside0.mk (hb); replace HI0 := Aside0.mk (hi); (try clear hb); (try clear hk); (try clear hi)) | ((with_reducible refine gate_callee (f := 43) rfl ?_); refine gl_ (some 33) Tryz.func43 #[.pointer (some ⟨g, 0, none⟩)] ?_; (with_reducible refine (class_reader_fail.calls g t156 t157 t158 t166 t167 t168 w0 _ ?side1 ?side2 A12.out).mono ?_); (case side1 => repeat (first | (with_reducible first | exact HI0.out | apply IsS66.alloc | apply IsS66.drewN | apply IsS66.drew | apply IsS66.set_0 | apply IsS66.set_1 | apply IsS66.set_2) | exact HI0.out)); (case side2 => repeat (first | (with_reducible first | exact HB.out | apply below_alloc | apply pw_below_drewN | apply below_drew1 | refine below_set ?_ (IsS66.ge HI0.out)) | exact HB.out)); rintro e w14 ⟨rfl, hi, hb, hk⟩; refine ⟨_, rfl, ?_⟩; replace HK := Aside0.mk (KeepBut.trans (by repeat (first | (with_reducible first | exact HK.out | apply KeepBut.set_ | apply keep_drewN | apply keep_drew | apply keep_alloc) | exact HK.out)) hk (.inl rfl)); replace HB := Aside0.mk (hb); replace HI0 := Aside0.mk (hi); (try clear hb); (try clear hk); (try clear hi)))
        go_ret
        exact ⟨ew_, by repeat (first | (with_reducible first | exact HI0.out | apply IsS66.alloc | apply IsS66.drewN | apply IsS66.drew | apply IsS66.set_0 | apply IsS66.set_1 | apply IsS66.set_2) | exact HI0.out), by repeat (first | (with_reducible first | exact HB.out | apply below_alloc | apply pw_below_drewN | apply below_drew1 | refine below_set ?_ (IsS66.ge HI0.out)) | exact HB.out), by repeat (first | (with_reducible first | exact HK.out | apply KeepBut.set_ | apply keep_drewN | apply keep_drew | apply keep_alloc) | exact HK.out)⟩
      · rw [if_neg c11] at H
        have c11b0 : (t155 == 93) = false := beq_eq_false_iff_ne.mpr c11
        have c11b1 : (t155 != 93) = true := bne_iff_ne.mpr c11
        by_cases c15 : t155 = 45
        · rw [if_pos c15] at H
          have c15b0 : (t155 == 45) = true := beq_iff_eq.mpr c15
          have c15b1 : (t155 != 45) = false := bne_eq_false_iff_eq.mpr c15
          clear c15
          replace H := Option.bind_eq_some_iff.mp H
          obtain ⟨⟨t169, t170, t171⟩, A160, H⟩ := H
          replace H : (some (0, t169, t170, t171)) = some (r1, r2, r3, r4) := H
          have A16 := Aside0.mk A160
          clear A160
          simp only [Option.some.injEq, Prod.mk.injEq] at H
          obtain ⟨rfl, rfl, rfl, rfl⟩ := H
          go_enter Tryz.func44, Tryz.ntmps44
          go_wp2_with (first | ((with_reducible refine gate_callee (f := 45) rfl ?_); refine gl_ (some 7) Tryz.func45 #[.pointer (some ⟨g, 0, none⟩)] ?_; (with_reducible refine (class_reader_peek.calls k g s0_0 s0_1 s0_2 t155 t156 t157 t158 w0 _ ?side1 ?side2 A2.out).mono ?_); (case side1 => repeat (first | (with_reducible first | exact HI0.out | apply IsS66.alloc | apply IsS66.drewN | apply IsS66.drew | apply IsS66.set_0 | apply IsS66.set_1 | apply IsS66.set_2) | exact HI0.out)); (case side2 => repeat (first | (with_reducible first | exact HB.out | apply below_alloc | apply pw_below_drewN | apply below_drew1 | refine below_set ?_ (IsS66.ge HI0.out)) | exact HB.out)); rintro e w17 ⟨rfl, hi, hb, hk⟩; refine ⟨_, rfl, ?_⟩; replace HK := Aside0.mk (KeepBut.trans (by repeat (first | (with_reducible first | exact HK.out | apply KeepBut.set_ | apply keep_drewN | apply keep_drew | apply keep_alloc) | exact HK.out)) hk (.inl rfl)); replace HB := Aside0.mk (hb); replace HI0 := Aside0.mk (hi); (try clear hb); (try clear hk); (try clear hi)) | ((with_reducible refine gate_callee (f := 43) rfl ?_); refine gl_ (some 33) Tryz.func43 #[.pointer (some ⟨g, 0, none⟩)] ?_; (with_reducible refine (class_reader_fail.calls g t156 t157 t158 t169 t170 t171 w0 _ ?side1 ?side2 A16.out).mono ?_); (case side1 => repeat (first | (with_reducible first | exact HI0.out | apply IsS66.alloc | apply IsS66.drewN | apply IsS66.drew | apply IsS66.set_0 | apply IsS66.set_1 | apply IsS66.set_2) | exact HI0.out)); (case side2 => repeat (first | (with_reducible first | exact HB.out | apply below_alloc | apply pw_below_drewN | apply below_drew1 | refine below_set ?_ (IsS66.ge HI0.out)) | exact HB.out)); rintro e w18 ⟨rfl, hi, hb, hk⟩; refine ⟨_, rfl, ?_⟩; replace HK := Aside0.mk (KeepBut.trans (by repeat (first | (with_reducible first | exact HK.out | apply KeepBut.set_ | apply keep_drewN | apply keep_drew | apply keep_alloc) | exact HK.out)) hk (.inl rfl)); replace HB := Aside0.mk (hb); replace HI0 := Aside0.mk (hi); (try clear hb); (try clear hk); (try clear hi)))
          go_ret
          exact ⟨ew_, by repeat (first | (with_reducible first | exact HI0.out | apply IsS66.alloc | apply IsS66.drewN | apply IsS66.drew | apply IsS66.set_0 | apply IsS66.set_1 | apply IsS66.set_2) | exact HI0.out), by repeat (first | (with_reducible first | exact HB.out | apply below_alloc | apply pw_below_drewN | apply below_drew1 | refine below_set ?_ (IsS66.ge HI0.out)) | exact HB.out), by repeat (first | (with_reducible first | exact HK.out | apply KeepBut.set_ | apply keep_drewN | apply keep_drew | apply keep_alloc) | exact HK.out)⟩
        · rw [if_neg c15] at H
          have c15b0 : (t155 == 45) = false := beq_eq_false_iff_ne.mpr c15
          have c15b1 : (t155 != 45) = true := bne_iff_ne.mpr c15
          by_cases c19 : t155 = 94
          · rw [if_pos c19] at H
            have c19b0 : (t155 == 94) = true := beq_iff_eq.mpr c19
            have c19b1 : (t155 != 94) = false := bne_eq_false_iff_eq.mpr c19
            clear c19
            replace H := Option.bind_eq_some_iff.mp H
            obtain ⟨⟨t172, t173, t174⟩, A200, H⟩ := H
            replace H : (some (0, t172, t173, t174)) = some (r1, r2, r3, r4) := H
            have A20 := Aside0.mk A200
            clear A200
            simp only [Option.some.injEq, Prod.mk.injEq] at H
            obtain ⟨rfl, rfl, rfl, rfl⟩ := H
            go_enter Tryz.func44, Tryz.ntmps44
            go_wp2_with (first | ((with_reducible refine gate_callee (f := 45) rfl ?_); refine gl_ (some 7) Tryz.func45 #[.pointer (some ⟨g, 0, none⟩)] ?_; (with_reducible refine (class_reader_peek.calls k g s0_0 s0_1 s0_2 t155 t156 t157 t158 w0 _ ?side1 ?side2 A2.out).mono ?_); (case side1 => repeat (first | (with_reducible first | exact HI0.out | apply IsS66.alloc | apply IsS66.drewN | apply IsS66.drew | apply IsS66.set_0 | apply IsS66.set_1 | apply IsS66.set_2) | exact HI0.out)); (case side2 => repeat (first | (with_reducible first | exact HB.out | apply below_alloc | apply pw_below_drewN | apply below_drew1 | refine below_set ?_ (IsS66.ge HI0.out)) | exact HB.out)); rintro e w21 ⟨rfl, hi, hb, hk⟩; refine ⟨_, rfl, ?_⟩; replace HK := Aside0.mk (KeepBut.trans (by repeat (first | (with_reducible first | exact HK.out | apply KeepBut.set_ | apply keep_drewN | apply keep_drew | apply keep_alloc) | exact HK.out)) hk (.inl rfl)); replace HB := Aside0.mk (hb); replace HI0 := Aside0.mk (hi); (try clear hb); (try clear hk); (try clear hi)) | ((with_reducible refine gate_callee (f := 43) rfl ?_); refine gl_ (some 33) Tryz.func43 #[.pointer (some ⟨g, 0, none⟩)] ?_; (with_reducible refine (class_reader_fail.calls g t156 t157 t158 t172 t173 t174 w0 _ ?side1 ?side2 A20.out).mono ?_); (case side1 => repeat (first | (with_reducible first | exact HI0.out | apply IsS66.alloc | apply IsS66.drewN | apply IsS66.drew | apply IsS66.set_0 | apply IsS66.set_1 | apply IsS66.set_2) | exact HI0.out)); (case side2 => repeat (first | (with_reducible first | exact HB.out | apply below_alloc | apply pw_below_drewN | apply below_drew1 | refine below_set ?_ (IsS66.ge HI0.out)) | exact HB.out)); rintro e w22 ⟨rfl, hi, hb, hk⟩; refine ⟨_, rfl, ?_⟩; replace HK := Aside0.mk (KeepBut.trans (by repeat (first | (with_reducible first | exact HK.out | apply KeepBut.set_ | apply keep_drewN | apply keep_drew | apply keep_alloc) | exact HK.out)) hk (.inl rfl)); replace HB := Aside0.mk (hb); replace HI0 := Aside0.mk (hi); (try clear hb); (try clear hk); (try clear hi)))
            go_ret
            exact ⟨ew_, by repeat (first | (with_reducible first | exact HI0.out | apply IsS66.alloc | apply IsS66.drewN | apply IsS66.drew | apply IsS66.set_0 | apply IsS66.set_1 | apply IsS66.set_2) | exact HI0.out), by repeat (first | (with_reducible first | exact HB.out | apply below_alloc | apply pw_below_drewN | apply below_drew1 | refine below_set ?_ (IsS66.ge HI0.out)) | exact HB.out), by repeat (first | (with_reducible first | exact HK.out | apply KeepBut.set_ | apply keep_drewN | apply keep_drew | apply keep_alloc) | exact HK.out)⟩
          · rw [if_neg c19] at H
            have c19b0 : (t155 == 94) = false := beq_eq_false_iff_ne.mpr c19
            have c19b1 : (t155 != 94) = true := bne_iff_ne.mpr c19
            by_cases c23 : t157 = (t156.size : Int)
            · rw [if_pos c23] at H
              have c23b0 : (t157 == (t156.size : Int)) = true := beq_iff_eq.mpr c23
              have c23b1 : (t157 != (t156.size : Int)) = false := bne_eq_false_iff_eq.mpr c23
              clear c23
              replace H := Option.bind_eq_some_iff.mp H
              obtain ⟨⟨t175, t176, t177⟩, A240, H⟩ := H
              replace H : (some (0, t175, t176, t177)) = some (r1, r2, r3, r4) := H
              have A24 := Aside0.mk A240
              clear A240
              simp only [Option.some.injEq, Prod.mk.injEq] at H
              obtain ⟨rfl, rfl, rfl, rfl⟩ := H
              go_enter Tryz.func44, Tryz.ntmps44
              try go_wp2_with (first | ((with_reducible refine gate_callee (f := 45) rfl ?_); refine gl_ (some 7) Tryz.func45 #[.pointer (some ⟨g, 0, none⟩)] ?_; (with_reducible refine (class_reader_peek.calls k g s0_0 s0_1 s0_2 t155 t156 t157 t158 w0 _ ?side1 ?side2 A2.out).mono ?_); (case side1 => repeat (first | (with_reducible first | exact HI0.out | apply IsS66.alloc | apply IsS66.drewN | apply IsS66.drew | apply IsS66.set_0 | apply IsS66.set_1 | apply IsS66.set_2) | exact HI0.out)); (case side2 => repeat (first | (with_reducible first | exact HB.out | apply below_alloc | apply pw_below_drewN | apply below_drew1 | refine below_set ?_ (IsS66.ge HI0.out)) | exact HB.out)); rintro e w25 ⟨rfl, hi, hb, hk⟩; refine ⟨_, rfl, ?_⟩; replace HK := Aside0.mk (KeepBut.trans (by repeat (first | (with_reducible first | exact HK.out | apply KeepBut.set_ | apply keep_drewN | apply keep_drew | apply keep_alloc) | exact HK.out)) hk (.inl rfl)); replace HB := Aside0.mk (hb); replace HI0 := Aside0.mk (hi); (try clear hb); (try clear hk); (try clear hi)))
              replace HI0 := Aside0.mk (IsS66.drew HI0.out)
              replace HK := Aside0.mk (keep_drew HK.out)
              replace HB := Aside0.mk (below_drew1 HB.out)
              refine start_ (n := 11) (S := fun w' => w'.cell? ⟨g, 0, none⟩ = some (.string t156) ∧ w'.cell? ⟨g, 1, none⟩ = some (.int .i64 t157) ∧ w'.cell? ⟨g, 2, none⟩ = some (.int .i64 t158)) (ds := []) #[false, false, false, false, false, false, false, false, false, false, false] (by kernel_rfl) rfl rfl ⟨(cellS66_0 HI0.out.1), (cellS66_1 HI0.out.1), (cellS66_2 HI0.out.1)⟩ (fun hHeld => ?_); refine with_tabW class_reader_one.tab8 class_reader_one.bits8 (fun HT_ HW_ => ?_)
              generalize w25.drew = w26 at HI0 HK HB hHeld ⊢
              refine pu_ 0 22 (bm_ 11 1) HT_ ?_
              refine pu_ 1 23 (bm_ 11 3) HT_ ?_
              refine pu_ 2 24 (bm_ 11 7) HT_ ?_
              refine pu_ 4 26 (bm_ 11 23) HT_ ?_
              refine pu_ 5 27 (bm_ 11 55) HT_ ?_
              refine pu_ 6 28 (bm_ 11 119) HT_ ?_
              refine tk_ 3 25 (bm_ 11 127) HT_ HW_ hHeld rfl (by rintro w' ⟨s0, s1, s2⟩; go_simp; with_reducible rfl) ?_
              refine tk_ 7 29 (bm_ 11 255) HT_ HW_ hHeld rfl (by rintro w' ⟨s0, s1, s2⟩; go_simp; with_reducible rfl) ?_
              refine pu_ 8 30 (bm_ 11 511) HT_ ?_
              refine pu_ 9 31 (bm_ 11 1023) HT_ ?_
              refine pu_ 10 13 (bm_ 11 2047) HT_ ?_
              refine done_ (done_of HT_.out (by kernel_rfl)) ?_
              try go_wp2_with (first | ((with_reducible refine gate_callee (f := 43) rfl ?_); refine gl_ (some 33) Tryz.func43 #[.pointer (some ⟨g, 0, none⟩)] ?_; (with_reducible refine (class_reader_fail.calls g t156 t157 t158 t175 t176 t177 w0 _ ?side1 ?side2 A24.out).mono ?_); (case side1 => repeat (first | (with_reducible first | exact HI0.out | apply IsS66.alloc | apply IsS66.drewN | apply IsS66.drew | apply IsS66.set_0 | apply IsS66.set_1 | apply IsS66.set_2) | exact HI0.out)); (case side2 => repeat (first | (with_reducible first | exact HB.out | apply below_alloc | apply pw_below_drewN | apply below_drew1 | refine below_set ?_ (IsS66.ge HI0.out)) | exact HB.out)); rintro e w27 ⟨rfl, hi, hb, hk⟩; refine ⟨_, rfl, ?_⟩; replace HK := Aside0.mk (KeepBut.trans (by repeat (first | (with_reducible first | exact HK.out | apply KeepBut.set_ | apply keep_drewN | apply keep_drew | apply keep_alloc) | exact HK.out)) hk (.inl rfl)); replace HB := Aside0.mk (hb); replace HI0 := Aside0.mk (hi); (try clear hb); (try clear hk); (try clear hi)))
              go_ret
              exact ⟨ew_, by repeat (first | (with_reducible first | exact HI0.out | apply IsS66.alloc | apply IsS66.drewN | apply IsS66.drew | apply IsS66.set_0 | apply IsS66.set_1 | apply IsS66.set_2) | exact HI0.out), by repeat (first | (with_reducible first | exact HB.out | apply below_alloc | apply pw_below_drewN | apply below_drew1 | refine below_set ?_ (IsS66.ge HI0.out)) | exact HB.out), by repeat (first | (with_reducible first | exact HK.out | apply KeepBut.set_ | apply keep_drewN | apply keep_drew | apply keep_alloc) | exact HK.out)⟩
            · rw [if_neg c23] at H
              have c23b0 : (t157 == (t156.size : Int)) = false := beq_eq_false_iff_ne.mpr c23
              have c23b1 : (t157 != (t156.size : Int)) = true := bne_iff_ne.mpr c23
              by_cases c28 : 0 ≤ t157
              · rw [if_pos c28] at H
                have c28b0 := eq_true c28
                have c28b1 : decide (0 ≤ t157) = true := decide_eq_true c28
                clear c28
                by_cases c29 : t157 ≤ (t156.size : Int)
                · rw [if_pos c29] at H
                  have c29b0 := eq_true c29
                  have c29b1 : decide (t157 ≤ (t156.size : Int)) = true := decide_eq_true c29
                  clear c29
                  replace H := Option.bind_eq_some_iff.mp H
                  obtain ⟨⟨t178, t179⟩, A300, H⟩ := H
                  replace H : (if t178 = 65533 then (if t179 < 2 then ((class_reader_fail.f t156 t157 t158).bind fun bt180 => (some (0, bt180.1, bt180.2.1, bt180.2.2))) else (some (t178, t156, wrap64 (t157 + t179), t158))) else (some (t178, t156, wrap64 (t157 + t179), t158))) = some (r1, r2, r3, r4) := H
                  have A30 := Aside0.mk A300
                  clear A300
                  by_cases c31 : t178 = 65533
                  · rw [if_pos c31] at H
                    have c31b0 : (t178 == 65533) = true := beq_iff_eq.mpr c31
                    have c31b1 : (t178 != 65533) = false := bne_eq_false_iff_eq.mpr c31
                    clear c31
                    by_cases c32 : t179 < 2
                    · rw [if_pos c32] at H
                      have c32b0 : decide (t179 < 2) = true := decide_eq_true c32
                      clear c32
                      replace H := Option.bind_eq_some_iff.mp H
                      obtain ⟨⟨t180, t181, t182⟩, A330, H⟩ := H
                      replace H : (some (0, t180, t181, t182)) = some (r1, r2, r3, r4) := H
                      have A33 := Aside0.mk A330
                      clear A330
                      simp only [Option.some.injEq, Prod.mk.injEq] at H
                      obtain ⟨rfl, rfl, rfl, rfl⟩ := H
                      go_enter Tryz.func44, Tryz.ntmps44
                      try go_wp2_with (first | ((with_reducible refine gate_callee (f := 45) rfl ?_); refine gl_ (some 7) Tryz.func45 #[.pointer (some ⟨g, 0, none⟩)] ?_; (with_reducible refine (class_reader_peek.calls k g s0_0 s0_1 s0_2 t155 t156 t157 t158 w0 _ ?side1 ?side2 A2.out).mono ?_); (case side1 => repeat (first | (with_reducible first | exact HI0.out | apply IsS66.alloc | apply IsS66.drewN | apply IsS66.drew | apply IsS66.set_0 | apply IsS66.set_1 | apply IsS66.set_2) | exact HI0.out)); (case side2 => repeat (first | (with_reducible first | exact HB.out | apply below_alloc | apply pw_below_drewN | apply below_drew1 | refine below_set ?_ (IsS66.ge HI0.out)) | exact HB.out)); rintro e w34 ⟨rfl, hi, hb, hk⟩; refine ⟨_, rfl, ?_⟩; replace HK := Aside0.mk (KeepBut.trans (by repeat (first | (with_reducible first | exact HK.out | apply KeepBut.set_ | apply keep_drewN | apply keep_drew | apply keep_alloc) | exact HK.out)) hk (.inl rfl)); replace HB := Aside0.mk (hb); replace HI0 := Aside0.mk (hi); (try clear hb); (try clear hk); (try clear hi)))
                      replace HI0 := Aside0.mk (IsS66.drew HI0.out)
                      replace HK := Aside0.mk (keep_drew HK.out)
                      replace HB := Aside0.mk (below_drew1 HB.out)
                      refine start_ (n := 11) (S := fun w' => w'.cell? ⟨g, 0, none⟩ = some (.string t156) ∧ w'.cell? ⟨g, 1, none⟩ = some (.int .i64 t157) ∧ w'.cell? ⟨g, 2, none⟩ = some (.int .i64 t158)) (ds := []) #[false, false, false, false, false, false, false, false, false, false, false] (by kernel_rfl) rfl rfl ⟨(cellS66_0 HI0.out.1), (cellS66_1 HI0.out.1), (cellS66_2 HI0.out.1)⟩ (fun hHeld => ?_); refine with_tabW class_reader_one.tab8 class_reader_one.bits8 (fun HT_ HW_ => ?_)
                      generalize w34.drew = w35 at HI0 HK HB hHeld ⊢
                      refine pu_ 0 22 (bm_ 11 1) HT_ ?_
                      refine pu_ 1 23 (bm_ 11 3) HT_ ?_
                      refine pu_ 2 24 (bm_ 11 7) HT_ ?_
                      refine pu_ 4 26 (bm_ 11 23) HT_ ?_
                      refine pu_ 5 27 (bm_ 11 55) HT_ ?_
                      refine pu_ 6 28 (bm_ 11 119) HT_ ?_
                      refine tk_ 3 25 (bm_ 11 127) HT_ HW_ hHeld rfl (by rintro w' ⟨s0, s1, s2⟩; go_simp; with_reducible rfl) ?_
                      refine tk_ 7 29 (bm_ 11 255) HT_ HW_ hHeld rfl (by rintro w' ⟨s0, s1, s2⟩; go_simp; with_reducible rfl) ?_
                      refine pu_ 8 30 (bm_ 11 511) HT_ ?_
                      refine pu_ 9 31 (bm_ 11 1023) HT_ ?_
                      refine pu_ 10 13 (bm_ 11 2047) HT_ ?_
                      refine done_ (done_of HT_.out (by kernel_rfl)) ?_
                      try go_wp2
                      replace HI0 := Aside0.mk (IsS66.drew HI0.out)
                      replace HK := Aside0.mk (keep_drew HK.out)
                      replace HB := Aside0.mk (below_drew1 HB.out)
                      refine start_ (n := 15) (S := fun w' => w'.cell? ⟨g, 0, none⟩ = some (.string t156) ∧ w'.cell? ⟨g, 1, none⟩ = some (.int .i64 t157) ∧ w'.cell? ⟨g, 2, none⟩ = some (.int .i64 t158)) (ds := [9, 10, 11, 12, 13, 14]) #[false, false, false, false, false, false, false, false, false, false, false, false, false, false, false] (by kernel_rfl) rfl rfl ⟨(cellS66_0 HI0.out.1), (cellS66_1 HI0.out.1), (cellS66_2 HI0.out.1)⟩ (fun hHeld => ?_); refine with_tabW class_reader_one.tab11 class_reader_one.bits11 (fun HT_ HW_ => ?_)
                      generalize w35.drew = w36 at HI0 HK HB hHeld ⊢
                      refine pu_ 0 35 (bm_ 15 1) HT_ ?_
                      refine pu_ 1 36 (bm_ 15 3) HT_ ?_
                      refine pu_ 2 37 (bm_ 15 7) HT_ ?_
                      refine pu_ 4 39 (bm_ 15 23) HT_ ?_
                      refine pu_ 5 40 (bm_ 15 55) HT_ ?_
                      refine pu_ 6 41 (bm_ 15 119) HT_ ?_
                      refine tk_ 3 38 (bm_ 15 127) HT_ HW_ hHeld rfl (by rintro w' ⟨s0, s1, s2⟩; go_simp; with_reducible rfl) ?_
                      refine tk_ 7 42 (bm_ 15 255) HT_ HW_ hHeld rfl (by rintro w' ⟨s0, s1, s2⟩; go_simp; with_reducible rfl) ?_
                      refine pu_ 8 43 (bm_ 15 511) HT_ ?_
                      refine last_ (i := 9) (N := some 44) #[true, true, true, true, true, true, true, true, true, true, false, false, false, false, false] rfl rfl (one_of HT_.out (by kernel_rfl)) (by decide) (fun K hK => ?_)
                      refine gs_ Tryz.func60 #[.string (t156.extract (t157 : Int).toNat t156.size)] ?_
                      with_reducible refine (utf8_DecodeRuneInString.calls (t156.extract (t157 : Int).toNat t156.size) t178 t179 _ A30.out).mono ?_
                      rintro e w37 ⟨rfl, hb⟩
                      refine ⟨_, rfl, ?_⟩
                      have n0_ := Aside0.mk (IsS66.below (by repeat (first | (with_reducible first | exact HI0.out | apply IsS66.alloc | apply IsS66.drewN | apply IsS66.drew | apply IsS66.set_0 | apply IsS66.set_1 | apply IsS66.set_2) | exact HI0.out)) hb)
                      have n1_ := Aside0.mk (KeepBut.trans (by repeat (first | (with_reducible first | exact HK.out | apply KeepBut.set_ | apply keep_drewN | apply keep_drew | apply keep_alloc) | exact HK.out)) (KeepBut.of_below hb g none) (.inl rfl))
                      have n2_ := Aside0.mk (below_step (by repeat (first | (with_reducible first | exact HB.out | apply below_alloc | apply pw_below_drewN | apply below_drew1 | refine below_set ?_ (IsS66.ge HI0.out)) | exact HB.out)) hb)
                      clear HI0
                      clear HK
                      clear HB
                      have HI0 := n0_
                      have HK := n1_
                      have HB := n2_
                      clear n0_ n1_ n2_
                      (try clear hb)
                      (try clear hb2)
                      (try clear hk)
                      (try clear hi)
                      refine hK.out _ _ ?_
                      clear hK K
                      refine nm_ 44 ?_
                      refine pu_ 10 34 (bm_ 15 2047) HT_ ?_
                      refine pu_ 11 45 (bm_ 15 4095) HT_ ?_
                      refine pu_ 12 46 (bm_ 15 8191) HT_ ?_
                      refine pu_ 13 4 (bm_ 15 16383) HT_ ?_
                      refine pu_ 14 5 (bm_ 15 32767) HT_ ?_
                      refine done_ (done_of HT_.out (by kernel_rfl)) ?_
                      try go_wp2_with (first | ((with_reducible refine gate_callee (f := 43) rfl ?_); refine gl_ (some 54) Tryz.func43 #[.pointer (some ⟨g, 0, none⟩)] ?_; (with_reducible refine (class_reader_fail.calls g t156 t157 t158 t180 t181 t182 w0 _ ?side1 ?side2 A33.out).mono ?_); (case side1 => repeat (first | (with_reducible first | exact HI0.out | apply IsS66.alloc | apply IsS66.drewN | apply IsS66.drew | apply IsS66.set_0 | apply IsS66.set_1 | apply IsS66.set_2) | exact HI0.out)); (case side2 => repeat (first | (with_reducible first | exact HB.out | apply below_alloc | apply pw_below_drewN | apply below_drew1 | refine below_set ?_ (IsS66.ge HI0.out)) | exact HB.out)); rintro e w38 ⟨rfl, hi, hb, hk⟩; refine ⟨_, rfl, ?_⟩; replace HK := Aside0.mk (KeepBut.trans (by repeat (first | (with_reducible first | exact HK.out | apply KeepBut.set_ | apply keep_drewN | apply keep_drew | apply keep_alloc) | exact HK.out)) hk (.inl rfl)); replace HB := Aside0.mk (hb); replace HI0 := Aside0.mk (hi); (try clear hb); (try clear hk); (try clear hi)))
                      go_ret
                      exact ⟨ew_, by repeat (first | (with_reducible first | exact HI0.out | apply IsS66.alloc | apply IsS66.drewN | apply IsS66.drew | apply IsS66.set_0 | apply IsS66.set_1 | apply IsS66.set_2) | exact HI0.out), by repeat (first | (with_reducible first | exact HB.out | apply below_alloc | apply pw_below_drewN | apply below_drew1 | refine below_set ?_ (IsS66.ge HI0.out)) | exact HB.out), by repeat (first | (with_reducible first | exact HK.out | apply KeepBut.set_ | apply keep_drewN | apply keep_drew | apply keep_alloc) | exact HK.out)⟩
                    · rw [if_neg c32] at H
                      have c32b0 : decide (t179 < 2) = false := decide_eq_false c32
                      clear c32
                      simp only [Option.some.injEq, Prod.mk.injEq] at H
                      obtain ⟨rfl, rfl, rfl, rfl⟩ := H
                      go_enter Tryz.func44, Tryz.ntmps44
                      try go_wp2_with (first | ((with_reducible refine gate_callee (f := 45) rfl ?_); refine gl_ (some 7) Tryz.func45 #[.pointer (some ⟨g, 0, none⟩)] ?_; (with_reducible refine (class_reader_peek.calls k g s0_0 s0_1 s0_2 t155 t156 t157 t158 w0 _ ?side1 ?side2 A2.out).mono ?_); (case side1 => repeat (first | (with_reducible first | exact HI0.out | apply IsS66.alloc | apply IsS66.drewN | apply IsS66.drew | apply IsS66.set_0 | apply IsS66.set_1 | apply IsS66.set_2) | exact HI0.out)); (case side2 => repeat (first | (with_reducible first | exact HB.out | apply below_alloc | apply pw_below_drewN | apply below_drew1 | refine below_set ?_ (IsS66.ge HI0.out)) | exact HB.out)); rintro e w39 ⟨rfl, hi, hb, hk⟩; refine ⟨_, rfl, ?_⟩; replace HK := Aside0.mk (KeepBut.trans (by repeat (first | (with_reducible first | exact HK.out | apply KeepBut.set_ | apply keep_drewN | apply keep_drew | apply keep_alloc) | exact HK.out)) hk (.inl rfl)); replace HB := Aside0.mk (hb); replace HI0 := Aside0.mk (hi); (try clear hb); (try clear hk); (try clear hi)))
                      replace HI0 := Aside0.mk (IsS66.drew HI0.out)
                      replace HK := Aside0.mk (keep_drew HK.out)
                      replace HB := Aside0.mk (below_drew1 HB.out)
                      refine start_ (n := 11) (S := fun w' => w'.cell? ⟨g, 0, none⟩ = some (.string t156) ∧ w'.cell? ⟨g, 1, none⟩ = some (.int .i64 t157) ∧ w'.cell? ⟨g, 2, none⟩ = some (.int .i64 t158)) (ds := []) #[false, false, false, false, false, false, false, false, false, false, false] (by kernel_rfl) rfl rfl ⟨(cellS66_0 HI0.out.1), (cellS66_1 HI0.out.1), (cellS66_2 HI0.out.1)⟩ (fun hHeld => ?_); refine with_tabW class_reader_one.tab8 class_reader_one.bits8 (fun HT_ HW_ => ?_)
                      generalize w39.drew = w40 at HI0 HK HB hHeld ⊢
                      refine pu_ 0 22 (bm_ 11 1) HT_ ?_
                      refine pu_ 1 23 (bm_ 11 3) HT_ ?_
                      refine pu_ 2 24 (bm_ 11 7) HT_ ?_
                      refine pu_ 4 26 (bm_ 11 23) HT_ ?_
                      refine pu_ 5 27 (bm_ 11 55) HT_ ?_
                      refine pu_ 6 28 (bm_ 11 119) HT_ ?_
                      refine tk_ 3 25 (bm_ 11 127) HT_ HW_ hHeld rfl (by rintro w' ⟨s0, s1, s2⟩; go_simp; with_reducible rfl) ?_
                      refine tk_ 7 29 (bm_ 11 255) HT_ HW_ hHeld rfl (by rintro w' ⟨s0, s1, s2⟩; go_simp; with_reducible rfl) ?_
                      refine pu_ 8 30 (bm_ 11 511) HT_ ?_
                      refine pu_ 9 31 (bm_ 11 1023) HT_ ?_
                      refine pu_ 10 13 (bm_ 11 2047) HT_ ?_
                      refine done_ (done_of HT_.out (by kernel_rfl)) ?_
                      try go_wp2
                      replace HI0 := Aside0.mk (IsS66.drew HI0.out)
                      replace HK := Aside0.mk (keep_drew HK.out)
                      replace HB := Aside0.mk (below_drew1 HB.out)
                      refine start_ (n := 15) (S := fun w' => w'.cell? ⟨g, 0, none⟩ = some (.string t156) ∧ w'.cell? ⟨g, 1, none⟩ = some (.int .i64 t157) ∧ w'.cell? ⟨g, 2, none⟩ = some (.int .i64 t158)) (ds := [9, 10, 11, 12, 13, 14]) #[false, false, false, false, false, false, false, false, false, false, false, false, false, false, false] (by kernel_rfl) rfl rfl ⟨(cellS66_0 HI0.out.1), (cellS66_1 HI0.out.1), (cellS66_2 HI0.out.1)⟩ (fun hHeld => ?_); refine with_tabW class_reader_one.tab11 class_reader_one.bits11 (fun HT_ HW_ => ?_)
                      generalize w40.drew = w41 at HI0 HK HB hHeld ⊢
                      refine pu_ 0 35 (bm_ 15 1) HT_ ?_
                      refine pu_ 1 36 (bm_ 15 3) HT_ ?_
                      refine pu_ 2 37 (bm_ 15 7) HT_ ?_
                      refine pu_ 4 39 (bm_ 15 23) HT_ ?_
                      refine pu_ 5 40 (bm_ 15 55) HT_ ?_
                      refine pu_ 6 41 (bm_ 15 119) HT_ ?_
                      refine tk_ 3 38 (bm_ 15 127) HT_ HW_ hHeld rfl (by rintro w' ⟨s0, s1, s2⟩; go_simp; with_reducible rfl) ?_
                      refine tk_ 7 42 (bm_ 15 255) HT_ HW_ hHeld rfl (by rintro w' ⟨s0, s1, s2⟩; go_simp; with_reducible rfl) ?_
                      refine pu_ 8 43 (bm_ 15 511) HT_ ?_
                      refine last_ (i := 9) (N := some 44) #[true, true, true, true, true, true, true, true, true, true, false, false, false, false, false] rfl rfl (one_of HT_.out (by kernel_rfl)) (by decide) (fun K hK => ?_)
                      refine gs_ Tryz.func60 #[.string (t156.extract (t157 : Int).toNat t156.size)] ?_
                      with_reducible refine (utf8_DecodeRuneInString.calls (t156.extract (t157 : Int).toNat t156.size) t178 t179 _ A30.out).mono ?_
                      rintro e w42 ⟨rfl, hb⟩
                      refine ⟨_, rfl, ?_⟩
                      have n0_ := Aside0.mk (IsS66.below (by repeat (first | (with_reducible first | exact HI0.out | apply IsS66.alloc | apply IsS66.drewN | apply IsS66.drew | apply IsS66.set_0 | apply IsS66.set_1 | apply IsS66.set_2) | exact HI0.out)) hb)
                      have n1_ := Aside0.mk (KeepBut.trans (by repeat (first | (with_reducible first | exact HK.out | apply KeepBut.set_ | apply keep_drewN | apply keep_drew | apply keep_alloc) | exact HK.out)) (KeepBut.of_below hb g none) (.inl rfl))
                      have n2_ := Aside0.mk (below_step (by repeat (first | (with_reducible first | exact HB.out | apply below_alloc | apply pw_below_drewN | apply below_drew1 | refine below_set ?_ (IsS66.ge HI0.out)) | exact HB.out)) hb)
                      clear HI0
                      clear HK
                      clear HB
                      have HI0 := n0_
                      have HK := n1_
                      have HB := n2_
                      clear n0_ n1_ n2_
                      (try clear hb)
                      (try clear hb2)
                      (try clear hk)
                      (try clear hi)
                      refine hK.out _ _ ?_
                      clear hK K
                      refine nm_ 44 ?_
                      refine pu_ 10 34 (bm_ 15 2047) HT_ ?_
                      refine pu_ 11 45 (bm_ 15 4095) HT_ ?_
                      refine pu_ 12 46 (bm_ 15 8191) HT_ ?_
                      refine pu_ 13 4 (bm_ 15 16383) HT_ ?_
                      refine pu_ 14 5 (bm_ 15 32767) HT_ ?_
                      refine done_ (done_of HT_.out (by kernel_rfl)) ?_
                      obtain ⟨HGz43, hgz43⟩ := HI0.out
                      have hcz43_0 := cellS66_0 HGz43
                      have hcz43_1 := cellS66_1 HGz43
                      have hcz43_2 := cellS66_2 HGz43
                      have hfz43_0 := blk_frozen HGz43 0
                      have hfz43_1 := blk_frozen HGz43 1
                      have hfz43_2 := blk_frozen HGz43 2
                      clear HGz43 hgz43
                      try go_wp2
                      go_ret
                      exact ⟨ew_, by repeat (first | (with_reducible first | exact HI0.out | apply IsS66.alloc | apply IsS66.drewN | apply IsS66.drew | apply IsS66.set_0 | apply IsS66.set_1 | apply IsS66.set_2) | exact HI0.out), by repeat (first | (with_reducible first | exact HB.out | apply below_alloc | apply pw_below_drewN | apply below_drew1 | refine below_set ?_ (IsS66.ge HI0.out)) | exact HB.out), by repeat (first | (with_reducible first | exact HK.out | apply KeepBut.set_ | apply keep_drewN | apply keep_drew | apply keep_alloc) | exact HK.out)⟩
                  · rw [if_neg c31] at H
                    have c31b0 : (t178 == 65533) = false := beq_eq_false_iff_ne.mpr c31
                    have c31b1 : (t178 != 65533) = true := bne_iff_ne.mpr c31
                    simp only [Option.some.injEq, Prod.mk.injEq] at H
                    obtain ⟨rfl, rfl, rfl, rfl⟩ := H
                    go_enter Tryz.func44, Tryz.ntmps44
                    try go_wp2_with (first | ((with_reducible refine gate_callee (f := 45) rfl ?_); refine gl_ (some 7) Tryz.func45 #[.pointer (some ⟨g, 0, none⟩)] ?_; (with_reducible refine (class_reader_peek.calls k g s0_0 s0_1 s0_2 t155 t156 t157 t158 w0 _ ?side1 ?side2 A2.out).mono ?_); (case side1 => repeat (first | (with_reducible first | exact HI0.out | apply IsS66.alloc | apply IsS66.drewN | apply IsS66.drew | apply IsS66.set_0 | apply IsS66.set_1 | apply IsS66.set_2) | exact HI0.out)); (case side2 => repeat (first | (with_reducible first | exact HB.out | apply below_alloc | apply pw_below_drewN | apply below_drew1 | refine below_set ?_ (IsS66.ge HI0.out)) | exact HB.out)); rintro e w44 ⟨rfl, hi, hb, hk⟩; refine ⟨_, rfl, ?_⟩; replace HK := Aside0.mk (KeepBut.trans (by repeat (first | (with_reducible first | exact HK.out | apply KeepBut.set_ | apply keep_drewN | apply keep_drew | apply keep_alloc) | exact HK.out)) hk (.inl rfl)); replace HB := Aside0.mk (hb); replace HI0 := Aside0.mk (hi); (try clear hb); (try clear hk); (try clear hi)))
                    replace HI0 := Aside0.mk (IsS66.drew HI0.out)
                    replace HK := Aside0.mk (keep_drew HK.out)
                    replace HB := Aside0.mk (below_drew1 HB.out)
                    refine start_ (n := 11) (S := fun w' => w'.cell? ⟨g, 0, none⟩ = some (.string t156) ∧ w'.cell? ⟨g, 1, none⟩ = some (.int .i64 t157) ∧ w'.cell? ⟨g, 2, none⟩ = some (.int .i64 t158)) (ds := []) #[false, false, false, false, false, false, false, false, false, false, false] (by kernel_rfl) rfl rfl ⟨(cellS66_0 HI0.out.1), (cellS66_1 HI0.out.1), (cellS66_2 HI0.out.1)⟩ (fun hHeld => ?_); refine with_tabW class_reader_one.tab8 class_reader_one.bits8 (fun HT_ HW_ => ?_)
                    generalize w44.drew = w45 at HI0 HK HB hHeld ⊢
                    refine pu_ 0 22 (bm_ 11 1) HT_ ?_
                    refine pu_ 1 23 (bm_ 11 3) HT_ ?_
                    refine pu_ 2 24 (bm_ 11 7) HT_ ?_
                    refine pu_ 4 26 (bm_ 11 23) HT_ ?_
                    refine pu_ 5 27 (bm_ 11 55) HT_ ?_
                    refine pu_ 6 28 (bm_ 11 119) HT_ ?_
                    refine tk_ 3 25 (bm_ 11 127) HT_ HW_ hHeld rfl (by rintro w' ⟨s0, s1, s2⟩; go_simp; with_reducible rfl) ?_
                    refine tk_ 7 29 (bm_ 11 255) HT_ HW_ hHeld rfl (by rintro w' ⟨s0, s1, s2⟩; go_simp; with_reducible rfl) ?_
                    refine pu_ 8 30 (bm_ 11 511) HT_ ?_
                    refine pu_ 9 31 (bm_ 11 1023) HT_ ?_
                    refine pu_ 10 13 (bm_ 11 2047) HT_ ?_
                    refine done_ (done_of HT_.out (by kernel_rfl)) ?_
                    try go_wp2
                    replace HI0 := Aside0.mk (IsS66.drew HI0.out)
                    replace HK := Aside0.mk (keep_drew HK.out)
                    replace HB := Aside0.mk (below_drew1 HB.out)
                    refine start_ (n := 15) (S := fun w' => w'.cell? ⟨g, 0, none⟩ = some (.string t156) ∧ w'.cell? ⟨g, 1, none⟩ = some (.int .i64 t157) ∧ w'.cell? ⟨g, 2, none⟩ = some (.int .i64 t158)) (ds := [9, 10, 11, 12, 13, 14]) #[false, false, false, false, false, false, false, false, false, false, false, false, false, false, false] (by kernel_rfl) rfl rfl ⟨(cellS66_0 HI0.out.1), (cellS66_1 HI0.out.1), (cellS66_2 HI0.out.1)⟩ (fun hHeld => ?_); refine with_tabW class_reader_one.tab11 class_reader_one.bits11 (fun HT_ HW_ => ?_)
                    generalize w45.drew = w46 at HI0 HK HB hHeld ⊢
                    refine pu_ 0 35 (bm_ 15 1) HT_ ?_
                    refine pu_ 1 36 (bm_ 15 3) HT_ ?_
                    refine pu_ 2 37 (bm_ 15 7) HT_ ?_
                    refine pu_ 4 39 (bm_ 15 23) HT_ ?_
                    refine pu_ 5 40 (bm_ 15 55) HT_ ?_
                    refine pu_ 6 41 (bm_ 15 119) HT_ ?_
                    refine tk_ 3 38 (bm_ 15 127) HT_ HW_ hHeld rfl (by rintro w' ⟨s0, s1, s2⟩; go_simp; with_reducible rfl) ?_
                    refine tk_ 7 42 (bm_ 15 255) HT_ HW_ hHeld rfl (by rintro w' ⟨s0, s1, s2⟩; go_simp; with_reducible rfl) ?_
                    refine pu_ 8 43 (bm_ 15 511) HT_ ?_
                    refine last_ (i := 9) (N := some 44) #[true, true, true, true, true, true, true, true, true, true, false, false, false, false, false] rfl rfl (one_of HT_.out (by kernel_rfl)) (by decide) (fun K hK => ?_)
                    refine gs_ Tryz.func60 #[.string (t156.extract (t157 : Int).toNat t156.size)] ?_
                    with_reducible refine (utf8_DecodeRuneInString.calls (t156.extract (t157 : Int).toNat t156.size) t178 t179 _ A30.out).mono ?_
                    rintro e w47 ⟨rfl, hb⟩
                    refine ⟨_, rfl, ?_⟩
                    have n0_ := Aside0.mk (IsS66.below (by repeat (first | (with_reducible first | exact HI0.out | apply IsS66.alloc | apply IsS66.drewN | apply IsS66.drew | apply IsS66.set_0 | apply IsS66.set_1 | apply IsS66.set_2) | exact HI0.out)) hb)
                    have n1_ := Aside0.mk (KeepBut.trans (by repeat (first | (with_reducible first | exact HK.out | apply KeepBut.set_ | apply keep_drewN | apply keep_drew | apply keep_alloc) | exact HK.out)) (KeepBut.of_below hb g none) (.inl rfl))
                    have n2_ := Aside0.mk (below_step (by repeat (first | (with_reducible first | exact HB.out | apply below_alloc | apply pw_below_drewN | apply below_drew1 | refine below_set ?_ (IsS66.ge HI0.out)) | exact HB.out)) hb)
                    clear HI0
                    clear HK
                    clear HB
                    have HI0 := n0_
                    have HK := n1_
                    have HB := n2_
                    clear n0_ n1_ n2_
                    (try clear hb)
                    (try clear hb2)
                    (try clear hk)
                    (try clear hi)
                    refine hK.out _ _ ?_
                    clear hK K
                    refine nm_ 44 ?_
                    refine pu_ 10 34 (bm_ 15 2047) HT_ ?_
                    refine pu_ 11 45 (bm_ 15 4095) HT_ ?_
                    refine pu_ 12 46 (bm_ 15 8191) HT_ ?_
                    refine pu_ 13 4 (bm_ 15 16383) HT_ ?_
                    refine pu_ 14 5 (bm_ 15 32767) HT_ ?_
                    refine done_ (done_of HT_.out (by kernel_rfl)) ?_
                    obtain ⟨HGz48, hgz48⟩ := HI0.out
                    have hcz48_0 := cellS66_0 HGz48
                    have hcz48_1 := cellS66_1 HGz48
                    have hcz48_2 := cellS66_2 HGz48
                    have hfz48_0 := blk_frozen HGz48 0
                    have hfz48_1 := blk_frozen HGz48 1
                    have hfz48_2 := blk_frozen HGz48 2
                    clear HGz48 hgz48
                    try go_wp2
                    go_ret
                    exact ⟨ew_, by repeat (first | (with_reducible first | exact HI0.out | apply IsS66.alloc | apply IsS66.drewN | apply IsS66.drew | apply IsS66.set_0 | apply IsS66.set_1 | apply IsS66.set_2) | exact HI0.out), by repeat (first | (with_reducible first | exact HB.out | apply below_alloc | apply pw_below_drewN | apply below_drew1 | refine below_set ?_ (IsS66.ge HI0.out)) | exact HB.out), by repeat (first | (with_reducible first | exact HK.out | apply KeepBut.set_ | apply keep_drewN | apply keep_drew | apply keep_alloc) | exact HK.out)⟩
                · rw [if_neg c29] at H
                  exact absurd H (by simp)
              · rw [if_neg c28] at H
                exact absurd H (by simp)

end Go.Proofs.YtnpohgoacbpcjaaGreatDoor.P
