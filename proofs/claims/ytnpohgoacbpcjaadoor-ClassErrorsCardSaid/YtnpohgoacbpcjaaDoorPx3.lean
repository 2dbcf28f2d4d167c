-- written by a program of this session (wip/p2)
import Derived.Test.YtnpohgoacbpcjaaDoorPx0
import Derived.Test.YtnpohgoacbpcjaaDoorPx1
import Derived.Test.YtnpohgoacbpcjaaDoorPx2
namespace Go.Proofs.YtnpohgoacbpcjaaDoor.P
open Go.RowKit Go.Proofs.YtnpohgoacbpcjaaDoorW.PrintWords Go.Proofs.YtnpohgoacbpcjaaDoorW.PrintLast Go.Proofs.YtnpohgoacbpcjaaDoorW.PrintMore
attribute [local go_sem] max2_int min2_int max_two min_two max_three min_three max_four min_four   -- for this text's walks alone
set_option linter.unusedVariables false
set_option linter.unusedSimpArgs false

/-! ### class_reader_one: function 17 -/
def class_reader_one.f (k : Nat) (s0_0 : ByteArray) (s0_1 : Int) (s0_2 : Int) : Option (Int × ByteArray × Int × Int) := (class_reader_peek.f k s0_0 s0_1 s0_2).bind fun bt127 => (if bt127.1 = 92 then ((class_reader_escape.f k bt127.2.1 bt127.2.2.1 bt127.2.2.2).bind fun bt131 => (some (bt131.1, bt131.2.1, bt131.2.2.1, bt131.2.2.2))) else (if bt127.1 = 91 then ((class_reader_fail.f bt127.2.1 bt127.2.2.1 bt127.2.2.2).bind fun bt135 => (some (0, bt135.1, bt135.2.1, bt135.2.2))) else (if bt127.1 = 93 then ((class_reader_fail.f bt127.2.1 bt127.2.2.1 bt127.2.2.2).bind fun bt138 => (some (0, bt138.1, bt138.2.1, bt138.2.2))) else (if bt127.1 = 45 then ((class_reader_fail.f bt127.2.1 bt127.2.2.1 bt127.2.2.2).bind fun bt141 => (some (0, bt141.1, bt141.2.1, bt141.2.2))) else (if bt127.1 = 94 then ((class_reader_fail.f bt127.2.1 bt127.2.2.1 bt127.2.2.2).bind fun bt144 => (some (0, bt144.1, bt144.2.1, bt144.2.2))) else (if bt127.2.2.1 = (bt127.2.1.size : Int) then ((class_reader_fail.f bt127.2.1 bt127.2.2.1 bt127.2.2.2).bind fun bt147 => (some (0, bt147.1, bt147.2.1, bt147.2.2))) else (if 0 ≤ bt127.2.2.1 then (if bt127.2.2.1 ≤ (bt127.2.1.size : Int) then ((utf8_DecodeRuneInString.f (bt127.2.1.extract (bt127.2.2.1 : Int).toNat bt127.2.1.size)).bind fun bt150 => (if bt150.1 = 65533 then (if bt150.2 < 2 then ((class_reader_fail.f bt127.2.1 bt127.2.2.1 bt127.2.2.2).bind fun bt152 => (some (0, bt152.1, bt152.2.1, bt152.2.2))) else (some (bt150.1, bt127.2.1, wrap64 (bt127.2.2.1 + bt150.2), bt127.2.2.2))) else (some (bt150.1, bt127.2.1, wrap64 (bt127.2.2.1 + bt150.2), bt127.2.2.2)))) else (none)) else (none))))))))
theorem class_reader_one.mono : ∀ a0 a1 a2 k, LeO (class_reader_one.f k a0 a1 a2) (class_reader_one.f (k + 1) a0 a1 a2) := by
  intro a0 a1 a2 k
  unfold class_reader_one.f
  repeat' first
      | (with_reducible exact class_reader_escape.mono _ _ _ _)
      | (with_reducible exact class_reader_peek.mono _ _ _ _)
      | (with_reducible exact LeO.refl _)
      | (with_reducible exact LeO.none _)
      | (with_reducible refine LeO.ite ?_ ?_)
      | (with_reducible refine LeO.bind ?_ (fun _ => ?_))
      | exact class_reader_escape.mono _ _ _ _
      | exact class_reader_peek.mono _ _ _ _
      | exact LeO.none _
      | refine LeO.ite ?_ ?_
      | refine LeO.bind ?_ (fun _ => ?_)
def class_reader_one.T8 : Bool × List (List Nat × List Nat) := (true, [([], []), ([0], [0]), ([1], [1]), ([2], [2]), ([], []), ([4], [4]), ([5], [5]), ([6], [6]), ([7], [7]), ([3, 8], [3, 8]), ([9], [9])])
def class_reader_one.B8 : List Nat := [0, 1, 3, 7, 0, 16, 48, 112, 240, 511, 1023]
theorem class_reader_one.tab8 : rtab .any (opsOf Tryd.f17 8) = class_reader_one.T8 := by kernel_rfl
theorem class_reader_one.bits8 : waitsOk class_reader_one.T8.2 class_reader_one.B8 = true := by kernel_rfl
def class_reader_one.T11 : Bool × List (List Nat × List Nat) := (true, [([], []), ([0], [0]), ([1], [1]), ([2], [2]), ([], []), ([4], [4]), ([5], [5]), ([6], [6]), ([3, 7], [3, 7]), ([8], [8]), ([9], [9]), ([10], [10]), ([10], [10]), ([11, 9, 0, 1, 2, 3, 4, 5, 6, 7, 8, 9, 10, 11], [11]), ([12, 13, 0, 1, 2, 3, 4, 5, 6, 7, 8, 9, 10, 11, 12, 13], [12])])
def class_reader_one.B11 : List Nat := [0, 1, 3, 7, 0, 16, 48, 112, 255, 511, 1023, 2047, 2047, 4095, 16383]
theorem class_reader_one.tab11 : rtab .any (opsOf Tryd.f17 11) = class_reader_one.T11 := by kernel_rfl
theorem class_reader_one.bits11 : waitsOk class_reader_one.T11.2 class_reader_one.B11 = true := by kernel_rfl
set_option maxHeartbeats 64000000 in
set_option maxRecDepth 100000 in
theorem class_reader_one.calls (k : Nat) (g : Nat) (s0_0 : ByteArray) (s0_1 : Int) (s0_2 : Int) (r1 : Int) (r2 : ByteArray) (r3 : Int) (r4 : Int) (w0 w : World) (hI : IsS36 w0 w g s0_0 s0_1 s0_2) (hB : Below w0.heap.size w0 w) (h : class_reader_one.f k s0_0 s0_1 s0_2 = some (r1, r2, r3, r4)) (ht : GTabs w0 := by first | assumption | exact gtb_ (by assumption) (bl_ (by assumption)).out) :
    Calls Tryd.prog 17 #[.pointer (some ⟨g, 0, none⟩)] w fun e w' => e = .returned (.int .i32 r1) ∧ IsS36 w0 w' g r2 r3 r4 ∧ Below w0.heap.size w0 w' ∧ KeepBut w w' g none := by
  have HI0 := Aside0.mk hI
  have HK := Aside0.mk (KeepBut.refl w g none)
  have HL := Aside0.mk hB.size
  clear hI
  have HW0 := Aside0.mk hB.size
  have HB := Aside0.mk hB
  clear hB
  have H : ((class_reader_peek.f k s0_0 s0_1 s0_2).bind fun bt127 => (if bt127.1 = 92 then ((class_reader_escape.f k bt127.2.1 bt127.2.2.1 bt127.2.2.2).bind fun bt131 => (some (bt131.1, bt131.2.1, bt131.2.2.1, bt131.2.2.2))) else (if bt127.1 = 91 then ((class_reader_fail.f bt127.2.1 bt127.2.2.1 bt127.2.2.2).bind fun bt135 => (some (0, bt135.1, bt135.2.1, bt135.2.2))) else (if bt127.1 = 93 then ((class_reader_fail.f bt127.2.1 bt127.2.2.1 bt127.2.2.2).bind fun bt138 => (some (0, bt138.1, bt138.2.1, bt138.2.2))) else (if bt127.1 = 45 then ((class_reader_fail.f bt127.2.1 bt127.2.2.1 bt127.2.2.2).bind fun bt141 => (some (0, bt141.1, bt141.2.1, bt141.2.2))) else (if bt127.1 = 94 then ((class_reader_fail.f bt127.2.1 bt127.2.2.1 bt127.2.2.2).bind fun bt144 => (some (0, bt144.1, bt144.2.1, bt144.2.2))) else (if bt127.2.2.1 = (bt127.2.1.size : Int) then ((class_reader_fail.f bt127.2.1 bt127.2.2.1 bt127.2.2.2).bind fun bt147 => (some (0, bt147.1, bt147.2.1, bt147.2.2))) else (if 0 ≤ bt127.2.2.1 then (if bt127.2.2.1 ≤ (bt127.2.1.size : Int) then ((utf8_DecodeRuneInString.f (bt127.2.1.extract (bt127.2.2.1 : Int).toNat bt127.2.1.size)).bind fun bt150 => (if bt150.1 = 65533 then (if bt150.2 < 2 then ((class_reader_fail.f bt127.2.1 bt127.2.2.1 bt127.2.2.2).bind fun bt152 => (some (0, bt152.1, bt152.2.1, bt152.2.2))) else (some (bt150.1, bt127.2.1, wrap64 (bt127.2.2.1 + bt150.2), bt127.2.2.2))) else (some (bt150.1, bt127.2.1, wrap64 (bt127.2.2.1 + bt150.2), bt127.2.2.2)))) else (none)) else (none))))))))) = some (r1, r2, r3, r4) := h
  clear h
  replace H := Option.bind_eq_some_iff.mp H
  obtain ⟨⟨t127, t128, t129, t130⟩, A20, H⟩ := H
  replace H : (if t127 = 92 then ((class_reader_escape.f k t128 t129 t130).bind fun bt131 => (some (bt131.1, bt131.2.1, bt131.2.2.1, bt131.2.2.2))) else (if t127 = 91 then ((class_reader_fail.f t128 t129 t130).bind fun bt135 => (some (0, bt135.1, bt135.2.1, bt135.2.2))) else (if t127 = 93 then ((class_reader_fail.f t128 t129 t130).bind fun bt138 => (some (0, bt138.1, bt138.2.1, bt138.2.2))) else (if t127 = 45 then ((class_reader_fail.f t128 t129 t130).bind fun bt141 => (some (0, bt141.1, bt141.2.1, bt141.2.2))) else (if t127 = 94 then ((class_reader_fail.f t128 t129 t130).bind fun bt144 => (some (0, bt144.1, bt144.2.1, bt144.2.2))) else (if t129 = (t128.size : Int) then ((class_reader_fail.f t128 t129 t130).bind fun bt147 => (some (0, bt147.1, bt147.2.1, bt147.2.2))) else (if 0 ≤ t129 then (if t129 ≤ (t128.size : Int) then ((utf8_DecodeRuneInString.f (t128.extract (t129 : Int).toNat t128.size)).bind fun bt150 => (if bt150.1 = 65533 then (if bt150.2 < 2 then ((class_reader_fail.f t128 t129 t130).bind fun bt152 => (some (0, bt152.1, bt152.2.1, bt152.2.2))) else (some (bt150.1, t128, wrap64 (t129 + bt150.2), t130))) else (some (bt150.1, t128, wrap64 (t129 + bt150.2), t130)))) else (none)) else (none)))))))) = some (r1, r2, r3, r4) := H
  have A2 := Aside0.mk A20
  clear A20
  by_cases c3 : t127 = 92
  · rw [if_pos c3] at H
    have c3b0 : (t127 == 92) = true := beq_iff_eq.mpr c3
    have c3b1 : (t127 != 92) = false := bne_eq_false_iff_eq.mpr c3
    clear c3
    replace H := Option.bind_eq_some_iff.mp H
    obtain ⟨⟨t131, t132, t133, t134⟩, A40, H⟩ := H
    replace H : (some (t131, t132, t133, t134)) = some (r1, r2, r3, r4) := H
    have A4 := Aside0.mk A40
    clear A40
    simp only [Option.some.injEq, Prod.mk.injEq] at H
    obtain ⟨rfl, rfl, rfl, rfl⟩ := H
    go_enter Tryd.func17, Tryd.ntmps17
    go_wp2_with (first | ((with_reducible refine gate_callee (f := 18) rfl ?_); refine gl_ (some 7) Tryd.func18 #[.pointer (some ⟨g, 0, none⟩)] ?_; (with_reducible refine (class_reader_peek.calls k g s0_0 s0_1 s0_2 t127 t128 t129 t130 w0 _ ?side1 ?side2 A2.out).mono ?_); (case side1 => repeat (first | (with_reducible first | exact HI0.out | apply IsS36.alloc | apply IsS36.drewN | apply IsS36.drew | apply IsS36.set_0 | apply IsS36.set_1 | apply IsS36.set_2) | exact HI0.out)); (case side2 => repeat (first | (with_reducible first | exact HB.out | apply below_alloc | apply pw_below_drewN | apply below_drew1 | refine below_set ?_ (IsS36.ge HI0.out)) | exact HB.out)); rintro e w5 ⟨rfl, hi, hb, hk⟩; refine ⟨_, rfl, ?_⟩; replace HK := Aside0.mk (KeepBut.trans (by repeat (first | (with_reducible first | exact HK.out | apply KeepBut.set_ | apply keep_drewN | apply keep_drew | apply keep_alloc) | exact HK.out)) hk (.inl rfl)); replace HB := Aside0.mk (hb); replace HI0 := Aside0.mk (hi); (try clear hb); (try clear hk); (try clear hi)) | ((with_reducible refine gate_callee (f := 23) rfl ?_); refine gl_ (some 12) Tryd.func23 #[.pointer (some ⟨g, 0, none⟩)] ?_; (with_reducible refine (class_reader_escape.calls k g t128 t129 t130 t131 t132 t133 t134 w0 _ ?side1 ?side2 A4.out).mono ?_); (case side1 => repeat (first | (with_reducible first | exact HI0.out | apply IsS36.alloc | apply IsS36.drewN | apply IsS36.drew | apply IsS36.set_0 | apply IsS36.set_1 | apply IsS36.set_2) | exact HI0.out)); (case side2 => repeat (first | (with_reducible first | exact HB.out | apply below_alloc | apply pw_below_drewN | apply below_drew1 | refine below_set ?_ (IsS36.ge HI0.out)) | exact HB.out)); rintro e w6 ⟨rfl, hi, hb, hk⟩; refine ⟨_, rfl, ?_⟩; replace HK := Aside0.mk (KeepBut.trans (by repeat (first | (with_reducible first | exact HK.out | apply KeepBut.set_ | apply keep_drewN | apply keep_drew | apply keep_alloc) | exact HK.out)) hk (.inl rfl)); replace HB := Aside0.mk (hb); replace HI0 := Aside0.mk (hi); (try clear hb); (try clear hk); (try clear hi)))
    go_ret
    exact ⟨ew_, by repeat (first | (with_reducible first | exact HI0.out | apply IsS36.alloc | apply IsS36.drewN | apply IsS36.drew | apply IsS36.set_0 | apply IsS36.set_1 | apply IsS36.set_2) | exact HI0.out), by repeat (first | (with_reducible first | exact HB.out | apply below_alloc | apply pw_below_drewN | apply below_drew1 | refine below_set ?_ (IsS36.ge HI0.out)) | exact HB.out), by repeat (first | (with_reducible first | exact HK.out | apply KeepBut.set_ | apply keep_drewN | apply keep_drew | apply keep_alloc) | exact HK.out)⟩
  · rw [if_neg c3] at H
    have c3b0 : (t127 == 92) = false := beq_eq_false_iff_ne.mpr c3
    have c3b1 : (t127 != 92) = true := bne_iff_ne.mpr c3
    by_cases c7 : t127 = 91
    · rw [if_pos c7] at H
      have c7b0 : (t127 == 91) = true := beq_iff_eq.mpr c7
      have c7b1 : (t127 != 91) = false := bne_eq_false_iff_eq.mpr c7
      clear c7
      replace H := Option.bind_eq_some_iff.mp H
      obtain ⟨⟨t135, t136, t137⟩, A80, H⟩ := H
      replace H : (some (0, t135, t136, t137)) = some (r1, r2, r3, r4) := H
      have A8 := Aside0.mk A80
      clear A80
      simp only [Option.some.injEq, Prod.mk.injEq] at H
      obtain ⟨rfl, rfl, rfl, rfl⟩ := H
      go_enter Tryd.func17, Tryd.ntmps17
      go_wp2_with (first | ((with_reducible refine gate_callee (f := 18) rfl ?_); refine gl_ (some 7) Tryd.func18 #[.pointer (some ⟨g, 0, none⟩)] ?_; (with_reducible refine (class_reader_peek.calls k g s0_0 s0_1 s0_2 t127 t128 t129 t130 w0 _ ?side1 ?side2 A2.out).mono ?_); (case side1 => repeat (first | (with_reducible first | exact HI0.out | apply IsS36.alloc | apply IsS36.drewN | apply IsS36.drew | apply IsS36.set_0 | apply IsS36.set_1 | apply IsS36.set_2) | exact HI0.out)); (case side2 => repeat (first | (with_reducible first | exact HB.out | apply below_alloc | apply pw_below_drewN | apply below_drew1 | refine below_set ?_ (IsS36.ge HI0.out)) | exact HB.out)); rintro e w9 ⟨rfl, hi, hb, hk⟩; refine ⟨_, rfl, ?_⟩; replace HK := Aside0.mk (KeepBut.trans (by repeat (first | (with_reducible first | exact HK.out | apply KeepBut.set_ | apply keep_drewN | apply keep_drew | apply keep_alloc) | exact HK.out)) hk (.inl rfl)); replace HB := Aside0.mk (hb); replace HI0 := Aside0.mk (hi); (try clear hb); (try clear hk); (try clear hi)) | ((with_reducible refine gate_callee (f := 16) rfl ?_); refine gl_ (some 33) Tryd.func16 #[.pointer (some ⟨g, 0, none⟩)] ?_; (with_reducible refine (class_reader_fail.calls g t128 t129 t130 t135 t136 t137 w0 _ ?side1 ?side2 A8.out).mono ?_); (case side1 => repeat (first | (with_reducible first | exact HI0.out | apply IsS36.alloc | apply IsS36.drewN | apply IsS36.drew | apply IsS36.set_0 | apply IsS36.set_1 | apply IsS36.set_2) | exact HI0.out)); (case side2 => repeat (first | (with_reducible first | exact HB.out | apply below_alloc | apply pw_below_drewN | apply below_drew1 | refine below_set ?_ (IsS36.ge HI0.out)) | exact HB.out)); rintro e w10 ⟨rfl, hi, hb, hk⟩; refine ⟨_, rfl, ?_⟩; replace HK := Aside0.mk (KeepBut.trans (by repeat (first | (with_reducible first | exact HK.out | apply KeepBut.set_ | apply keep_drewN | apply keep_drew | apply keep_alloc) | exact HK.out)) hk (.inl rfl)); replace HB := Aside0.mk (hb); replace HI0 := Aside0.mk (hi); (try clear hb); (try clear hk); (try clear hi)))
      go_ret
      exact ⟨ew_, by repeat (first | (with_reducible first | exact HI0.out | apply IsS36.alloc | apply IsS36.drewN | apply IsS36.drew | apply IsS36.set_0 | apply IsS36.set_1 | apply IsS36.set_2) | exact HI0.out), by repeat (first | (with_reducible first | exact HB.out | apply below_alloc | apply pw_below_drewN | apply below_drew1 | refine below_set ?_ (IsS36.ge HI0.out)) | exact HB.out), by repeat (first | (with_reducible first | exact HK.out | apply KeepBut.set_ | apply keep_drewN | apply keep_drew | apply keep_alloc) | exact HK.out)⟩
    · rw [if_neg c7] at H
      have c7b0 : (t127 == 91) = false := beq_eq_false_iff_ne.mpr c7
      have c7b1 : (t127 != 91) = true := bne_iff_ne.mpr c7
      by_cases c11 : t127 = 93
      · rw [if_pos c11] at H
        have c11b0 : (t127 == 93) = true := beq_iff_eq.mpr c11
        have c11b1 : (t127 != 93) = false := bne_eq_false_iff_eq.mpr c11
        clear c11
        replace H := Option.bind_eq_some_iff.mp H
        obtain ⟨⟨t138, t139, t140⟩, A120, H⟩ := H
        replace H : (some (0, t138, t139, t140)) = some (r1, r2, r3, r4) := H
        have A12 := Aside0.mk A120
        clear A120
        simp only [Option.some.injEq, Prod.mk.injEq] at H
        obtain ⟨rfl, rfl, rfl, rfl⟩ := H
        go_enter Tryd.func17, Tryd.ntmps17
        go_wp2_with (first | ((with_reducible refine gate_callee (f := 18) rfl ?_); refine gl_ (some 7) Tryd.func18 #[.pointer (some ⟨g, 0, none⟩)] ?_; (with_reducible refine (class_reader_peek.calls k g s0_0 s0_1 s0_2 t127 t128 t129 t130 w0 _ ?side1 ?side2 A2.out).mono ?_); (case side1 => repeat (first | (with_reducible first | exact HI0.out | apply IsS36.alloc | apply IsS36.drewN | apply IsS36.drew | apply IsS36.set_0 | apply IsS36.set_1 | apply IsS36.set_2) | exact HI0.out)); (case side2 => repeat (first | (with_reducible first | exact HB.out | apply below_alloc | apply pw_below_drewN | apply below_drew1 | refine below_set ?_ (IsS36.ge HI0.out)) | exact HB.out)); rintro e w13 ⟨rfl, hi, hb, hk⟩; refine ⟨_, rfl, ?_⟩; replace HK := Aside0.mk (KeepBut.trans (by repeat (first | (with_reducible first | exact HK.out | apply KeepBut.set_ | apply keep_drewN | apply keep_drew | apply keep_alloc) | exact HK.out)) hk (.inl rfl)); replace HB := Aside0.mk (hb); replace HI0 := Aside0.mk (hi); (try clear hb); (try clear hk); (try clear hi)) | ((with_reducible refine gate_callee (f := 16) rfl ?_); refine gl_ (some 33) Tryd.func16 #[.pointer (some ⟨g, 0, none⟩)] ?_; (with_reducible refine (class_reader_fail.calls g t128 t129 t130 t138 t139 t140 w0 _ ?side1 ?side2 A12.out).mono ?_); (case side1 => repeat (first | (with_reducible first | exact HI0.out | apply IsS36.alloc | apply IsS36.drewN | apply IsS36.drew | apply IsS36.set_0 | apply IsS36.set_1 | apply IsS36.set_2) | exact HI0.out)); (case side2 => repeat (first | (with_reducible first | exact HB.out | apply below_alloc | apply pw_below_drewN | apply below_drew1 | refine below_set ?_ (IsS36.ge HI0.out)) | exact HB.out)); rintro e w14 ⟨rfl, hi, hb, hk⟩; refine ⟨_, rfl, ?_⟩; replace HK := Aside0.mk (KeepBut.trans (by repeat (first | (with_reducible first | exact HK.out | apply KeepBut.set_ | apply keep_drewN | apply keep_drew | apply keep_alloc) | exact HK.out)) hk (.inl rfl)); replace HB := Aside0.mk (hb); replace HI0 := Aside0.mk (hi); (try clear hb); (try clear hk); (try clear hi)))
        go_ret
        exact ⟨ew_, by repeat (first | (with_reducible first | exact HI0.out | apply IsS36.alloc | apply IsS36.drewN | apply IsS36.drew | apply IsS36.set_0 | apply IsS36.set_1 | apply IsS36.set_2) | exact HI0.out), by repeat (first | (with_reducible first | exact HB.out | apply below_alloc | apply pw_below_drewN | apply below_drew1 | refine below_set ?_ (IsS36.ge HI0.out)) | exact HB.out), by repeat (first | (with_reducible first | exact HK.out | apply KeepBut.set_ | apply keep_drewN | apply keep_drew | apply keep_alloc) | exact HK.out)⟩
      · rw [if_neg c11] at H
        have c11b0 : (t127 == 93) = false := beq_eq_false_iff_ne.mpr c11
        have c11b1 : (t127 != 93) = true := bne_iff_ne.mpr c11
        by_cases c15 : t127 = 45
        · rw [if_pos c15] at H
          have c15b0 : (t127 == 45) = true := beq_iff_eq.mpr c15
          have c15b1 : (t127 != 45) = false := bne_eq_false_iff_eq.mpr c15
          clear c15
          replace H := Option.bind_eq_some_iff.mp H
          obtain ⟨⟨t141, t142, t143⟩, A160, H⟩ := H
          replace H : (some (0, t141, t142, t143)) = some (r1, r2, r3, r4) := H
          have A16 := Aside0.mk A160
          clear A160
          simp only [Option.some.injEq, Prod.mk.injEq] at H
          obtain ⟨rfl, rfl, rfl, rfl⟩ := H
          go_enter Tryd.func17, Tryd.ntmps17
          go_wp2_with (first | ((with_reducible refine gate_callee (f := 18) rfl ?_); refine gl_ (some 7) Tryd.func18 #[.pointer (some ⟨g, 0, none⟩)] ?_; (with_reducible refine (class_reader_peek.calls k g s0_0 s0_1 s0_2 t127 t128 t129 t130 w0 _ ?side1 ?side2 A2.out).mono ?_); (case side1 => repeat (first | (with_reducible first | exact HI0.out | apply IsS36.alloc | apply IsS36.drewN | apply IsS36.drew | apply IsS36.set_0 | apply IsS36.set_1 | apply IsS36.set_2) | exact HI0.out)); (case side2 => repeat (first | (with_reducible first | exact HB.out | apply below_alloc | apply pw_below_drewN | apply below_drew1 | refine below_set ?_ (IsS36.ge HI0.out)) | exact HB.out)); rintro e w17 ⟨rfl, hi, hb, hk⟩; refine ⟨_, rfl, ?_⟩; replace HK := Aside0.mk (KeepBut.trans (by repeat (first | (with_reducible first | exact HK.out | apply KeepBut.set_ | apply keep_drewN | apply keep_drew | apply keep_alloc) | exact HK.out)) hk (.inl rfl)); replace HB := Aside0.mk (hb); replace HI0 := Aside0.mk (hi); (try clear hb); (try clear hk); (try clear hi)) | ((with_reducible refine gate_callee (f := 16) rfl ?_); refine gl_ (some 33) Tryd.func16 #[.pointer (some ⟨g, 0, none⟩)] ?_; (with_reducible refine (class_reader_fail.calls g t128 t129 t130 t141 t142 t143 w0 _ ?side1 ?side2 A16.out).mono ?_); (case side1 => repeat (first | (with_reducible first | exact HI0.out | apply IsS36.alloc | apply IsS36.drewN | apply IsS36.drew | apply IsS36.set_0 | apply IsS36.set_1 | apply IsS36.set_2) | exact HI0.out)); (case side2 => repeat (first | (with_reducible first | exact HB.out | apply below_alloc | apply pw_below_drewN | apply below_drew1 | refine below_set ?_ (IsS36.ge HI0.out)) | exact HB.out)); rintro e w18 ⟨rfl, hi, hb, hk⟩; refine ⟨_, rfl, ?_⟩; replace HK := Aside0.mk (KeepBut.trans (by repeat (first | (with_reducible first | exact HK.out | apply KeepBut.set_ | apply keep_drewN | apply keep_drew | apply keep_alloc) | exact HK.out)) hk (.inl rfl)); replace HB := Aside0.mk (hb); replace HI0 := Aside0.mk (hi); (try clear hb); (try clear hk); (try clear hi)))
          go_ret
          exact ⟨ew_, by repeat (first | (with_reducible first | exact HI0.out | apply IsS36.alloc | apply IsS36.drewN | apply IsS36.drew | apply IsS36.set_0 | apply IsS36.set_1 | apply IsS36.set_2) | exact HI0.out), by repeat (first | (with_reducible first | exact HB.out | apply below_alloc | apply pw_below_drewN | apply below_drew1 | refine below_set ?_ (IsS36.ge HI0.out)) | exact HB.out), by repeat (first | (with_reducible first | exact HK.out | apply KeepBut.set_ | apply keep_drewN | apply keep_drew | apply keep_alloc) | exact HK.out)⟩
        · rw [if_neg c15] at H
          have c15b0 : (t127 == 45) = false := beq_eq_false_iff_ne.mpr c15
          have c15b1 : (t127 != 45) = true := bne_iff_ne.mpr c15
          by_cases c19 : t127 = 94
          · rw [if_pos c19] at H
            have c19b0 : (t127 == 94) = true := beq_iff_eq.mpr c19
            have c19b1 : (t127 != 94) = false := bne_eq_false_iff_eq.mpr c19
            clear c19
            replace H := Option.bind_eq_some_iff.mp H
            obtain ⟨⟨t144, t145, t146⟩, A200, H⟩ := H
            replace H : (some (0, t144, t145, t146)) = some (r1, r2, r3, r4) := H
            have A20 := Aside0.mk A200
            clear A200
            simp only [Option.some.injEq, Prod.mk.injEq] at H
            obtain ⟨rfl, rfl, rfl, rfl⟩ := H
            go_enter Tryd.func17, Tryd.ntmps17
            go_wp2_with (first | ((with_reducible refine gate_callee (f := 18) rfl ?_); refine gl_ (some 7) Tryd.func18 #[.pointer (some ⟨g, 0, none⟩)] ?_; (with_reducible refine (class_reader_peek.calls k g s0_0 s0_1 s0_2 t127 t128 t129 t130 w0 _ ?side1 ?side2 A2.out).mono ?_); (case side1 => repeat (first | (with_reducible first | exact HI0.out | apply IsS36.alloc | apply IsS36.drewN | apply IsS36.drew | apply IsS36.set_0 | apply IsS36.set_1 | apply IsS36.set_2) | exact HI0.out)); (case side2 => repeat (first | (with_reducible first | exact HB.out | apply below_alloc | apply pw_below_drewN | apply below_drew1 | refine below_set ?_ (IsS36.ge HI0.out)) | exact HB.out)); rintro e w21 ⟨rfl, hi, hb, hk⟩; refine ⟨_, rfl, ?_⟩; replace HK := Aside0.mk (KeepBut.trans (by repeat (first | (with_reducible first | exact HK.out | apply KeepBut.set_ | apply keep_drewN | apply keep_drew | apply keep_alloc) | exact HK.out)) hk (.inl rfl)); replace HB := Aside0.mk (hb); replace HI0 := Aside0.mk (hi); (try clear hb); (try clear hk); (try clear hi)) | ((with_reducible refine gate_callee (f := 16) rfl ?_); refine gl_ (some 33) Tryd.func16 #[.pointer (some ⟨g, 0, none⟩)] ?_; (with_reducible refine (class_reader_fail.calls g t128 t129 t130 t144 t145 t146 w0 _ ?side1 ?side2 A20.out).mono ?_); (case side1 => repeat (first | (with_reducible first | exact HI0.out | apply IsS36.alloc | apply IsS36.drewN | apply IsS36.drew | apply IsS36.set_0 | apply IsS36.set_1 | apply IsS36.set_2) | exact HI0.out)); (case side2 => repeat (first | (with_reducible first | exact HB.out | apply below_alloc | apply pw_below_drewN | apply below_drew1 | refine below_set ?_ (IsS36.ge HI0.out)) | exact HB.out)); rintro e w22 ⟨rfl, hi, hb, hk⟩; refine ⟨_, rfl, ?_⟩; replace HK := Aside0.mk (KeepBut.trans (by repeat (first | (with_reducible first | exact HK.out | apply KeepBut.set_ | apply keep_drewN | apply keep_drew | apply keep_alloc) | exact HK.out)) hk (.inl rfl)); replace HB := Aside0.mk (hb); replace HI0 := Aside0.mk (hi); (try clear hb); (try clear hk); (try clear hi)))
            go_ret
            exact ⟨ew_, by repeat (first | (with_reducible first | exact HI0.out | apply IsS36.alloc | apply IsS36.drewN | apply IsS36.drew | apply IsS36.set_0 | apply IsS36.set_1 | apply IsS36.set_2) | exact HI0.out), by repeat (first | (with_reducible first | exact HB.out | apply below_alloc | apply pw_below_drewN | apply below_drew1 | refine below_set ?_ (IsS36.ge HI0.out)) | exact HB.out), by repeat (first | (with_reducible first | exact HK.out | apply KeepBut.set_ | apply keep_drewN | apply keep_drew | apply keep_alloc) | exact HK.out)⟩
          · rw [if_neg c19] at H
            have c19b0 : (t127 == 94) = false := beq_eq_false_iff_ne.mpr c19
            have c19b1 : (t127 != 94) = true := bne_iff_ne.mpr c19
            by_cases c23 : t129 = (t128.size : Int)
            · rw [if_pos c23] at H
              have c23b0 : (t129 == (t128.size : Int)) = true := beq_iff_eq.mpr c23
              have c23b1 : (t129 != (t128.size : Int)) = false := bne_eq_false_iff_eq.mpr c23
              clear c23
              replace H := Option.bind_eq_some_iff.mp H
              obtain ⟨⟨t147, t148, t149⟩, A240, H⟩ := H
              replace H : (some (0, t147, t148, t149)) = some (r1, r2, r3, r4) := H
              have A24 := Aside0.mk A240
              clear A240
              simp only [Option.some.injEq, Prod.mk.injEq] at H
              obtain ⟨rfl, rfl, rfl, rfl⟩ := H
              go_enter Tryd.func17, Tryd.ntmps17
              try go_wp2_with (first | ((with_reducible refine gate_callee (f := 18) rfl ?_); refine gl_ (some 7) Tryd.func18 #[.pointer (some ⟨g, 0, none⟩)] ?_; (with_reducible refine (class_reader_peek.calls k g s0_0 s0_1 s0_2 t127 t128 t129 t130 w0 _ ?side1 ?side2 A2.out).mono ?_); (case side1 => repeat (first | (with_reducible first | exact HI0.out | apply IsS36.alloc | apply IsS36.drewN | apply IsS36.drew | apply IsS36.set_0 | apply IsS36.set_1 | apply IsS36.set_2) | exact HI0.out)); (case side2 => repeat (first | (with_reducible first | exact HB.out | apply below_alloc | apply pw_below_drewN | apply below_drew1 | refine below_set ?_ (IsS36.ge HI0.out)) | exact HB.out)); rintro e w25 ⟨rfl, hi, hb, hk⟩; refine ⟨_, rfl, ?_⟩; replace HK := Aside0.mk (KeepBut.trans (by repeat (first | (with_reducible first | exact HK.out | apply KeepBut.set_ | apply keep_drewN | apply keep_drew | apply keep_alloc) | exact HK.out)) hk (.inl rfl)); replace HB := Aside0.mk (hb); replace HI0 := Aside0.mk (hi); (try clear hb); (try clear hk); (try clear hi)))
              replace HI0 := Aside0.mk (IsS36.drew HI0.out)
              replace HK := Aside0.mk (keep_drew HK.out)
              replace HB := Aside0.mk (below_drew1 HB.out)
              refine start_ (n := 11) (S := fun w' => w'.cell? ⟨g, 0, none⟩ = some (.string t128) ∧ w'.cell? ⟨g, 1, none⟩ = some (.int .i64 t129) ∧ w'.cell? ⟨g, 2, none⟩ = some (.int .i64 t130)) (ds := []) #[false, false, false, false, false, false, false, false, false, false, false] (by kernel_rfl) rfl rfl ⟨(cellS36_0 HI0.out.1), (cellS36_1 HI0.out.1), (cellS36_2 HI0.out.1)⟩ (fun hHeld => ?_); refine with_tabW class_reader_one.tab8 class_reader_one.bits8 (fun HT_ HW_ => ?_)
              generalize w25.drew = w26 at HI0 HK HB hHeld ⊢
              refine pu_ 0 22 (bm_ 11 1) HT_ ?_
              refine pu_ 1 23 (bm_ 11 3) HT_ ?_
              refine pu_ 2 24 (bm_ 11 7) HT_ ?_
              refine pu_ 4 26 (bm_ 11 23) HT_ ?_
              refine pu_ 5 27 (bm_ 11 55) HT_ ?_
              refine pu_ 6 28 (bm_ 11 119) HT_ ?_
              refine tk_ 3 25 (bm_ 11 127) HT_ HW_ hHeld rfl (by rintro w' ⟨s0, s1, s2⟩; go_simp; with_reducible rfl) ?_
              refine tk_ 7 29 (bm_ 11 255) HT_ HW_ hHeld rfl (by rintro w' ⟨s0, s1, s2⟩; go_simp; with_reducible rfl) ?_
              refine pu_ 8 30 (bm_ 11 511) HT_ ?_
              refine pu_ 9 31 (bm_ 11 1023) HT_ ?_
              refine pu_ 10 13 (bm_ 11 2047) HT_ ?_
              refine done_ (done_of HT_.out (by kernel_rfl)) ?_
              try go_wp2_with (first | ((with_reducible refine gate_callee (f := 16) rfl ?_); refine gl_ (some 33) Tryd.func16 #[.pointer (some ⟨g, 0, none⟩)] ?_; (with_reducible refine (class_reader_fail.calls g t128 t129 t130 t147 t148 t149 w0 _ ?side1 ?side2 A24.out).mono ?_); (case side1 => repeat (first | (with_reducible first | exact HI0.out | apply IsS36.alloc | apply IsS36.drewN | apply IsS36.drew | apply IsS36.set_0 | apply IsS36.set_1 | apply IsS36.set_2) | exact HI0.out)); (case side2 => repeat (first | (with_reducible first | exact HB.out | apply below_alloc | apply pw_below_drewN | apply below_drew1 | refine below_set ?_ (IsS36.ge HI0.out)) | exact HB.out)); rintro e w27 ⟨rfl, hi, hb, hk⟩; refine ⟨_, rfl, ?_⟩; replace HK := Aside0.mk (KeepBut.trans (by repeat (first | (with_reducible first | exact HK.out | apply KeepBut.set_ | apply keep_drewN | apply keep_drew | apply keep_alloc) | exact HK.out)) hk (.inl rfl)); replace HB := Aside0.mk (hb); replace HI0 := Aside0.mk (hi); (try clear hb); (try clear hk); (try clear hi)))
              go_ret
              exact ⟨ew_, by repeat (first | (with_reducible first | exact HI0.out | apply IsS36.alloc | apply IsS36.drewN | apply IsS36.drew | apply IsS36.set_0 | apply IsS36.set_1 | apply IsS36.set_2) | exact HI0.out), by repeat (first | (with_reducible first | exact HB.out | apply below_alloc | apply pw_below_drewN | apply below_drew1 | refine below_set ?_ (IsS36.ge HI0.out)) | exact HB.out), by repeat (first | (with_reducible first | exact HK.out | apply KeepBut.set_ | apply keep_drewN | apply keep_drew | apply keep_alloc) | exact HK.out)⟩
            · rw [if_neg c23] at H
              have c23b0 : (t129 == (t128.size : Int)) = false := beq_eq_false_iff_ne.mpr c23
              have c23b1 : (t129 != (t128.size : Int)) = true := bne_iff_ne.mpr c23
              by_cases c28 : 0 ≤ t129
              · rw [if_pos c28] at H
                have c28b0 := eq_true c28
                have c28b1 : decide (0 ≤ t129) = true := decide_eq_true c28
                clear c28
                by_cases c29 : t129 ≤ (t128.size : Int)
                · rw [if_pos c29] at H
                  have c29b0 := eq_true c29
                  have c29b1 : decide (t129 ≤ (t128.size : Int)) = true := decide_eq_true c29
                  clear c29
                  replace H := Option.bind_eq_some_iff.mp H
                  obtain ⟨⟨t150, t151⟩, A300, H⟩ := H
                  replace H : (if t150 = 65533 then (if t151 < 2 then ((class_reader_fail.f t128 t129 t130).bind fun bt152 => (some (0, bt152.1, bt152.2.1, bt152.2.2))) else (some (t150, t128, wrap64 (t129 + t151), t130))) else (some (t150, t128, wrap64 (t129 + t151), t130))) = some (r1, r2, r3, r4) := H
                  have A30 := Aside0.mk A300
                  clear A300
                  by_cases c31 : t150 = 65533
                  · rw [if_pos c31] at H
                    have c31b0 : (t150 == 65533) = true := beq_iff_eq.mpr c31
                    have c31b1 : (t150 != 65533) = false := bne_eq_false_iff_eq.mpr c31
                    clear c31
                    by_cases c32 : t151 < 2
                    · rw [if_pos c32] at H
                      have c32b0 : decide (t151 < 2) = true := decide_eq_true c32
                      clear c32
                      replace H := Option.bind_eq_some_iff.mp H
                      obtain ⟨⟨t152, t153, t154⟩, A330, H⟩ := H
                      replace H : (some (0, t152, t153, t154)) = some (r1, r2, r3, r4) := H
                      have A33 := Aside0.mk A330
                      clear A330
                      simp only [Option.some.injEq, Prod.mk.injEq] at H
                      obtain ⟨rfl, rfl, rfl, rfl⟩ := H
                      go_enter Tryd.func17, Tryd.ntmps17
                      try go_wp2_with (first | ((with_reducible refine gate_callee (f := 18) rfl ?_); refine gl_ (some 7) Tryd.func18 #[.pointer (some ⟨g, 0, none⟩)] ?_; (with_reducible refine (class_reader_peek.calls k g s0_0 s0_1 s0_2 t127 t128 t129 t130 w0 _ ?side1 ?side2 A2.out).mono ?_); (case side1 => repeat (first | (with_reducible first | exact HI0.out | apply IsS36.alloc | apply IsS36.drewN | apply IsS36.drew | apply IsS36.set_0 | apply IsS36.set_1 | apply IsS36.set_2) | exact HI0.out)); (case side2 => repeat (first | (with_reducible first | exact HB.out | apply below_alloc | apply pw_below_drewN | apply below_drew1 | refine below_set ?_ (IsS36.ge HI0.out)) | exact HB.out)); rintro e w34 ⟨rfl, hi, hb, hk⟩; refine ⟨_, rfl, ?_⟩; replace HK := Aside0.mk (KeepBut.trans (by repeat (first | (with_reducible first | exact HK.out | apply KeepBut.set_ | apply keep_drewN | apply keep_drew | apply keep_alloc) | exact HK.out)) hk (.inl rfl)); replace HB := Aside0.mk (hb); replace HI0 := Aside0.mk (hi); (try clear hb); (try clear hk); (try clear hi)))
                      replace HI0 := Aside0.mk (IsS36.drew HI0.out)
                      replace HK := Aside0.mk (keep_drew HK.out)
                      replace HB := Aside0.mk (below_drew1 HB.out)
                      refine start_ (n := 11) (S := fun w' => w'.cell? ⟨g, 0, none⟩ = some (.string t128) ∧ w'.cell? ⟨g, 1, none⟩ = some (.int .i64 t129) ∧ w'.cell? ⟨g, 2, none⟩ = some (.int .i64 t130)) (ds := []) #[false, false, false, false, false, false, false, false, false, false, false] (by kernel_rfl) rfl rfl ⟨(cellS36_0 HI0.out.1), (cellS36_1 HI0.out.1), (cellS36_2 HI0.out.1)⟩ (fun hHeld => ?_); refine with_tabW class_reader_one.tab8 class_reader_one.bits8 (fun HT_ HW_ => ?_)
                      generalize w34.drew = w35 at HI0 HK HB hHeld ⊢
                      refine pu_ 0 22 (bm_ 11 1) HT_ ?_
                      refine pu_ 1 23 (bm_ 11 3) HT_ ?_
                      refine pu_ 2 24 (bm_ 11 7) HT_ ?_
                      refine pu_ 4 26 (bm_ 11 23) HT_ ?_
                      refine pu_ 5 27 (bm_ 11 55) HT_ ?_
                      refine pu_ 6 28 (bm_ 11 119) HT_ ?_
                      refine tk_ 3 25 (bm_ 11 127) HT_ HW_ hHeld rfl (by rintro w' ⟨s0, s1, s2⟩; go_simp; with_reducible rfl) ?_
                      refine tk_ 7 29 (bm_ 11 255) HT_ HW_ hHeld rfl (by rintro w' ⟨s0, s1, s2⟩; go_simp; with_reducible rfl) ?_
                      refine pu_ 8 30 (bm_ 11 511) HT_ ?_
                      refine pu_ 9 31 (bm_ 11 1023) HT_ ?_
                      refine pu_ 10 13 (bm_ 11 2047) HT_ ?_
                      refine done_ (done_of HT_.out (by kernel_rfl)) ?_
                      try go_wp2
                      replace HI0 := Aside0.mk (IsS36.drew HI0.out)
                      replace HK := Aside0.mk (keep_drew HK.out)
                      replace HB := Aside0.mk (below_drew1 HB.out)
                      refine start_ (n := 15) (S := fun w' => w'.cell? ⟨g, 0, none⟩ = some (.string t128) ∧ w'.cell? ⟨g, 1, none⟩ = some (.int .i64 t129) ∧ w'.cell? ⟨g, 2, none⟩ = some (.int .i64 t130)) (ds := [9, 10, 11, 12, 13, 14]) #[false, false, false, false, false, false, false, false, false, false, false, false, false, false, false] (by kernel_rfl) rfl rfl ⟨(cellS36_0 HI0.out.1), (cellS36_1 HI0.out.1), (cellS36_2 HI0.out.1)⟩ (fun hHeld => ?_); refine with_tabW class_reader_one.tab11 class_reader_one.bits11 (fun HT_ HW_ => ?_)
                      generalize w35.drew = w36 at HI0 HK HB hHeld ⊢
                      refine pu_ 0 35 (bm_ 15 1) HT_ ?_
                      refine pu_ 1 36 (bm_ 15 3) HT_ ?_
                      refine pu_ 2 37 (bm_ 15 7) HT_ ?_
                      refine pu_ 4 39 (bm_ 15 23) HT_ ?_
                      refine pu_ 5 40 (bm_ 15 55) HT_ ?_
                      refine pu_ 6 41 (bm_ 15 119) HT_ ?_
                      refine tk_ 3 38 (bm_ 15 127) HT_ HW_ hHeld rfl (by rintro w' ⟨s0, s1, s2⟩; go_simp; with_reducible rfl) ?_
                      refine tk_ 7 42 (bm_ 15 255) HT_ HW_ hHeld rfl (by rintro w' ⟨s0, s1, s2⟩; go_simp; with_reducible rfl) ?_
                      refine pu_ 8 43 (bm_ 15 511) HT_ ?_
                      refine last_ (i := 9) (N := some 44) #[true, true, true, true, true, true, true, true, true, true, false, false, false, false, false] rfl rfl (one_of HT_.out (by kernel_rfl)) (by decide) (fun K hK => ?_)
                      refine gs_ Tryd.func24 #[.string (t128.extract (t129 : Int).toNat t128.size)] ?_
                      with_reducible refine (utf8_DecodeRuneInString.calls (t128.extract (t129 : Int).toNat t128.size) t150 t151 _ A30.out).mono ?_
                      rintro e w37 ⟨rfl, hb⟩
                      refine ⟨_, rfl, ?_⟩
                      have n0_ := Aside0.mk (IsS36.below (by repeat (first | (with_reducible first | exact HI0.out | apply IsS36.alloc | apply IsS36.drewN | apply IsS36.drew | apply IsS36.set_0 | apply IsS36.set_1 | apply IsS36.set_2) | exact HI0.out)) hb)
                      have n1_ := Aside0.mk (KeepBut.trans (by repeat (first | (with_reducible first | exact HK.out | apply KeepBut.set_ | apply keep_drewN | apply keep_drew | apply keep_alloc) | exact HK.out)) (KeepBut.of_below hb g none) (.inl rfl))
                      have n2_ := Aside0.mk (below_step (by repeat (first | (with_reducible first | exact HB.out | apply below_alloc | apply pw_below_drewN | apply below_drew1 | refine below_set ?_ (IsS36.ge HI0.out)) | exact HB.out)) hb)
                      clear HI0
                      clear HK
                      clear HB
                      have HI0 := n0_
                      have HK := n1_
                      have HB := n2_
                      clear n0_ n1_ n2_
                      (try clear hb)
                      (try clear hb2)
                      (try clear hk)
                      (try clear hi)
                      refine hK.out _ _ ?_
                      clear hK K
                      refine nm_ 44 ?_
                      refine pu_ 10 34 (bm_ 15 2047) HT_ ?_
                      refine pu_ 11 45 (bm_ 15 4095) HT_ ?_
                      refine pu_ 12 46 (bm_ 15 8191) HT_ ?_
                      refine pu_ 13 4 (bm_ 15 16383) HT_ ?_
                      refine pu_ 14 5 (bm_ 15 32767) HT_ ?_
                      refine done_ (done_of HT_.out (by kernel_rfl)) ?_
                      try go_wp2_with (first | ((with_reducible refine gate_callee (f := 16) rfl ?_); refine gl_ (some 54) Tryd.func16 #[.pointer (some ⟨g, 0, none⟩)] ?_; (with_reducible refine (class_reader_fail.calls g t128 t129 t130 t152 t153 t154 w0 _ ?side1 ?side2 A33.out).mono ?_); (case side1 => repeat (first | (with_reducible first | exact HI0.out | apply IsS36.alloc | apply IsS36.drewN | apply IsS36.drew | apply IsS36.set_0 | apply IsS36.set_1 | apply IsS36.set_2) | exact HI0.out)); (case side2 => repeat (first | (with_reducible first | exact HB.out | apply below_alloc | apply pw_below_drewN | apply below_drew1 | refine below_set ?_ (IsS36.ge HI0.out)) | exact HB.out)); rintro e w38 ⟨rfl, hi, hb, hk⟩; refine ⟨_, rfl, ?_⟩; replace HK := Aside0.mk (KeepBut.trans (by repeat (first | (with_reducible first | exact HK.out | apply KeepBut.set_ | apply keep_drewN | apply keep_drew | apply keep_alloc) | exact HK.out)) hk (.inl rfl)); replace HB := Aside0.mk (hb); replace HI0 := Aside0.mk (hi); (try clear hb); (try clear hk); (try clear hi)))
                      go_ret
                      exact ⟨ew_, by repeat (first | (with_reducible first | exact HI0.out | apply IsS36.alloc | apply IsS36.drewN | apply IsS36.drew | apply IsS36.set_0 | apply IsS36.set_1 | apply IsS36.set_2) | exact HI0.out), by repeat (first | (with_reducible first | exact HB.out | apply below_alloc | apply pw_below_drewN | apply below_drew1 | refine below_set ?_ (IsS36.ge HI0.out)) | exact HB.out), by repeat (first | (with_reducible first | exact HK.out | apply KeepBut.set_ | apply keep_drewN | apply keep_drew | apply keep_alloc) | exact HK.out)⟩
                    · rw [if_neg c32] at H
                      have c32b0 : decide (t151 < 2) = false := decide_eq_false c32
                      clear c32
                      simp only [Option.some.injEq, Prod.mk.injEq] at H
                      obtain ⟨rfl, rfl, rfl, rfl⟩ := H
                      go_enter Tryd.func17, Tryd.ntmps17
                      try go_wp2_with (first | ((with_reducible refine gate_callee (f := 18) rfl ?_); refine gl_ (some 7) Tryd.func18 #[.pointer (some ⟨g, 0, none⟩)] ?_; (with_reducible refine (class_reader_peek.calls k g s0_0 s0_1 s0_2 t127 t128 t129 t130 w0 _ ?side1 ?side2 A2.out).mono ?_); (case side1 => repeat (first | (with_reducible first | exact HI0.out | apply IsS36.alloc | apply IsS36.drewN | apply IsS36.drew | apply IsS36.set_0 | apply IsS36.set_1 | apply IsS36.set_2) | exact HI0.out)); (case side2 => repeat (first | (with_reducible first | exact HB.out | apply below_alloc | apply pw_below_drewN | apply below_drew1 | refine below_set ?_ (IsS36.ge HI0.out)) | exact HB.out)); rintro e w39 ⟨rfl, hi, hb, hk⟩; refine ⟨_, rfl, ?_⟩; replace HK := Aside0.mk (KeepBut.trans (by repeat (first | (with_reducible first | exact HK.out | apply KeepBut.set_ | apply keep_drewN | apply keep_drew | apply keep_alloc) | exact HK.out)) hk (.inl rfl)); replace HB := Aside0.mk (hb); replace HI0 := Aside0.mk (hi); (try clear hb); (try clear hk); (try clear hi)))
                      replace HI0 := Aside0.mk (IsS36.drew HI0.out)
                      replace HK := Aside0.mk (keep_drew HK.out)
                      replace HB := Aside0.mk (below_drew1 HB.out)
                      refine start_ (n := 11) (S := fun w' => w'.cell? ⟨g, 0, none⟩ = some (.string t128) ∧ w'.cell? ⟨g, 1, none⟩ = some (.int .i64 t129) ∧ w'.cell? ⟨g, 2, none⟩ = some (.int .i64 t130)) (ds := []) #[false, false, false, false, false, false, false, false, false, false, false] (by kernel_rfl) rfl rfl ⟨(cellS36_0 HI0.out.1), (cellS36_1 HI0.out.1), (cellS36_2 HI0.out.1)⟩ (fun hHeld => ?_); refine with_tabW class_reader_one.tab8 class_reader_one.bits8 (fun HT_ HW_ => ?_)
                      generalize w39.drew = w40 at HI0 HK HB hHeld ⊢
                      refine pu_ 0 22 (bm_ 11 1) HT_ ?_
                      refine pu_ 1 23 (bm_ 11 3) HT_ ?_
                      refine pu_ 2 24 (bm_ 11 7) HT_ ?_
                      refine pu_ 4 26 (bm_ 11 23) HT_ ?_
                      refine pu_ 5 27 (bm_ 11 55) HT_ ?_
                      refine pu_ 6 28 (bm_ 11 119) HT_ ?_
                      refine tk_ 3 25 (bm_ 11 127) HT_ HW_ hHeld rfl (by rintro w' ⟨s0, s1, s2⟩; go_simp; with_reducible rfl) ?_
                      refine tk_ 7 29 (bm_ 11 255) HT_ HW_ hHeld rfl (by rintro w' ⟨s0, s1, s2⟩; go_simp; with_reducible rfl) ?_
                      refine pu_ 8 30 (bm_ 11 511) HT_ ?_
                      refine pu_ 9 31 (bm_ 11 1023) HT_ ?_
                      refine pu_ 10 13 (bm_ 11 2047) HT_ ?_
                      refine done_ (done_of HT_.out (by kernel_rfl)) ?_
                      try go_wp2
                      replace HI0 := Aside0.mk (IsS36.drew HI0.out)
                      replace HK := Aside0.mk (keep_drew HK.out)
                      replace HB := Aside0.mk (below_drew1 HB.out)
                      refine start_ (n := 15) (S := fun w' => w'.cell? ⟨g, 0, none⟩ = some (.string t128) ∧ w'.cell? ⟨g, 1, none⟩ = some (.int .i64 t129) ∧ w'.cell? ⟨g, 2, none⟩ = some (.int .i64 t130)) (ds := [9, 10, 11, 12, 13, 14]) #[false, false, false, false, false, false, false, false, false, false, false, false, false, false, false] (by kernel_rfl) rfl rfl ⟨(cellS36_0 HI0.out.1), (cellS36_1 HI0.out.1), (cellS36_2 HI0.out.1)⟩ (fun hHeld => ?_); refine with_tabW class_reader_one.tab11 class_reader_one.bits11 (fun HT_ HW_ => ?_)
                      generalize w40.drew = w41 at HI0 HK HB hHeld ⊢
                      refine pu_ 0 35 (bm_ 15 1) HT_ ?_
                      refine pu_ 1 36 (bm_ 15 3) HT_ ?_
                      refine pu_ 2 37 (bm_ 15 7) HT_ ?_
                      refine pu_ 4 39 (bm_ 15 23) HT_ ?_
                      refine pu_ 5 40 (bm_ 15 55) HT_ ?_
                      refine pu_ 6 41 (bm_ 15 119) HT_ ?_
                      refine tk_ 3 38 (bm_ 15 127) HT_ HW_ hHeld rfl (by rintro w' ⟨s0, s1, s2⟩; go_simp; with_reducible rfl) ?_
                      refine tk_ 7 42 (bm_ 15 255) HT_ HW_ hHeld rfl (by rintro w' ⟨s0, s1, s2⟩; go_simp; with_reducible rfl) ?_
                      refine pu_ 8 43 (bm_ 15 511) HT_ ?_
                      refine last_ (i := 9) (N := some 44) #[true, true, true, true, true, true, true, true, true, true, false, false, false, false, false] rfl rfl (one_of HT_.out (by kernel_rfl)) (by decide) (fun K hK => ?_)
                      refine gs_ Tryd.func24 #[.string (t128.extract (t129 : Int).toNat t128.size)] ?_
                      with_reducible refine (utf8_DecodeRuneInString.calls (t128.extract (t129 : Int).toNat t128.size) t150 t151 _ A30.out).mono ?_
                      rintro e w42 ⟨rfl, hb⟩
                      refine ⟨_, rfl, ?_⟩
                      have n0_ := Aside0.mk (IsS36.below (by repeat (first | (with_reducible first | exact HI0.out | apply IsS36.alloc | apply IsS36.drewN | apply IsS36.drew | apply IsS36.set_0 | apply IsS36.set_1 | apply IsS36.set_2) | exact HI0.out)) hb)
                      have n1_ := Aside0.mk (KeepBut.trans (by repeat (first | (with_reducible first | exact HK.out | apply KeepBut.set_ | apply keep_drewN | apply keep_drew | apply keep_alloc) | exact HK.out)) (KeepBut.of_below hb g none) (.inl rfl))
                      have n2_ := Aside0.mk (below_step (by repeat (first | (with_reducible first | exact HB.out | apply below_alloc | apply pw_below_drewN | apply below_drew1 | refine below_set ?_ (IsS36.ge HI0.out)) | exact HB.out)) hb)
                      clear HI0
                      clear HK
                      clear HB
                      have HI0 := n0_
                      have HK := n1_
                      have HB := n2_
                      clear n0_ n1_ n2_
                      (try clear hb)
                      (try clear hb2)
                      (try clear hk)
                      (try clear hi)
                      refine hK.out _ _ ?_
                      clear hK K
                      refine nm_ 44 ?_
                      refine pu_ 10 34 (bm_ 15 2047) HT_ ?_
                      refine pu_ 11 45 (bm_ 15 4095) HT_ ?_
                      refine pu_ 12 46 (bm_ 15 8191) HT_ ?_
                      refine pu_ 13 4 (bm_ 15 16383) HT_ ?_
                      refine pu_ 14 5 (bm_ 15 32767) HT_ ?_
                      refine done_ (done_of HT_.out (by kernel_rfl)) ?_
                      obtain ⟨HGz43, hgz43⟩ := HI0.out
                      have hcz43_0 := cellS36_0 HGz43
                      have hcz43_1 := cellS36_1 HGz43
                      have hcz43_2 := cellS36_2 HGz43
                      have hfz43_0 := blk_frozen HGz43 0
                      have hfz43_1 := blk_frozen HGz43 1
                      have hfz43_2 := blk_frozen HGz43 2
                      clear HGz43 hgz43
                      try go_wp2
                      go_ret
                      exact ⟨ew_, by repeat (first | (with_reducible first | exact HI0.out | apply IsS36.alloc | apply IsS36.drewN | apply IsS36.drew | apply IsS36.set_0 | apply IsS36.set_1 | apply IsS36.set_2) | exact HI0.out), by repeat (first | (with_reducible first | exact HB.out | apply below_alloc | apply pw_below_drewN | apply below_drew1 | refine below_set ?_ (IsS36.ge HI0.out)) | exact HB.out), by repeat (first | (with_reducible first | exact HK.out | apply KeepBut.set_ | apply keep_drewN | apply keep_drew | apply keep_alloc) | exact HK.out)⟩
                  · rw [if_neg c31] at H
                    have c31b0 : (t150 == 65533) = false := beq_eq_false_iff_ne.mpr c31
                    have c31b1 : (t150 != 65533) = true := bne_iff_ne.mpr c31
                    simp only [Option.some.injEq, Prod.mk.injEq] at H
                    obtain ⟨rfl, rfl, rfl, rfl⟩ := H
                    go_enter Tryd.func17, Tryd.ntmps17
                    try go_wp2_with (first | ((with_reducible refine gate_callee (f := 18) rfl ?_); refine gl_ (some 7) Tryd.func18 #[.pointer (some ⟨g, 0, none⟩)] ?_; (with_reducible refine (class_reader_peek.calls k g s0_0 s0_1 s0_2 t127 t128 t129 t130 w0 _ ?side1 ?side2 A2.out).mono ?_); (case side1 => repeat (first | (with_reducible first | exact HI0.out | apply IsS36.alloc | apply IsS36.drewN | apply IsS36.drew | apply IsS36.set_0 | apply IsS36.set_1 | apply IsS36.set_2) | exact HI0.out)); (case side2 => repeat (first | (with_reducible first | exact HB.out | apply below_alloc | apply pw_below_drewN | apply below_drew1 | refine below_set ?_ (IsS36.ge HI0.out)) | exact HB.out)); rintro e w44 ⟨rfl, hi, hb, hk⟩; refine ⟨_, rfl, ?_⟩; replace HK := Aside0.mk (KeepBut.trans (by repeat (first | (with_reducible first | exact HK.out | apply KeepBut.set_ | apply keep_drewN | apply keep_drew | apply keep_alloc) | exact HK.out)) hk (.inl rfl)); replace HB := Aside0.mk (hb); replace HI0 := Aside0.mk (hi); (try clear hb); (try clear hk); (try clear hi)))
                    replace HI0 := Aside0.mk (IsS36.drew HI0.out)
                    replace HK := Aside0.mk (keep_drew HK.out)
                    replace HB := Aside0.mk (below_drew1 HB.out)
                    refine start_ (n := 11) (S := fun w' => w'.cell? ⟨g, 0, none⟩ = some (.string t128) ∧ w'.cell? ⟨g, 1, none⟩ = some (.int .i64 t129) ∧ w'.cell? ⟨g, 2, none⟩ = some (.int .i64 t130)) (ds := []) #[false, false, false, false, false, false, false, false, false, false, false] (by kernel_rfl) rfl rfl ⟨(cellS36_0 HI0.out.1), (cellS36_1 HI0.out.1), (cellS36_2 HI0.out.1)⟩ (fun hHeld => ?_); refine with_tabW class_reader_one.tab8 class_reader_one.bits8 (fun HT_ HW_ => ?_)
                    generalize w44.drew = w45 at HI0 HK HB hHeld ⊢
                    refine pu_ 0 22 (bm_ 11 1) HT_ ?_
                    refine pu_ 1 23 (bm_ 11 3) HT_ ?_
                    refine pu_ 2 24 (bm_ 11 7) HT_ ?_
                    refine pu_ 4 26 (bm_ 11 23) HT_ ?_
                    refine pu_ 5 27 (bm_ 11 55) HT_ ?_
                    refine pu_ 6 28 (bm_ 11 119) HT_ ?_
                    refine tk_ 3 25 (bm_ 11 127) HT_ HW_ hHeld rfl (by rintro w' ⟨s0, s1, s2⟩; go_simp; with_reducible rfl) ?_
                    refine tk_ 7 29 (bm_ 11 255) HT_ HW_ hHeld rfl (by rintro w' ⟨s0, s1, s2⟩; go_simp; with_reducible rfl) ?_
                    refine pu_ 8 30 (bm_ 11 511) HT_ ?_
                    refine pu_ 9 31 (bm_ 11 1023) HT_ ?_
                    refine pu_ 10 13 (bm_ 11 2047) HT_ ?_
                    refine done_ (done_of HT_.out (by kernel_rfl)) ?_
                    try go_wp2
                    replace HI0 := Aside0.mk (IsS36.drew HI0.out)
                    replace HK := Aside0.mk (keep_drew HK.out)
                    replace HB := Aside0.mk (below_drew1 HB.out)
                    refine start_ (n := 15) (S := fun w' => w'.cell? ⟨g, 0, none⟩ = some (.string t128) ∧ w'.cell? ⟨g, 1, none⟩ = some (.int .i64 t129) ∧ w'.cell? ⟨g, 2, none⟩ = some (.int .i64 t130)) (ds := [9, 10, 11, 12, 13, 14]) #[false, false, false, false, false, false, false, false, false, false, false, false, false, false, false] (by kernel_rfl) rfl rfl ⟨(cellS36_0 HI0.out.1), (cellS36_1 HI0.out.1), (cellS36_2 HI0.out.1)⟩ (fun hHeld => ?_); refine with_tabW class_reader_one.tab11 class_reader_one.bits11 (fun HT_ HW_ => ?_)
                    generalize w45.drew = w46 at HI0 HK HB hHeld ⊢
                    refine pu_ 0 35 (bm_ 15 1) HT_ ?_
                    refine pu_ 1 36 (bm_ 15 3) HT_ ?_
                    refine pu_ 2 37 (bm_ 15 7) HT_ ?_
                    refine pu_ 4 39 (bm_ 15 23) HT_ ?_
                    refine pu_ 5 40 (bm_ 15 55) HT_ ?_
                    refine pu_ 6 41 (bm_ 15 119) HT_ ?_
                    refine tk_ 3 38 (bm_ 15 127) HT_ HW_ hHeld rfl (by rintro w' ⟨s0, s1, s2⟩; go_simp; with_reducible rfl) ?_
                    refine tk_ 7 42 (bm_ 15 255) HT_ HW_ hHeld rfl (by rintro w' ⟨s0, s1, s2⟩; go_simp; with_reducible rfl) ?_
                    refine pu_ 8 43 (bm_ 15 511) HT_ ?_
                    refine last_ (i := 9) (N := some 44) #[true, true, true, true, true, true, true, true, true, true, false, false, false, false, false] rfl rfl (one_of HT_.out (by kernel_rfl)) (by decide) (fun K hK => ?_)
                    refine gs_ Tryd.func24 #[.string (t128.extract (t129 : Int).toNat t128.size)] ?_
                    with_reducible refine (utf8_DecodeRuneInString.calls (t128.extract (t129 : Int).toNat t128.size) t150 t151 _ A30.out).mono ?_
                    rintro e w47 ⟨rfl, hb⟩
                    refine ⟨_, rfl, ?_⟩
                    have n0_ := Aside0.mk (IsS36.below (by repeat (first | (with_reducible first | exact HI0.out | apply IsS36.alloc | apply IsS36.drewN | apply IsS36.drew | apply IsS36.set_0 | apply IsS36.set_1 | apply IsS36.set_2) | exact HI0.out)) hb)
                    have n1_ := Aside0.mk (KeepBut.trans (by repeat (first | (with_reducible first | exact HK.out | apply KeepBut.set_ | apply keep_drewN | apply keep_drew | apply keep_alloc) | exact HK.out)) (KeepBut.of_below hb g none) (.inl rfl))
                    have n2_ := Aside0.mk (below_step (by repeat (first | (with_reducible first | exact HB.out | apply below_alloc | apply pw_below_drewN | apply below_drew1 | refine below_set ?_ (IsS36.ge HI0.out)) | exact HB.out)) hb)
                    clear HI0
                    clear HK
                    clear HB
                    have HI0 := n0_
                    have HK := n1_
                    have HB := n2_
                    clear n0_ n1_ n2_
                    (try clear hb)
                    (try clear hb2)
                    (try clear hk)
                    (try clear hi)
                    refine hK.out _ _ ?_
                    clear hK K
                    refine nm_ 44 ?_
                    refine pu_ 10 34 (bm_ 15 2047) HT_ ?_
                    refine pu_ 11 45 (bm_ 15 4095) HT_ ?_
                    refine pu_ 12 46 (bm_ 15 8191) HT_ ?_
                    refine pu_ 13 4 (bm_ 15 16383) HT_ ?_
                    refine pu_ 14 5 (bm_ 15 32767) HT_ ?_
                    refine done_ (done_of HT_.out (by kernel_rfl)) ?_
                    obtain ⟨HGz48, hgz48⟩ := HI0.out
                    have hcz48_0 := cellS36_0 HGz48
                    have hcz48_1 := cellS36_1 HGz48
                    have hcz48_2 := cellS36_2 HGz48
                    have hfz48_0 := blk_frozen HGz48 0
                    have hfz48_1 := blk_frozen HGz48 1
                    have hfz48_2 := blk_frozen HGz48 2
                    clear HGz48 hgz48
                    try go_wp2
                    go_ret
                    exact ⟨ew_, by repeat (first | (with_reducible first | exact HI0.out | apply IsS36.alloc | apply IsS36.drewN | apply IsS36.drew | apply IsS36.set_0 | apply IsS36.set_1 | apply IsS36.set_2) | exact HI0.out), by repeat (first | (with_reducible first | exact HB.out | apply below_alloc | apply pw_below_drewN | apply below_drew1 | refine below_set ?_ (IsS36.ge HI0.out)) | exact HB.out), by repeat (first | (with_reducible first | exact HK.out | apply KeepBut.set_ | apply keep_drewN | apply keep_drew | apply keep_alloc) | exact HK.out)⟩
                · rw [if_neg c29] at H
                  exact absurd H (by simp)
              · rw [if_neg c28] at H
                exact absurd H (by simp)

/-! ### slices_SortFunc: function 25 -/
def slices_SortFunc.cl (x : Int) : Int := if x < -2147483648 then -2147483648 else if 2147483647 < x then 2147483647 else x
def slices_SortFunc.cf (x y : Int × Int) : Int := slices_SortFunc.cl x.1 - slices_SortFunc.cl y.1
def slices_SortFunc.P (x : S41) : Int × Int := (x.f0, x.f1)
def slices_SortFunc.R (x : Int × Int) : S41 := ⟨x.1, x.2⟩
def slices_SortFunc.ok (x : S41) : Bool := decide (-2147483648 ≤ x.f0 ∧ x.f0 ≤ 2147483647)
def slices_SortFunc.enc (x : Int × Int) : List Value := [.int .i32 (slices_SortFunc.cl x.1), .int .i32 x.2]
def slices_SortFunc.go (l : List S41) : Array (Int × Int) := Sort.pdq (ltOf slices_SortFunc.cf) (l.map slices_SortFunc.P).toArray 0 l.length (Lib.bitLen l.length) true true
def slices_SortFunc.f (l : List S41) : Option (List S41) := if l.length ≤ 100000 ∧ l.all slices_SortFunc.ok = true then some ((slices_SortFunc.go l).toList.map slices_SortFunc.R) else none
theorem slices_SortFunc.ltcl (x y : Int × Int) : ltOf slices_SortFunc.cf x y = decide (slices_SortFunc.cl x.1 < slices_SortFunc.cl y.1) := by
  unfold ltOf slices_SortFunc.cf
  by_cases h : slices_SortFunc.cl x.1 < slices_SortFunc.cl y.1
  · simp only [h, decide_true, decide_eq_true_eq]; omega
  · simp only [h, decide_false, decide_eq_false_iff_not]; omega
theorem slices_SortFunc.swo : Sort.SWO (ltOf slices_SortFunc.cf) where
  irrefl x := by rw [slices_SortFunc.ltcl]; simp
  trans x y z h1 h2 := by rw [slices_SortFunc.ltcl] at *; simp only [decide_eq_true_eq] at *; omega
  ntrans x y z h1 h2 := by rw [slices_SortFunc.ltcl] at *; simp only [decide_eq_false_iff_not] at *; omega
theorem slices_SortFunc.cl_lo (x : Int) : -2147483648 ≤ slices_SortFunc.cl x := by unfold slices_SortFunc.cl; split; omega; split <;> omega
theorem slices_SortFunc.cl_hi (x : Int) : slices_SortFunc.cl x ≤ 2147483647 := by unfold slices_SortFunc.cl; split; omega; split <;> omega
theorem slices_SortFunc.cl_in {x : Int} (h0 : -2147483648 ≤ x) (h1 : x ≤ 2147483647) : slices_SortFunc.cl x = x := by unfold slices_SortFunc.cl; rw [if_neg (by omega), if_neg (by omega)]
set_option maxHeartbeats 1000000 in
theorem slices_SortFunc.less (a b c d : Int) (ha : -2147483648 ≤ a) (ha' : a ≤ 2147483647) (hb : -2147483648 ≤ b) (hb' : b ≤ 2147483647) (W : World) :
    Calls Tryd.prog 26 #[.agg #[.int .i32 a, .int .i32 c], .agg #[.int .i32 b, .int .i32 d]] W fun e w' => e = .returned (.int .i64 (a - b)) ∧ ∃ q os', w' = Sort.grow (W.drewN q) os' := by
  have e1 : IntKind.i64.wrap a = a := by rw [IntKind.wrap_i64]; omega
  have e2 : IntKind.i64.wrap b = b := by rw [IntKind.wrap_i64]; omega
  have e3 : IntKind.i64.wrap (a - b) = a - b := by rw [IntKind.wrap_i64]; omega
  have f1 : wrap64 a = a := by unfold wrap64; omega
  have f2 : wrap64 b = b := by unfold wrap64; omega
  have f3 : wrap64 (a - b) = a - b := by unfold wrap64; omega
  clear ha ha' hb hb'
  go_enter Tryd.func26, Tryd.ntmps26
  go_wp2
  go_ret
  exact ⟨rfl, 0, _, by rw [Sort.alloc_eq_grow, Sort.alloc_eq_grow, Sort.grow_grow]; rfl⟩
theorem slices_SortFunc.cmp (off blk size : Nat) (w : World) : CmpLays Tryd.prog 26 #[] slices_SortFunc.enc 2 slices_SortFunc.cf blk off size w :=
  fun _ _ _ _ x y => slices_SortFunc.less _ _ _ _ (slices_SortFunc.cl_lo x.1) (slices_SortFunc.cl_hi x.1) (slices_SortFunc.cl_lo y.1) (slices_SortFunc.cl_hi y.1) _
theorem slices_SortFunc.two (x y : Value) (j : Nat) (hj : j < 2) : ([x, y] : List Value)[j]! = if j = 0 then x else y := by
  match j, hj with
  | 0, _ => rfl
  | 1, _ => rfl
theorem slices_SortFunc.holds {w : World} {B : Nat} {ok : Nat → Prop} {g cap : Nat} {l : List S41} (h : Kd.R k41 41 w B ok (.slice (some ⟨g, 0, none⟩) l.length cap) l) (hok : l.all slices_SortFunc.ok = true) :
    Sort.HoldsK slices_SortFunc.enc 2 w g 0 (l.map slices_SortFunc.P).toArray := by
  intro j hj
  rw [Sort.size_flatK] at hj
  have hs : (l.map slices_SortFunc.P).toArray.size = l.length := by simp
  rw [hs] at hj
  rw [Sort.get_flatK _ _ _ _ (by rw [hs]; exact hj)]
  have hq : j / 2 < l.length := by omega
  obtain ⟨c, hcl, hM, hcc, hfr⟩ := Kd.R_elem h z41 ((j / 2 : Nat) : Int) (by omega) (by omega)
  obtain rfl := k41_openM hM
  rw [Int.toNat_natCast] at hcc hfr hcl hM
  have hg : l.getD (j / 2) z41 = l[j / 2] := by simp [List.getD, List.getElem?_eq_getElem hq]
  rw [hg] at hcc hcl hM
  have he : (l.map slices_SortFunc.P).toArray[j / 2]! = slices_SortFunc.P l[j / 2] := by
    rw [getElem!_pos _ _ (by rw [hs]; exact hq)]; simp
  have hin : slices_SortFunc.ok l[j / 2] = true := List.all_eq_true.1 hok _ (List.getElem_mem hq)
  have hin2 : -2147483648 ≤ l[j / 2].f0 ∧ l[j / 2].f0 ≤ 2147483647 := of_decide_eq_true hin
  have hsz : (k41 : Kd S41).sz = 2 := rfl
  rw [hsz] at hcc hfr
  rw [he]
  have hm : j % 2 < 2 := Nat.mod_lt _ (by omega)
  have hj3 : 0 + j = j / 2 * 2 + j % 2 := by omega
  rw [hj3]
  refine ⟨?_, hfr _⟩
  have := hcc (j % 2) (slices_SortFunc.enc (slices_SortFunc.P l[j / 2]))[j % 2]! (by
    unfold slices_SortFunc.enc slices_SortFunc.P
    rw [slices_SortFunc.two _ _ _ hm, slices_SortFunc.cl_in hin2.1 hin2.2]
    rcases Nat.lt_or_ge (j % 2) 1 with h0 | h1
    · obtain h0 : j % 2 = 0 := by omega
      simp [h0]
    · obtain h0 : j % 2 = 1 := by omega
      simp [h0])
  exact this

theorem slices_SortFunc.flat (d : List (Int × Int)) (hd : ∀ x ∈ d, slices_SortFunc.cl x.1 = x.1) : (Sort.flatK slices_SortFunc.enc 2 d.toArray).toList = (d.map slices_SortFunc.R).flatMap (fun x : S41 => [Value.int .i32 x.f0, Value.int .i32 x.f1]) := by
  have gen : ∀ (e : List (Int × Int)), (∀ x ∈ e, slices_SortFunc.cl x.1 = x.1) → ∀ t, t < e.length * 2 → ((e.map slices_SortFunc.R).flatMap (fun x : S41 => [Value.int .i32 x.f0, Value.int .i32 x.f1]))[t]? = some (slices_SortFunc.enc (e[t / 2]!))[t % 2]! := by
    intro e
    induction e with
    | nil => intro _ t ht; simp at ht
    | cons a r ih =>
      intro hc t ht
      rw [List.map_cons, List.flatMap_cons]
      have ha := hc a List.mem_cons_self
      match t with
      | 0 => simp [slices_SortFunc.R, slices_SortFunc.enc, ha]
      | 1 => simp [slices_SortFunc.R, slices_SortFunc.enc]
      | t + 2 =>
        have h1 : (t + 2) / 2 = t / 2 + 1 := by omega
        have h2 : (t + 2) % 2 = t % 2 := by omega
        have := ih (fun x hx => hc x (List.mem_cons_of_mem _ hx)) t (by simp at ht; omega)
        rw [h1, h2]
        simpa using this
  apply List.ext_getElem?
  intro t
  rcases Nat.lt_or_ge t (d.length * 2) with ht | ht
  · rw [gen d hd t ht]
    have hs : t < (Sort.flatK slices_SortFunc.enc 2 d.toArray).size := by rw [Sort.size_flatK]; simpa using ht
    have := Sort.get_flatK slices_SortFunc.enc 2 d.toArray t (by simpa using ht)
    rw [getElem!_pos (Sort.flatK slices_SortFunc.enc 2 d.toArray) t hs] at this
    rw [List.getElem?_eq_getElem (by simpa using hs), Array.getElem_toList, this]
    simp
  · rw [List.getElem?_eq_none (by simp [Sort.size_flatK]; omega), List.getElem?_eq_none]
    have : ((d.map slices_SortFunc.R).flatMap (fun x : S41 => [Value.int .i32 x.f0, Value.int .i32 x.f1])).length = d.length * 2 := by
      clear gen hd ht
      induction d with
      | nil => rfl
      | cons a r ih => rw [List.map_cons, List.flatMap_cons, List.length_append, ih]; simp; omega
    omega
theorem slices_SortFunc.reps (w : World) (base : Nat) (ok : Nat → Prop) (xs : List S41) : Reps (k41.M w base ok) 2 xs (xs.flatMap (fun x : S41 => [Value.int .i32 x.f0, Value.int .i32 x.f1])) := by
  have : ∀ (ys : List S41) (pre : List S41), Reps (k41.M w base ok) 2 pre (pre.flatMap (fun x : S41 => [Value.int .i32 x.f0, Value.int .i32 x.f1])) → Reps (k41.M w base ok) 2 (pre ++ ys) ((pre ++ ys).flatMap (fun x : S41 => [Value.int .i32 x.f0, Value.int .i32 x.f1])) := by
    intro ys
    induction ys with
    | nil => intro pre h; simpa using h
    | cons a r ih =>
      intro pre h
      have := ih (pre ++ [a]) (by
        rw [List.flatMap_append]
        exact h.snoc (k41_mkM _ _ _ a) rfl)
      simpa using this
  have h0 := this xs [] (Reps.none _ _)
  simpa using h0
theorem slices_SortFunc.heap_ {w : World} {g n : Nat} {cur : Array Value} {d : Array (Int × Int)} {os : Array Obj} (hc : w.heap[g]? = some (.cells cur 41 (0, 0))) :
    (sortWorldK slices_SortFunc.enc 2 w g 0 n d os).heap[g]? = some (.cells (Sort.putCells id 0 (Sort.flatK slices_SortFunc.enc 2 d) cur) 41 (0, 0)) := by
  have hlt : g < w.heap.size := blk_lt hc
  show ((Sort.putRowK slices_SortFunc.enc 2 (Sort.ahead w n) g 0 d).heap ++ os)[g]? = _
  have hs : (Sort.putRowK slices_SortFunc.enc 2 (Sort.ahead w n) g 0 d).heap.size = w.heap.size := by unfold Sort.putRowK; rw [Sort.size_putRow]; rfl
  rw [Array.getElem?_append_left (by rw [hs]; exact hlt)]
  show (w.heap.modify g (Sort.onCells _))[g]? = _
  rw [Array.getElem?_modify, if_pos rfl, hc]
  rfl
theorem slices_SortFunc.other {w : World} {g n : Nat} {d : Array (Int × Int)} {os : Array Obj} (i : Nat) (hi : i < w.heap.size) (hne : g ≠ i) :
    (sortWorldK slices_SortFunc.enc 2 w g 0 n d os).heap[i]? = w.heap[i]? := by
  show ((Sort.putRowK slices_SortFunc.enc 2 (Sort.ahead w n) g 0 d).heap ++ os)[i]? = _
  have hs : (Sort.putRowK slices_SortFunc.enc 2 (Sort.ahead w n) g 0 d).heap.size = w.heap.size := by unfold Sort.putRowK; rw [Sort.size_putRow]; rfl
  rw [Array.getElem?_append_left (by rw [hs]; exact hi)]
  show (w.heap.modify g (Sort.onCells _))[i]? = _
  rw [Array.getElem?_modify, if_neg hne]
theorem slices_SortFunc.size_ (w : World) (g n : Nat) (d : Array (Int × Int)) (os : Array Obj) : w.heap.size ≤ (sortWorldK slices_SortFunc.enc 2 w g 0 n d os).heap.size := by
  show w.heap.size ≤ ((Sort.putRowK slices_SortFunc.enc 2 (Sort.ahead w n) g 0 d).heap ++ os).size
  have hs : (Sort.putRowK slices_SortFunc.enc 2 (Sort.ahead w n) g 0 d).heap.size = w.heap.size := by unfold Sort.putRowK; rw [Sort.size_putRow]; rfl
  rw [Array.size_append, hs]; omega
theorem slices_SortFunc.new {w : World} {B : Nat} {ok ok' : Nat → Prop} {g cap n : Nat} {l : List S41} {d : Array (Int × Int)} {os : Array Obj} (h : Kd.R k41 41 w B ok (.slice (some ⟨g, 0, none⟩) l.length cap) l)
    (hd : d.size = l.length) (hcl : ∀ x ∈ d.toList, slices_SortFunc.cl x.1 = x.1) (hok : ok' g) :
    Kd.R k41 41 (sortWorldK slices_SortFunc.enc 2 w g 0 n d os) B ok' (.slice (some ⟨g, 0, none⟩) l.length cap) (d.toList.map slices_SortFunc.R) := by
  obtain ⟨_, inner, ho, _⟩ := h
  rcases ho.2 with ⟨hv, _⟩ | ⟨g', cap', cur, hv, hb, hh, hn, hm, hsz, htk⟩
  · cases hv
  · injection hv with hv1 hv2 hv3
    obtain rfl : g' = g := by injection hv1 with hv1; injection hv1 with hv1 _ _; exact hv1.symm
    subst hv3
    have hsz2 : (k41 : Kd S41).sz = 2 := rfl
    have hfl := slices_SortFunc.flat d.toList hcl
    have hfs : (Sort.flatK slices_SortFunc.enc 2 d).size = l.length * 2 := by rw [Sort.size_flatK, hd]
    refine ⟨fun k hk => ?_, (d.toList.map slices_SortFunc.R).flatMap (fun x : S41 => [Value.int .i32 x.f0, Value.int .i32 x.f1]), ⟨?_, .inr ⟨g', cap, _, ?_, hb, slices_SortFunc.heap_ hh, ?_, hm, ?_, ?_⟩⟩, slices_SortFunc.reps _ _ _ _⟩
    · have : g' = k := by simpa [Value.ownBlock] using hk
      rw [← this]; exact hok
    · rw [← hfl]; simp [hfs, hd, hsz2]
    · simp [hd]
    · simpa [hd] using hn
    · unfold Sort.putCells; rw [Array.size_mapIdx]; exact hsz
    · rw [← hfl]
      apply List.ext_getElem?
      intro t
      have hcs : l.length * 2 ≤ cur.size := by rw [hsz, hsz2]; omega
      have hl2 : (d.toList.map slices_SortFunc.R).length * (k41 : Kd S41).sz = l.length * 2 := by simp [hd, hsz2]
      rw [hl2]
      rcases Nat.lt_or_ge t (l.length * 2) with ht | ht
      · rw [List.getElem?_take_of_lt ht, Array.getElem?_toList, Array.getElem?_toList]
        have h1 : t < (Sort.flatK slices_SortFunc.enc 2 d).size := by rw [hfs]; exact ht
        unfold Sort.putCells
        rw [Array.getElem?_mapIdx, Array.getElem?_eq_getElem (by omega : t < cur.size), Array.getElem?_eq_getElem h1, Option.map_some, if_pos ⟨Nat.zero_le _, by rw [Nat.zero_add]; exact h1⟩, Nat.sub_zero, getElem!_pos (Sort.flatK slices_SortFunc.enc 2 d) t h1]
        rfl
      · rw [List.getElem?_eq_none (by rw [List.length_take]; omega), List.getElem?_eq_none (by simp [hfs]; exact ht)]
set_option maxHeartbeats 1000000 in
theorem slices_SortFunc.calls (P0_ : Nat → Prop) (u0_ : Value) (l0 : List S41) (r : List S41) (w0 w : World) (hB : Below w0.heap.size w0 w) (ho0 : Kd.R k41 41 w w0.heap.size P0_ u0_ l0) (h : slices_SortFunc.f l0 = some r) :
    Calls Tryd.prog 25 #[u0_, .func (.func 26) #[] #[]] w fun e w' => e = .returned (.tuple #[]) ∧ Kd.R k41 41 w' w0.heap.size (fun k_ => P0_ k_ ∨ w.heap.size ≤ k_) u0_ r ∧ Below w0.heap.size w0 w' ∧ Kept w w' (fun k_ => P0_ k_) := by
  unfold slices_SortFunc.f at h
  split at h
  case isFalse => cases h
  rename_i hc
  obtain ⟨hlen, hok⟩ := hc
  obtain rfl := Option.some.inj h
  obtain ⟨A, c, rfl⟩ := Kd.R_slice ho0
  rcases Nat.eq_zero_or_pos l0.length with h0 | hp
  · have hl : l0 = [] := List.length_eq_zero_iff.1 h0
    subst hl
    have hcon := AnyF.slices_SortFunc_none (P := Tryd.prog) Tryd.sortRange A c (.func (.func 26) #[] #[]) w
    change Calls Tryd.prog 25 _ _ _ at hcon
    refine hcon.mono ?_
    rintro e w' ⟨rfl, rfl⟩
    have hgo : (slices_SortFunc.go []).toList.map slices_SortFunc.R = [] := by
      have hs := (Sort.pdq_sorts (ltOf slices_SortFunc.cf) slices_SortFunc.swo #[] 0 0 (Lib.bitLen 0) true true (Nat.zero_le _) (Nat.le_refl _) (Or.inl rfl)).1.1
      have : slices_SortFunc.go [] = #[] := Array.size_eq_zero_iff.1 hs
      rw [this]; rfl
    rw [hgo]
    exact ⟨rfl, Kd.R_mono ho0 (fun k hk => .inl hk), hB, Kept.refl _ _⟩
  · obtain ⟨g, cap, hv, hg0, hgl, cells, hcells⟩ := Kd.R_form ho0 hp
    injection hv with hv1 hv2 hv3
    subst hv1 hv3
    have hds : ((l0.map slices_SortFunc.P).toArray).size = l0.length := by simp
    have eg : ∀ args w, (callFunc 26 args).run Tryd.prog w = .ok (.enter 26 args) w := enters_of Tryd.func26 (by kernel_rfl) rfl
    have hcon := AnyQ.slices_SortFunc_eq (P := Tryd.prog) Tryd.sortRange 2 Tryd.isAgg41 Tryd.sizeOf41 slices_SortFunc.enc (fun _ => rfl) (fun x v hv => by simp [slices_SortFunc.enc] at hv; rcases hv with rfl | rfl <;> rfl) slices_SortFunc.cf slices_SortFunc.swo 26 #[] g 0 c (l0.map slices_SortFunc.P).toArray w eg (slices_SortFunc.cmp 0 g _ w) (slices_SortFunc.holds ho0 hok) hgl (by rw [hds]; omega)
    change Calls Tryd.prog 25 _ _ _ at hcon
    rw [hds] at hcon
    have hsort := Sort.pdq_sorts (ltOf slices_SortFunc.cf) slices_SortFunc.swo (l0.map slices_SortFunc.P).toArray 0 l0.length (Lib.bitLen l0.length) true true (Nat.zero_le _) (by simp) (Or.inl rfl)
    have hgo : Sort.pdq (ltOf slices_SortFunc.cf) (l0.map slices_SortFunc.P).toArray 0 l0.length (Lib.bitLen l0.length) true true = slices_SortFunc.go l0 := rfl
    rw [hgo] at hcon hsort
    have hsz : (slices_SortFunc.go l0).size = l0.length := by rw [hsort.1.1, hds]
    have hcl : ∀ x ∈ (slices_SortFunc.go l0).toList, slices_SortFunc.cl x.1 = x.1 := by
      intro x hx
      have hp := hsort.1.2.2
      rw [show (slices_SortFunc.go l0).extract 0 l0.length = slices_SortFunc.go l0 from by rw [← hsz]; exact Array.extract_size, show (l0.map slices_SortFunc.P).toArray.extract 0 l0.length = (l0.map slices_SortFunc.P).toArray from by rw [← hds]; exact Array.extract_size] at hp
      have hx2 := hp.mem_iff.1 hx
      obtain ⟨y, hy, rfl⟩ := List.mem_map.1 (by simpa using hx2)
      have := of_decide_eq_true (List.all_eq_true.1 hok y hy)
      exact slices_SortFunc.cl_in this.1 this.2
    refine hcon.mono ?_
    rintro e w' ⟨rfl, n, os, rfl⟩
    have hPg : P0_ g := ho0.1 g (by simp [Value.ownBlock])
    refine ⟨rfl, slices_SortFunc.new ho0 hsz hcl (.inl hPg), ?_, slices_SortFunc.size_ _ _ _ _ _, fun i hi hn => slices_SortFunc.other i hi (fun he => hn (he ▸ hPg))⟩
    exact ⟨hB.os, hB.tape, hB.output, Nat.le_trans hB.size (slices_SortFunc.size_ _ _ _ _ _), fun i hi => (slices_SortFunc.other i (Nat.lt_of_lt_of_le hi hB.size) (by omega)).trans (hB.block i hi)⟩

end Go.Proofs.YtnpohgoacbpcjaaDoor.P
