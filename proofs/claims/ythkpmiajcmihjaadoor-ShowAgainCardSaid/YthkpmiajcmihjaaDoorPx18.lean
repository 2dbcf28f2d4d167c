-- written by a program of this session (wip/p2)
import Derived.Test.YthkpmiajcmihjaaDoorPx0
import Derived.Test.YthkpmiajcmihjaaDoorPx3
import Derived.Test.YthkpmiajcmihjaaDoorPx5
import Derived.Test.YthkpmiajcmihjaaDoorPx17
namespace Go.Proofs.YthkpmiajcmihjaaDoor.P
open Go.RowKit Go.Proofs.YthkpmiajcmihjaaDoorW.PrintWords Go.Proofs.YthkpmiajcmihjaaDoorW.PrintLast Go.Proofs.YthkpmiajcmihjaaDoorW.PrintMore
attribute [local go_sem] max2_int min2_int max_two min_two max_three min_three max_four min_four   -- for this text's walks alone
set_option linter.unusedVariables false
set_option linter.unusedSimpArgs false

/-! ### dec_Parse: function 22 -/
mutual
def dec_Parse.j0 : Nat → ByteArray → Bool → ByteArray → ByteArray → ByteArray → Int → Option (Bool × ByteArray × Int × Int)
  | 0, _, _, _, _, _, _ => none
  | k + 1, x0, x5, x6, x7, x410000, x410001 => (dec_reader_exponent.f k x410000 x410001).bind fun bt422 => (if bt422.2.2.1 = true then (dec_Parse.j1 k x5 x6 x7 bt422.1 bt422.2.1 (decide (bt422.2.2.2.2 < (x0.size : Int)))) else (dec_Parse.j1 k x5 x6 x7 bt422.1 bt422.2.1 true))
def dec_Parse.j1 : Nat → Bool → ByteArray → ByteArray → Bool → ByteArray → Bool → Option (Bool × ByteArray × Int × Int)
  | 0, _, _, _, _, _, _ => none
  | k + 1, x5, x6, x7, x8, x9, x46 => if x46 = true then (some (false, (⟨#[]⟩ : ByteArray), 0, 1)) else ((num_Int.f k x9).bind fun bt427 => (if (wrap64 ((x6.size : Int) + (x7.size : Int))) > 1000 then (dec_Parse.j2 k x5 x6 x7 x8 bt427.1 true) else (if bt427.2 = true then (dec_Parse.j2 k x5 x6 x7 x8 bt427.1 (decide (bt427.1 > 10000))) else (dec_Parse.j2 k x5 x6 x7 x8 bt427.1 true))))
def dec_Parse.j2 : Nat → Bool → ByteArray → ByteArray → Bool → Int → Bool → Option (Bool × ByteArray × Int × Int)
  | 0, _, _, _, _, _, _ => none
  | k + 1, x5, x6, x7, x8, x11, x66 => if x66 = true then (some (false, (⟨#[]⟩ : ByteArray), 0, 2)) else (if x8 = true then (if x6.size + x7.size ≤ 9223372036854775807 then ((dec_Made.f k x5 (x6 ++ x7) (wrap64 ((wrap64 (-x11)) - (x7.size : Int)))).bind fun bt429 => (some (bt429.1, bt429.2.1, bt429.2.2, 0))) else (none)) else (if x6.size + x7.size ≤ 9223372036854775807 then ((dec_Made.f k x5 (x6 ++ x7) (wrap64 (x11 - (x7.size : Int)))).bind fun bt432 => (some (bt432.1, bt432.2.1, bt432.2.2, 0))) else (none)))
end
def dec_Parse.f (k : Nat) (a0 : ByteArray) : Option (Bool × ByteArray × Int × Int) := (dec_reader_take.f a0 0 (⟨#[45]⟩ : ByteArray)).bind fun bt410 => ((dec_reader_digits.f k bt410.2.1 bt410.2.2).bind fun bt413 => (if bt413.1.toList = ([] : List UInt8) then (some (false, (⟨#[]⟩ : ByteArray), 0, 1)) else ((dec_reader_take.f bt413.2.1 bt413.2.2 (⟨#[46]⟩ : ByteArray)).bind fun bt416 => (if bt416.1 = true then ((dec_reader_digits.f k bt416.2.1 bt416.2.2).bind fun bt419 => (if bt419.1.toList = ([] : List UInt8) then (some (false, (⟨#[]⟩ : ByteArray), 0, 1)) else (dec_Parse.j0 k a0 bt410.1 bt413.1 bt419.1 bt419.2.1 bt419.2.2))) else (dec_Parse.j0 k a0 bt410.1 bt413.1 (⟨#[]⟩ : ByteArray) bt416.2.1 bt416.2.2)))))
theorem dec_Parse.mono_l : ∀ k, (∀ y0 y1 y2 y3 y4 y5, LeO (dec_Parse.j0 k y0 y1 y2 y3 y4 y5) (dec_Parse.j0 (k + 1) y0 y1 y2 y3 y4 y5)) ∧ (∀ y0 y1 y2 y3 y4 y5, LeO (dec_Parse.j1 k y0 y1 y2 y3 y4 y5) (dec_Parse.j1 (k + 1) y0 y1 y2 y3 y4 y5)) ∧ (∀ y0 y1 y2 y3 y4 y5, LeO (dec_Parse.j2 k y0 y1 y2 y3 y4 y5) (dec_Parse.j2 (k + 1) y0 y1 y2 y3 y4 y5))
  | 0 => ⟨fun _ _ _ _ _ _ r h => by simp [dec_Parse.j0] at h, fun _ _ _ _ _ _ r h => by simp [dec_Parse.j1] at h, fun _ _ _ _ _ _ r h => by simp [dec_Parse.j2] at h⟩
  | k + 1 => by
    obtain ⟨ih0, ih1, ih2⟩ := dec_Parse.mono_l k
    refine ⟨?_, ?_, ?_⟩
    · intro y0 y1 y2 y3 y4 y5
      unfold dec_Parse.j0
      repeat' first
      | (with_reducible exact ih0 _ _ _ _ _ _)
      | (with_reducible exact ih1 _ _ _ _ _ _)
      | (with_reducible exact ih2 _ _ _ _ _ _)
      | (with_reducible exact dec_Made.mono _ _ _ _)
      | (with_reducible exact dec_reader_digits.mono _ _ _)
      | (with_reducible exact dec_reader_exponent.mono _ _ _)
      | (with_reducible exact num_Int.mono _ _)
      | (with_reducible exact LeO.refl _)
      | (with_reducible exact LeO.none _)
      | (with_reducible refine LeO.ite ?_ ?_)
      | (with_reducible refine LeO.bind ?_ (fun _ => ?_))
      | exact ih0 _ _ _ _ _ _
      | exact ih1 _ _ _ _ _ _
      | exact ih2 _ _ _ _ _ _
      | exact dec_Made.mono _ _ _ _
      | exact dec_reader_digits.mono _ _ _
      | exact dec_reader_exponent.mono _ _ _
      | exact num_Int.mono _ _
      | exact LeO.none _
      | refine LeO.ite ?_ ?_
      | refine LeO.bind ?_ (fun _ => ?_)
    · intro y0 y1 y2 y3 y4 y5
      unfold dec_Parse.j1
      repeat' first
      | (with_reducible exact ih0 _ _ _ _ _ _)
      | (with_reducible exact ih1 _ _ _ _ _ _)
      | (with_reducible exact ih2 _ _ _ _ _ _)
      | (with_reducible exact dec_Made.mono _ _ _ _)
      | (with_reducible exact dec_reader_digits.mono _ _ _)
      | (with_reducible exact dec_reader_exponent.mono _ _ _)
      | (with_reducible exact num_Int.mono _ _)
      | (with_reducible exact LeO.refl _)
      | (with_reducible exact LeO.none _)
      | (with_reducible refine LeO.ite ?_ ?_)
      | (with_reducible refine LeO.bind ?_ (fun _ => ?_))
      | exact ih0 _ _ _ _ _ _
      | exact ih1 _ _ _ _ _ _
      | exact ih2 _ _ _ _ _ _
      | exact dec_Made.mono _ _ _ _
      | exact dec_reader_digits.mono _ _ _
      | exact dec_reader_exponent.mono _ _ _
      | exact num_Int.mono _ _
      | exact LeO.none _
      | refine LeO.ite ?_ ?_
      | refine LeO.bind ?_ (fun _ => ?_)
    · intro y0 y1 y2 y3 y4 y5
      unfold dec_Parse.j2
      repeat' first
      | (with_reducible exact ih0 _ _ _ _ _ _)
      | (with_reducible exact ih1 _ _ _ _ _ _)
      | (with_reducible exact ih2 _ _ _ _ _ _)
      | (with_reducible exact dec_Made.mono _ _ _ _)
      | (with_reducible exact dec_reader_digits.mono _ _ _)
      | (with_reducible exact dec_reader_exponent.mono _ _ _)
      | (with_reducible exact num_Int.mono _ _)
      | (with_reducible exact LeO.refl _)
      | (with_reducible exact LeO.none _)
      | (with_reducible refine LeO.ite ?_ ?_)
      | (with_reducible refine LeO.bind ?_ (fun _ => ?_))
      | exact ih0 _ _ _ _ _ _
      | exact ih1 _ _ _ _ _ _
      | exact ih2 _ _ _ _ _ _
      | exact dec_Made.mono _ _ _ _
      | exact dec_reader_digits.mono _ _ _
      | exact dec_reader_exponent.mono _ _ _
      | exact num_Int.mono _ _
      | exact LeO.none _
      | refine LeO.ite ?_ ?_
      | refine LeO.bind ?_ (fun _ => ?_)
theorem dec_Parse.mono : ∀ a0 k, LeO (dec_Parse.f k a0) (dec_Parse.f (k + 1) a0) := by
  intro a0 k
  obtain ⟨ih0, ih1, ih2⟩ := dec_Parse.mono_l k
  unfold dec_Parse.f
  repeat' first
      | (with_reducible exact ih0 _ _ _ _ _ _)
      | (with_reducible exact ih1 _ _ _ _ _ _)
      | (with_reducible exact ih2 _ _ _ _ _ _)
      | (with_reducible exact dec_Made.mono _ _ _ _)
      | (with_reducible exact dec_reader_digits.mono _ _ _)
      | (with_reducible exact dec_reader_exponent.mono _ _ _)
      | (with_reducible exact num_Int.mono _ _)
      | (with_reducible exact LeO.refl _)
      | (with_reducible exact LeO.none _)
      | (with_reducible refine LeO.ite ?_ ?_)
      | (with_reducible refine LeO.bind ?_ (fun _ => ?_))
      | exact ih0 _ _ _ _ _ _
      | exact ih1 _ _ _ _ _ _
      | exact ih2 _ _ _ _ _ _
      | exact dec_Made.mono _ _ _ _
      | exact dec_reader_digits.mono _ _ _
      | exact dec_reader_exponent.mono _ _ _
      | exact num_Int.mono _ _
      | exact LeO.none _
      | refine LeO.ite ?_ ?_
      | refine LeO.bind ?_ (fun _ => ?_)
set_option maxHeartbeats 8000000 in
set_option maxRecDepth 100000 in
theorem dec_Parse.calls (k : Nat) (a0 : ByteArray) (r1 : Bool) (r2 : ByteArray) (r3 : Int) (r4 : Int) (w : World) (h : dec_Parse.f k a0 = some (r1, r2, r3, r4)) :
    Calls Tryd.prog 22 #[.string a0] w fun e w' => e = .returned (.tuple #[.agg #[.bool r1, .string r2, .int .i64 r3], .int .i64 r4]) ∧ Below w.heap.size w w' := by
  have hu29 := Tryd.underlying29
  have hu76 := Tryd.underlying76
  have HB := Aside0.mk (Below.refl w.heap.size w)
  have H : ((dec_reader_take.f a0 0 (⟨#[45]⟩ : ByteArray)).bind fun bt410 => ((dec_reader_digits.f k bt410.2.1 bt410.2.2).bind fun bt413 => (if bt413.1.toList = ([] : List UInt8) then (some (false, (⟨#[]⟩ : ByteArray), 0, 1)) else ((dec_reader_take.f bt413.2.1 bt413.2.2 (⟨#[46]⟩ : ByteArray)).bind fun bt416 => (if bt416.1 = true then ((dec_reader_digits.f k bt416.2.1 bt416.2.2).bind fun bt419 => (if bt419.1.toList = ([] : List UInt8) then (some (false, (⟨#[]⟩ : ByteArray), 0, 1)) else (dec_Parse.j0 k a0 bt410.1 bt413.1 bt419.1 bt419.2.1 bt419.2.2))) else (dec_Parse.j0 k a0 bt410.1 bt413.1 (⟨#[]⟩ : ByteArray) bt416.2.1 bt416.2.2)))))) = some (r1, r2, r3, r4) := h
  clear h
  replace H := Option.bind_eq_some_iff.mp H
  obtain ⟨⟨t410, t411, t412⟩, A20, H⟩ := H
  replace H : ((dec_reader_digits.f k t411 t412).bind fun bt413 => (if bt413.1.toList = ([] : List UInt8) then (some (false, (⟨#[]⟩ : ByteArray), 0, 1)) else ((dec_reader_take.f bt413.2.1 bt413.2.2 (⟨#[46]⟩ : ByteArray)).bind fun bt416 => (if bt416.1 = true then ((dec_reader_digits.f k bt416.2.1 bt416.2.2).bind fun bt419 => (if bt419.1.toList = ([] : List UInt8) then (some (false, (⟨#[]⟩ : ByteArray), 0, 1)) else (dec_Parse.j0 k a0 t410 bt413.1 bt419.1 bt419.2.1 bt419.2.2))) else (dec_Parse.j0 k a0 t410 bt413.1 (⟨#[]⟩ : ByteArray) bt416.2.1 bt416.2.2))))) = some (r1, r2, r3, r4) := H
  have A2 := Aside0.mk A20
  clear A20
  replace H := Option.bind_eq_some_iff.mp H
  obtain ⟨⟨t413, t414, t415⟩, A30, H⟩ := H
  replace H : (if t413.toList = ([] : List UInt8) then (some (false, (⟨#[]⟩ : ByteArray), 0, 1)) else ((dec_reader_take.f t414 t415 (⟨#[46]⟩ : ByteArray)).bind fun bt416 => (if bt416.1 = true then ((dec_reader_digits.f k bt416.2.1 bt416.2.2).bind fun bt419 => (if bt419.1.toList = ([] : List UInt8) then (some (false, (⟨#[]⟩ : ByteArray), 0, 1)) else (dec_Parse.j0 k a0 t410 t413 bt419.1 bt419.2.1 bt419.2.2))) else (dec_Parse.j0 k a0 t410 t413 (⟨#[]⟩ : ByteArray) bt416.2.1 bt416.2.2)))) = some (r1, r2, r3, r4) := H
  have A3 := Aside0.mk A30
  clear A30
  by_cases c4 : t413.toList = ([] : List UInt8)
  · rw [if_pos c4] at H
    have c4b0 : (t413.toList == ([] : List UInt8)) = true := beq_iff_eq.mpr c4
    have c4b1 : (t413.toList != ([] : List UInt8)) = false := bne_eq_false_iff_eq.mpr c4
    have c4b2 : (t413.toList.isEmpty) = true := by rw [c4]; rfl
    clear c4
    simp only [Option.some.injEq, Prod.mk.injEq] at H
    obtain ⟨rfl, rfl, rfl, rfl⟩ := H
    go_enter Tryd.func22, Tryd.ntmps22
    go_wp2_with (first | ((with_reducible refine gate_dst (N := 2) rfl ?_); (try (refine gate_guard (by rfl) ?_; dsimp only)); refine be_ 2 #[.bool false, .string (⟨#[]⟩ : ByteArray), .int .i64 0] 29 ?_; intro gb408 hg w5 hbox hb; have BK408 := Aside0.mk (hbox); have GW408 := sz_ HB hg; have GE408 := sz_ HB hg; replace HB := Aside0.mk (below_step (bl_ HB).out hb); clear hb hbox hg) | ((with_reducible refine gate_dst (N := 15) rfl ?_); (try (refine gate_guard (by rfl) ?_; dsimp only)); refine be_ 15 #[.string a0, .int .i64 0] 76 ?_; intro gb409 hg w6 hbox hb; have n0_ := bb_ BK408 hb; have n1_ := Aside0.mk (below_step (bl_ HB).out hb); have n2_ := Aside0.mk (hbox); have n3_ := na_ BK408 hg; have n4_ := nb_ BK408 hg; have n5_ := Aside0.mk ((⟨hbox, (by rw [hg]; exact (below_size (bl_ HB).out) : w.heap.size ≤ gb409)⟩ : IsS76 w w6 gb409 a0 0)); clear BK408; clear HB; have BK408 := n0_; have HB := n1_; have HI409 := n2_; have NB408_409 := n3_; have NB409_408 := n4_; have HI409 := n5_; clear n0_ n1_ n2_ n3_ n4_ n5_; clear hb hbox hg) | ((with_reducible refine gate_callee (f := 43) rfl ?_); refine gl_ (some 17) Tryd.func43 #[.pointer (some ⟨gb409, 0, none⟩), .string (⟨#[45]⟩ : ByteArray)] ?_; (with_reducible refine (dec_reader_take.calls gb409 a0 0 (⟨#[45]⟩ : ByteArray) t410 t411 t412 w _ ?side1 ?side2 A2.out).mono ?_); (case side1 => repeat (first | (with_reducible first | exact HI409.out | apply IsS76.alloc | apply IsS76.drewN | apply IsS76.drew | apply IsS76.set_0 | apply IsS76.set_1 | refine IsS76.far ?_ NB409_408.out _) | exact HI409.out)); (case side2 => repeat (first | (with_reducible first | exact HB.out | apply below_alloc | apply pw_below_drewN | apply below_drew1 | refine below_set ?_ (IsS76.ge HI409.out) | refine below_set ?_ GE408.out) | exact HB.out)); rintro e w7 ⟨rfl, hi, hb, hk⟩; refine ⟨_, rfl, ?_⟩; have n0_ := Aside0.mk (KeepBut.blk hk (g' := gb408) (o := .cells #[.bool false, .string (⟨#[]⟩ : ByteArray), .int .i64 0] 29 (0, 0)) (by (with_reducible repeat (first | refine blk_drewN ?_ _ | refine blk_drew ?_ | refine blk_alloc ?_ _)); exact BK408.out) NB408_409.out (by simp)); have n1_ := Aside0.mk (hb); have n2_ := Aside0.mk (hi); clear BK408; clear HB; clear HI409; have BK408 := n0_; have HB := n1_; have HI409 := n2_; clear n0_ n1_ n2_; (try clear hb); (try clear hb2); (try clear hk); (try clear hi)) | ((with_reducible refine gate_callee (f := 44) rfl ?_); refine gl_ (some 19) Tryd.func44 #[.pointer (some ⟨gb409, 0, none⟩)] ?_; (with_reducible refine (dec_reader_digits.calls k gb409 t411 t412 t413 t414 t415 w _ ?side1 ?side2 A3.out).mono ?_); (case side1 => repeat (first | (with_reducible first | exact HI409.out | apply IsS76.alloc | apply IsS76.drewN | apply IsS76.drew | apply IsS76.set_0 | apply IsS76.set_1 | refine IsS76.far ?_ NB409_408.out _) | exact HI409.out)); (case side2 => repeat (first | (with_reducible first | exact HB.out | apply below_alloc | apply pw_below_drewN | apply below_drew1 | refine below_set ?_ (IsS76.ge HI409.out) | refine below_set ?_ GE408.out) | exact HB.out)); rintro e w8 ⟨rfl, hi, hb, hk⟩; refine ⟨_, rfl, ?_⟩; have n0_ := Aside0.mk (KeepBut.blk hk (g' := gb408) (o := .cells #[.bool false, .string (⟨#[]⟩ : ByteArray), .int .i64 0] 29 (0, 0)) (by (with_reducible repeat (first | refine blk_drewN ?_ _ | refine blk_drew ?_ | refine blk_alloc ?_ _)); exact BK408.out) NB408_409.out (by simp)); have n1_ := Aside0.mk (hb); have n2_ := Aside0.mk (hi); clear BK408; clear HB; clear HI409; have BK408 := n0_; have HB := n1_; have HI409 := n2_; clear n0_ n1_ n2_; (try clear hb); (try clear hb2); (try clear hk); (try clear hi); have hnb9 := NB408_409.out; have hnc9 := NB409_408.out; obtain ⟨hcz10_0, hcz10_1, hcz10_2, hfz10_0, hfz10_1, hfz10_2⟩ := bo3_ BK408))
    refine bodyPost_ret (results_ct rfl _ _ gb408 29 #[.bool false, .string (⟨#[]⟩ : ByteArray), .int .i64 0] (0, 0) _ rfl (by (with_reducible repeat (first | refine blk_drewN ?_ _ | refine blk_drew ?_ | refine blk_alloc ?_ _)); refine blk_put (cs := #[.bool false, .string (⟨#[]⟩ : ByteArray), .int .i64 0]) ?_ 2 _ rfl; (with_reducible repeat (first | refine blk_drewN ?_ _ | refine blk_drew ?_ | refine blk_alloc ?_ _)); refine blk_put (cs := #[.bool false, .string (⟨#[]⟩ : ByteArray), .int .i64 0]) ?_ 1 _ rfl; (with_reducible repeat (first | refine blk_drewN ?_ _ | refine blk_drew ?_ | refine blk_alloc ?_ _)); refine blk_put (cs := #[.bool false, .string (⟨#[]⟩ : ByteArray), .int .i64 0]) ?_ 0 _ rfl; (with_reducible repeat (first | refine blk_drewN ?_ _ | refine blk_drew ?_ | refine blk_alloc ?_ _)); exact BK408.out) Tryd.underlying29 rfl (by kernel_rfl)) rfl ?_
    exact ⟨ew_, by repeat (first | (with_reducible first | exact HB.out | apply below_alloc | apply pw_below_drewN | apply below_drew1 | refine below_set ?_ (IsS76.ge HI409.out) | refine below_set ?_ GE408.out) | exact HB.out)⟩
  · rw [if_neg c4] at H
    have c4b0 : (t413.toList == ([] : List UInt8)) = false := beq_eq_false_iff_ne.mpr c4
    have c4b1 : (t413.toList != ([] : List UInt8)) = true := bne_iff_ne.mpr c4
    have c4b2 : (t413.toList.isEmpty) = false := by rw [given_isEmpty, bne_iff_ne.mpr c4]; rfl
    replace H := Option.bind_eq_some_iff.mp H
    obtain ⟨⟨t416, t417, t418⟩, A110, H⟩ := H
    replace H : (if t416 = true then ((dec_reader_digits.f k t417 t418).bind fun bt419 => (if bt419.1.toList = ([] : List UInt8) then (some (false, (⟨#[]⟩ : ByteArray), 0, 1)) else (dec_Parse.j0 k a0 t410 t413 bt419.1 bt419.2.1 bt419.2.2))) else (dec_Parse.j0 k a0 t410 t413 (⟨#[]⟩ : ByteArray) t417 t418)) = some (r1, r2, r3, r4) := H
    have A11 := Aside0.mk A110
    clear A110
    have HC12 := Aside0.mk H
    clear H
    go_enter Tryd.func22, Tryd.ntmps22
    go_upto_if 24 with (first | ((with_reducible refine gate_dst (N := 2) rfl ?_); (try (refine gate_guard (by rfl) ?_; dsimp only)); refine be_ 2 #[.bool false, .string (⟨#[]⟩ : ByteArray), .int .i64 0] 29 ?_; intro gb408 hg w13 hbox hb; have BK408 := Aside0.mk (hbox); have GW408 := sz_ HB hg; have GE408 := sz_ HB hg; replace HB := Aside0.mk (below_step (bl_ HB).out hb); clear hb hbox hg) | ((with_reducible refine gate_dst (N := 15) rfl ?_); (try (refine gate_guard (by rfl) ?_; dsimp only)); refine be_ 15 #[.string a0, .int .i64 0] 76 ?_; intro gb409 hg w14 hbox hb; have n0_ := bb_ BK408 hb; have n1_ := Aside0.mk (below_step (bl_ HB).out hb); have n2_ := Aside0.mk (hbox); have n3_ := na_ BK408 hg; have n4_ := nb_ BK408 hg; have n5_ := Aside0.mk ((⟨hbox, (by rw [hg]; exact (below_size (bl_ HB).out) : w.heap.size ≤ gb409)⟩ : IsS76 w w14 gb409 a0 0)); clear BK408; clear HB; have BK408 := n0_; have HB := n1_; have HI409 := n2_; have NB408_409 := n3_; have NB409_408 := n4_; have HI409 := n5_; clear n0_ n1_ n2_ n3_ n4_ n5_; clear hb hbox hg) | ((with_reducible refine gate_callee (f := 43) rfl ?_); refine gl_ (some 17) Tryd.func43 #[.pointer (some ⟨gb409, 0, none⟩), .string (⟨#[45]⟩ : ByteArray)] ?_; (with_reducible refine (dec_reader_take.calls gb409 a0 0 (⟨#[45]⟩ : ByteArray) t410 t411 t412 w _ ?side1 ?side2 A2.out).mono ?_); (case side1 => repeat (first | (with_reducible first | exact HI409.out | apply IsS76.alloc | apply IsS76.drewN | apply IsS76.drew | apply IsS76.set_0 | apply IsS76.set_1 | refine IsS76.far ?_ NB409_408.out _) | exact HI409.out)); (case side2 => repeat (first | (with_reducible first | exact HB.out | apply below_alloc | apply pw_below_drewN | apply below_drew1 | refine below_set ?_ (IsS76.ge HI409.out) | refine below_set ?_ GE408.out) | exact HB.out)); rintro e w15 ⟨rfl, hi, hb, hk⟩; refine ⟨_, rfl, ?_⟩; have n0_ := Aside0.mk (KeepBut.blk hk (g' := gb408) (o := .cells #[.bool false, .string (⟨#[]⟩ : ByteArray), .int .i64 0] 29 (0, 0)) (by (with_reducible repeat (first | refine blk_drewN ?_ _ | refine blk_drew ?_ | refine blk_alloc ?_ _)); exact BK408.out) NB408_409.out (by simp)); have n1_ := Aside0.mk (hb); have n2_ := Aside0.mk (hi); clear BK408; clear HB; clear HI409; have BK408 := n0_; have HB := n1_; have HI409 := n2_; clear n0_ n1_ n2_; (try clear hb); (try clear hb2); (try clear hk); (try clear hi)) | ((with_reducible refine gate_callee (f := 44) rfl ?_); refine gl_ (some 19) Tryd.func44 #[.pointer (some ⟨gb409, 0, none⟩)] ?_; (with_reducible refine (dec_reader_digits.calls k gb409 t411 t412 t413 t414 t415 w _ ?side1 ?side2 A3.out).mono ?_); (case side1 => repeat (first | (with_reducible first | exact HI409.out | apply IsS76.alloc | apply IsS76.drewN | apply IsS76.drew | apply IsS76.set_0 | apply IsS76.set_1 | refine IsS76.far ?_ NB409_408.out _) | exact HI409.out)); (case side2 => repeat (first | (with_reducible first | exact HB.out | apply below_alloc | apply pw_below_drewN | apply below_drew1 | refine below_set ?_ (IsS76.ge HI409.out) | refine below_set ?_ GE408.out) | exact HB.out)); rintro e w16 ⟨rfl, hi, hb, hk⟩; refine ⟨_, rfl, ?_⟩; have n0_ := Aside0.mk (KeepBut.blk hk (g' := gb408) (o := .cells #[.bool false, .string (⟨#[]⟩ : ByteArray), .int .i64 0] 29 (0, 0)) (by (with_reducible repeat (first | refine blk_drewN ?_ _ | refine blk_drew ?_ | refine blk_alloc ?_ _)); exact BK408.out) NB408_409.out (by simp)); have n1_ := Aside0.mk (hb); have n2_ := Aside0.mk (hi); clear BK408; clear HB; clear HI409; have BK408 := n0_; have HB := n1_; have HI409 := n2_; clear n0_ n1_ n2_; (try clear hb); (try clear hb2); (try clear hk); (try clear hi)) | ((with_reducible refine gate_callee (f := 43) rfl ?_); refine gl_ (some 24) Tryd.func43 #[.pointer (some ⟨gb409, 0, none⟩), .string (⟨#[46]⟩ : ByteArray)] ?_; (with_reducible refine (dec_reader_take.calls gb409 t414 t415 (⟨#[46]⟩ : ByteArray) t416 t417 t418 w _ ?side1 ?side2 A11.out).mono ?_); (case side1 => repeat (first | (with_reducible first | exact HI409.out | apply IsS76.alloc | apply IsS76.drewN | apply IsS76.drew | apply IsS76.set_0 | apply IsS76.set_1 | refine IsS76.far ?_ NB409_408.out _) | exact HI409.out)); (case side2 => repeat (first | (with_reducible first | exact HB.out | apply below_alloc | apply pw_below_drewN | apply below_drew1 | refine below_set ?_ (IsS76.ge HI409.out) | refine below_set ?_ GE408.out) | exact HB.out)); rintro e w17 ⟨rfl, hi, hb, hk⟩; refine ⟨_, rfl, ?_⟩; have n0_ := Aside0.mk (KeepBut.blk hk (g' := gb408) (o := .cells #[.bool false, .string (⟨#[]⟩ : ByteArray), .int .i64 0] 29 (0, 0)) (by (with_reducible repeat (first | refine blk_drewN ?_ _ | refine blk_drew ?_ | refine blk_alloc ?_ _)); exact BK408.out) NB408_409.out (by simp)); have n1_ := Aside0.mk (hb); have n2_ := Aside0.mk (hi); clear BK408; clear HB; clear HI409; have BK408 := n0_; have HB := n1_; have HI409 := n2_; clear n0_ n1_ n2_; (try clear hb); (try clear hb2); (try clear hk); (try clear hi)))
    (try simp only [Act.put, List.setIfInBounds_toArray, List.set_cons_zero, List.set_cons_succ])
    go_cut [7] (fun v7 wc => ∃ (kq : Nat) (x7_11 : ByteArray) (x409000_11 : Bool) (x409001_11 : ByteArray) (x409002_11 : Int) (x410000_11 : ByteArray) (x410001_11 : Int), v7 = .string x7_11 ∧ Aside0 (dec_Parse.j0 kq a0 t410 t413 x7_11 x410000_11 x410001_11 = some (r1, r2, r3, r4)) ∧ Aside0 (kq ≤ k) ∧ Aside0 (wc.heap[gb408]? = some (.cells #[.bool x409000_11, .string x409001_11, .int .i64 x409002_11] 29 (0, 0))) ∧ Aside0 (IsS76 w wc gb409 x410000_11 x410001_11) ∧ Aside0 (Below w.heap.size w wc))
    case first =>
      have H := HC12.out
      clear HC12
      by_cases c18 : t416 = true
      · subst c18
        have H1 : ((dec_reader_digits.f k t417 t418).bind fun bt419 => (if bt419.1.toList = ([] : List UInt8) then (some (false, (⟨#[]⟩ : ByteArray), 0, 1)) else (dec_Parse.j0 k a0 t410 t413 bt419.1 bt419.2.1 bt419.2.2))) = some (r1, r2, r3, r4) := by rw [if_pos rfl] at H; exact H
        clear H
        have H := H1
        clear H1
        replace H := Option.bind_eq_some_iff.mp H
        obtain ⟨⟨t419, t420, t421⟩, A190, H⟩ := H
        replace H : (if t419.toList = ([] : List UInt8) then (some (false, (⟨#[]⟩ : ByteArray), 0, 1)) else (dec_Parse.j0 k a0 t410 t413 t419 t420 t421)) = some (r1, r2, r3, r4) := H
        have A19 := Aside0.mk A190
        clear A190
        by_cases c20 : t419.toList = ([] : List UInt8)
        · rw [if_pos c20] at H
          have c20b0 : (t419.toList == ([] : List UInt8)) = true := beq_iff_eq.mpr c20
          have c20b1 : (t419.toList != ([] : List UInt8)) = false := bne_eq_false_iff_eq.mpr c20
          have c20b2 : (t419.toList.isEmpty) = true := by rw [c20]; rfl
          clear c20
          (first | rw [c20b0] | (simp only [i64_w, i32_w]; rw [c20b0]) | rw [c20b2] | skip)
          simp only [Option.some.injEq, Prod.mk.injEq] at H
          obtain ⟨rfl, rfl, rfl, rfl⟩ := H
          go_wp2_with (first | ((with_reducible refine gate_callee (f := 44) rfl ?_); refine gl_ (some 26) Tryd.func44 #[.pointer (some ⟨gb409, 0, none⟩)] ?_; (with_reducible refine (dec_reader_digits.calls k gb409 t417 t418 t419 t420 t421 w _ ?side1 ?side2 A19.out).mono ?_); (case side1 => repeat (first | (with_reducible first | exact HI409.out | apply IsS76.alloc | apply IsS76.drewN | apply IsS76.drew | apply IsS76.set_0 | apply IsS76.set_1 | refine IsS76.far ?_ NB409_408.out _) | exact HI409.out)); (case side2 => repeat (first | (with_reducible first | exact HB.out | apply below_alloc | apply pw_below_drewN | apply below_drew1 | refine below_set ?_ (IsS76.ge HI409.out) | refine below_set ?_ GE408.out) | exact HB.out)); rintro e w21 ⟨rfl, hi, hb, hk⟩; refine ⟨_, rfl, ?_⟩; have n0_ := Aside0.mk (KeepBut.blk hk (g' := gb408) (o := .cells #[.bool false, .string (⟨#[]⟩ : ByteArray), .int .i64 0] 29 (0, 0)) (by (with_reducible repeat (first | refine blk_drewN ?_ _ | refine blk_drew ?_ | refine blk_alloc ?_ _)); exact BK408.out) NB408_409.out (by simp)); have n1_ := Aside0.mk (hb); have n2_ := Aside0.mk (hi); clear BK408; clear HB; clear HI409; have BK408 := n0_; have HB := n1_; have HI409 := n2_; clear n0_ n1_ n2_; (try clear hb); (try clear hb2); (try clear hk); (try clear hi); have hnb22 := NB408_409.out; have hnc22 := NB409_408.out; obtain ⟨hcz23_0, hcz23_1, hcz23_2, hfz23_0, hfz23_1, hfz23_2⟩ := bo3_ BK408))
          refine bodyPost_ret (results_ct rfl _ _ gb408 29 #[.bool false, .string (⟨#[]⟩ : ByteArray), .int .i64 0] (0, 0) _ rfl (by (with_reducible repeat (first | refine blk_drewN ?_ _ | refine blk_drew ?_ | refine blk_alloc ?_ _)); refine blk_put (cs := #[.bool false, .string (⟨#[]⟩ : ByteArray), .int .i64 0]) ?_ 2 _ rfl; (with_reducible repeat (first | refine blk_drewN ?_ _ | refine blk_drew ?_ | refine blk_alloc ?_ _)); refine blk_put (cs := #[.bool false, .string (⟨#[]⟩ : ByteArray), .int .i64 0]) ?_ 1 _ rfl; (with_reducible repeat (first | refine blk_drewN ?_ _ | refine blk_drew ?_ | refine blk_alloc ?_ _)); refine blk_put (cs := #[.bool false, .string (⟨#[]⟩ : ByteArray), .int .i64 0]) ?_ 0 _ rfl; (with_reducible repeat (first | refine blk_drewN ?_ _ | refine blk_drew ?_ | refine blk_alloc ?_ _)); exact BK408.out) Tryd.underlying29 rfl (by kernel_rfl)) rfl ?_
          exact ⟨ew_, by repeat (first | (with_reducible first | exact HB.out | apply below_alloc | apply pw_below_drewN | apply below_drew1 | refine below_set ?_ (IsS76.ge HI409.out) | refine below_set ?_ GE408.out) | exact HB.out)⟩
        · rw [if_neg c20] at H
          have c20b0 : (t419.toList == ([] : List UInt8)) = false := beq_eq_false_iff_ne.mpr c20
          have c20b1 : (t419.toList != ([] : List UInt8)) = true := bne_iff_ne.mpr c20
          have c20b2 : (t419.toList.isEmpty) = false := by rw [given_isEmpty, bne_iff_ne.mpr c20]; rfl
          (first | rw [c20b0] | (simp only [i64_w, i32_w]; rw [c20b0]) | rw [c20b2] | skip)
          have H' := Aside0.mk H
          clear H
          go_wp2_with (first | ((with_reducible refine gate_callee (f := 44) rfl ?_); refine gl_ (some 26) Tryd.func44 #[.pointer (some ⟨gb409, 0, none⟩)] ?_; (with_reducible refine (dec_reader_digits.calls k gb409 t417 t418 t419 t420 t421 w _ ?side1 ?side2 A19.out).mono ?_); (case side1 => repeat (first | (with_reducible first | exact HI409.out | apply IsS76.alloc | apply IsS76.drewN | apply IsS76.drew | apply IsS76.set_0 | apply IsS76.set_1 | refine IsS76.far ?_ NB409_408.out _) | exact HI409.out)); (case side2 => repeat (first | (with_reducible first | exact HB.out | apply below_alloc | apply pw_below_drewN | apply below_drew1 | refine below_set ?_ (IsS76.ge HI409.out) | refine below_set ?_ GE408.out) | exact HB.out)); rintro e w24 ⟨rfl, hi, hb, hk⟩; refine ⟨_, rfl, ?_⟩; have n0_ := Aside0.mk (KeepBut.blk hk (g' := gb408) (o := .cells #[.bool false, .string (⟨#[]⟩ : ByteArray), .int .i64 0] 29 (0, 0)) (by (with_reducible repeat (first | refine blk_drewN ?_ _ | refine blk_drew ?_ | refine blk_alloc ?_ _)); exact BK408.out) NB408_409.out (by simp)); have n1_ := Aside0.mk (hb); have n2_ := Aside0.mk (hi); clear BK408; clear HB; clear HI409; have BK408 := n0_; have HB := n1_; have HI409 := n2_; clear n0_ n1_ n2_; (try clear hb); (try clear hb2); (try clear hk); (try clear hi)))
          go_meet
          case rel => exact ⟨_, (t419), (false), ((⟨#[]⟩ : ByteArray)), (0), (t420), (t421), eq_, H', ⟨by first | omega | exact Nat.le_refl _⟩, (bk_ BK408), ⟨by repeat (first | (with_reducible first | exact HI409.out | apply IsS76.alloc | apply IsS76.drewN | apply IsS76.drew | apply IsS76.set_0 | apply IsS76.set_1 | refine IsS76.far ?_ NB409_408.out _) | exact HI409.out)⟩, ⟨by repeat (first | (with_reducible first | exact HB.out | apply below_alloc | apply pw_below_drewN | apply below_drew1 | refine below_set ?_ (IsS76.ge HI409.out) | refine below_set ?_ GE408.out) | exact HB.out)⟩⟩
      · replace c18 := Bool.eq_false_iff.mpr c18
        subst c18
        have H1 : (dec_Parse.j0 k a0 t410 t413 (⟨#[]⟩ : ByteArray) t417 t418) = some (r1, r2, r3, r4) := by rw [if_neg (show ¬ (false = true) by decide)] at H; exact H
        clear H
        have H := H1
        clear H1
        have H' := Aside0.mk H
        clear H
        go_wp2
        go_meet
        case rel => exact ⟨_, ((⟨#[]⟩ : ByteArray)), (false), ((⟨#[]⟩ : ByteArray)), (0), (t417), (t418), eq_, H', ⟨by first | omega | exact Nat.le_refl _⟩, (bk_ BK408), ⟨by repeat (first | (with_reducible first | exact HI409.out | apply IsS76.alloc | apply IsS76.drewN | apply IsS76.drew | apply IsS76.set_0 | apply IsS76.set_1 | refine IsS76.far ?_ NB409_408.out _) | exact HI409.out)⟩, ⟨by repeat (first | (with_reducible first | exact HB.out | apply below_alloc | apply pw_below_drewN | apply below_drew1 | refine below_set ?_ (IsS76.ge HI409.out) | refine below_set ?_ GE408.out) | exact HB.out)⟩⟩
    case rest =>
      clear HC12
      try clear c1
      try clear c2
      try clear p2
      try clear c4
      try clear c4b0
      try clear c4b1
      try clear c4b2
      try clear p6
      try clear c9
      try clear c18
      try clear c20
      try clear c20b0
      try clear c20b1
      try clear c20b2
      try clear c22
      try clear hcz10_0
      try clear hcz10_1
      try clear hcz10_2
      try clear hcz23_0
      try clear hcz23_1
      try clear hcz23_2
      try clear hfz10_0
      try clear hfz10_1
      try clear hfz10_2
      try clear hfz23_0
      try clear hfz23_1
      try clear hfz23_2
      obtain ⟨kq, x7_11, x409000_11, x409001_11, x409002_11, x410000_11, x410001_11, rfl, HA, HJ11, BK408, HI409, HB⟩ := hcut
      cases kq with
      | zero => exact absurd HA.out (by simp [dec_Parse.j0])
      | succ kj11 =>
        have H := HA.out
        clear HA
        simp only [dec_Parse.j0] at H
        replace H := Option.bind_eq_some_iff.mp H
        obtain ⟨⟨t422, t423, t424, t425, t426⟩, A250, H⟩ := H
        replace H : (if t424 = true then (dec_Parse.j1 kj11 t410 t413 x7_11 t422 t423 (decide (t426 < (a0.size : Int)))) else (dec_Parse.j1 kj11 t410 t413 x7_11 t422 t423 true)) = some (r1, r2, r3, r4) := H
        have A25 := Aside0.mk A250
        clear A250
        have HC26 := Aside0.mk H
        clear H
        go_upto_region 11 with (first | ((with_reducible refine gate_callee (f := 45) rfl ?_); refine gl_ (some 32) Tryd.func45 #[.pointer (some ⟨gb409, 0, none⟩)] ?_; (with_reducible refine (dec_reader_exponent.calls kj11 gb409 x410000_11 x410001_11 t422 t423 t424 t425 t426 w _ ?side1 ?side2 A25.out).mono ?_); (case side1 => repeat (first | (with_reducible first | exact HI409.out | apply IsS76.alloc | apply IsS76.drewN | apply IsS76.drew | apply IsS76.set_0 | apply IsS76.set_1 | refine IsS76.far ?_ NB409_408.out _) | exact HI409.out)); (case side2 => repeat (first | (with_reducible first | exact HB.out | apply below_alloc | apply pw_below_drewN | apply below_drew1 | refine below_set ?_ (IsS76.ge HI409.out) | refine below_set ?_ GE408.out) | exact HB.out)); rintro e w27 ⟨rfl, hi, hb, hk⟩; refine ⟨_, rfl, ?_⟩; have n0_ := Aside0.mk (KeepBut.blk hk (g' := gb408) (o := .cells #[.bool x409000_11, .string x409001_11, .int .i64 x409002_11] 29 (0, 0)) (by (with_reducible repeat (first | refine blk_drewN ?_ _ | refine blk_drew ?_ | refine blk_alloc ?_ _)); exact BK408.out) NB408_409.out (by simp)); have n1_ := Aside0.mk (hb); have n2_ := Aside0.mk (hi); clear BK408; clear HB; clear HI409; have BK408 := n0_; have HB := n1_; have HI409 := n2_; clear n0_ n1_ n2_; (try clear hb); (try clear hb2); (try clear hk); (try clear hi)))
        (try simp only [Act.put, List.setIfInBounds_toArray, List.set_cons_zero, List.set_cons_succ])
        go_cut [46] (fun v46 wc => ∃ (kq : Nat) (x46_25 : Bool), v46 = .bool x46_25 ∧ Aside0 (dec_Parse.j1 kq t410 t413 x7_11 t422 t423 x46_25 = some (r1, r2, r3, r4)) ∧ Aside0 (kq ≤ kj11) ∧ Aside0 (wc.heap[gb408]? = some (.cells #[.bool x409000_11, .string x409001_11, .int .i64 x409002_11] 29 (0, 0))) ∧ Aside0 (Below w.heap.size w wc))
        case first =>
          have H := HC26.out
          clear HC26
          by_cases c28 : t424 = true
          · subst c28
            have H1 : (dec_Parse.j1 kj11 t410 t413 x7_11 t422 t423 (decide (t426 < (a0.size : Int)))) = some (r1, r2, r3, r4) := by rw [if_pos rfl] at H; exact H
            clear H
            have H := H1
            clear H1
            have H' := Aside0.mk H
            clear H
            obtain ⟨HGz29, hgz29⟩ := HI409.out
            have hcz29_0 := cellS76_0 HGz29
            have hcz29_1 := cellS76_1 HGz29
            have hfz29_0 := blk_frozen HGz29 0
            have hfz29_1 := blk_frozen HGz29 1
            clear HGz29 hgz29
            go_wp2
            go_meet
            case rel => exact ⟨_, (decide (t426 < (a0.size : Int))), eq_, H', ⟨by have := HJ11.out; first | omega | exact Nat.le_refl _⟩, (bk_ BK408), ⟨by repeat (first | (with_reducible first | exact HB.out | apply below_alloc | apply pw_below_drewN | apply below_drew1 | refine below_set ?_ (IsS76.ge HI409.out) | refine below_set ?_ GE408.out) | exact HB.out)⟩⟩
          · replace c28 := Bool.eq_false_iff.mpr c28
            subst c28
            have H1 : (dec_Parse.j1 kj11 t410 t413 x7_11 t422 t423 true) = some (r1, r2, r3, r4) := by rw [if_neg (show ¬ (false = true) by decide)] at H; exact H
            clear H
            have H := H1
            clear H1
            have H' := Aside0.mk H
            clear H
            go_wp2
            go_meet
            case rel => exact ⟨_, (true), eq_, H', ⟨by have := HJ11.out; first | omega | exact Nat.le_refl _⟩, (bk_ BK408), ⟨by repeat (first | (with_reducible first | exact HB.out | apply below_alloc | apply pw_below_drewN | apply below_drew1 | refine below_set ?_ (IsS76.ge HI409.out) | refine below_set ?_ GE408.out) | exact HB.out)⟩⟩
        case rest =>
          clear HC26
          try clear c1
          try clear c2
          try clear p2
          try clear c4
          try clear c4b0
          try clear c4b1
          try clear c4b2
          try clear p6
          try clear c9
          try clear c18
          try clear c20
          try clear c20b0
          try clear c20b1
          try clear c20b2
          try clear c22
          try clear c28
          try clear hcz10_0
          try clear hcz10_1
          try clear hcz10_2
          try clear hcz23_0
          try clear hcz23_1
          try clear hcz23_2
          try clear hcz29_0
          try clear hcz29_1
          try clear hfz10_0
          try clear hfz10_1
          try clear hfz10_2
          try clear hfz23_0
          try clear hfz23_1
          try clear hfz23_2
          try clear hfz29_0
          try clear hfz29_1
          try clear p2
          try clear p6
          obtain ⟨kq, x46_25, rfl, HA, HJ25, BK408, HB⟩ := hcut
          cases kq with
          | zero => exact absurd HA.out (by simp [dec_Parse.j1])
          | succ kj25 =>
            have H := HA.out
            clear HA
            simp only [dec_Parse.j1] at H
            by_cases c30 : x46_25 = true
            · subst c30
              have H1 : (some (false, (⟨#[]⟩ : ByteArray), 0, 1)) = some (r1, r2, r3, r4) := by rw [if_pos rfl] at H; exact H
              clear H
              have H := H1
              clear H1
              simp only [Option.some.injEq, Prod.mk.injEq] at H
              obtain ⟨rfl, rfl, rfl, rfl⟩ := H
              obtain ⟨hcz31_0, hcz31_1, hcz31_2, hfz31_0, hfz31_1, hfz31_2⟩ := bo3_ BK408
              go_wp2
              refine bodyPost_ret (results_ct rfl _ _ gb408 29 #[.bool false, .string (⟨#[]⟩ : ByteArray), .int .i64 0] (0, 0) _ rfl (by (with_reducible repeat (first | refine blk_drewN ?_ _ | refine blk_drew ?_ | refine blk_alloc ?_ _)); refine blk_put (cs := #[.bool false, .string (⟨#[]⟩ : ByteArray), .int .i64 x409002_11]) ?_ 2 _ rfl; (with_reducible repeat (first | refine blk_drewN ?_ _ | refine blk_drew ?_ | refine blk_alloc ?_ _)); refine blk_put (cs := #[.bool false, .string x409001_11, .int .i64 x409002_11]) ?_ 1 _ rfl; (with_reducible repeat (first | refine blk_drewN ?_ _ | refine blk_drew ?_ | refine blk_alloc ?_ _)); refine blk_put (cs := #[.bool x409000_11, .string x409001_11, .int .i64 x409002_11]) ?_ 0 _ rfl; (with_reducible repeat (first | refine blk_drewN ?_ _ | refine blk_drew ?_ | refine blk_alloc ?_ _)); exact BK408.out) Tryd.underlying29 rfl (by kernel_rfl)) rfl ?_
              exact ⟨ew_, (bl_ HB).out⟩
            · replace c30 := Bool.eq_false_iff.mpr c30
              subst c30
              have H1 : ((num_Int.f kj25 t423).bind fun bt427 => (if (wrap64 ((t413.size : Int) + (x7_11.size : Int))) > 1000 then (dec_Parse.j2 kj25 t410 t413 x7_11 t422 bt427.1 true) else (if bt427.2 = true then (dec_Parse.j2 kj25 t410 t413 x7_11 t422 bt427.1 (decide (bt427.1 > 10000))) else (dec_Parse.j2 kj25 t410 t413 x7_11 t422 bt427.1 true)))) = some (r1, r2, r3, r4) := by rw [if_neg (show ¬ (false = true) by decide)] at H; exact H
              clear H
              have H := H1
              clear H1
              replace H := Option.bind_eq_some_iff.mp H
              obtain ⟨⟨t427, t428⟩, A320, H⟩ := H
              replace H : (if (wrap64 ((t413.size : Int) + (x7_11.size : Int))) > 1000 then (dec_Parse.j2 kj25 t410 t413 x7_11 t422 t427 true) else (if t428 = true then (dec_Parse.j2 kj25 t410 t413 x7_11 t422 t427 (decide (t427 > 10000))) else (dec_Parse.j2 kj25 t410 t413 x7_11 t422 t427 true))) = some (r1, r2, r3, r4) := H
              have A32 := Aside0.mk A320
              clear A320
              have HC33 := Aside0.mk H
              clear H
              go_upto_region 14 with (first | ((with_reducible refine gate_callee (f := 46) rfl ?_); refine gl_ (some 50) Tryd.func46 #[.string t423] ?_; (with_reducible refine (num_Int.calls kj25 t423 t427 t428 _ A32.out).mono ?_); rintro e w34 ⟨rfl, hb⟩; refine ⟨_, rfl, ?_⟩; replace BK408 := bb_ BK408 hb; replace HB := Aside0.mk (below_step (bl_ HB).out hb); (try clear hb); (try clear hb2); (try clear hk); (try clear hi)))
              (try simp only [Act.put, List.setIfInBounds_toArray, List.set_cons_zero, List.set_cons_succ])
              go_cut [66] (fun v66 wc => ∃ (kq : Nat) (x66_32 : Bool), v66 = .bool x66_32 ∧ Aside0 (dec_Parse.j2 kq t410 t413 x7_11 t422 t427 x66_32 = some (r1, r2, r3, r4)) ∧ Aside0 (kq ≤ kj25) ∧ Aside0 (wc.heap[gb408]? = some (.cells #[.bool x409000_11, .string x409001_11, .int .i64 x409002_11] 29 (0, 0))) ∧ Aside0 (Below w.heap.size w wc))
              case first =>
                have H := HC33.out
                clear HC33
                by_cases c35 : (wrap64 ((t413.size : Int) + (x7_11.size : Int))) > 1000
                · rw [if_pos c35] at H
                  have c35b0 : decide (1000 < (wrap64 ((t413.size : Int) + (x7_11.size : Int)))) = true := decide_eq_true c35
                  clear c35
                  (first | rw [c35b0] | (simp only [i64_w, i32_w]; rw [c35b0]) | skip)
                  have H' := Aside0.mk H
                  clear H
                  go_wp2
                  go_meet
                  case rel => exact ⟨_, (true), eq_, H', ⟨by have := HJ11.out; have := HJ25.out; first | omega | exact Nat.le_refl _⟩, (bk_ BK408), (bl_ HB)⟩
                · rw [if_neg c35] at H
                  have c35b0 : decide (1000 < (wrap64 ((t413.size : Int) + (x7_11.size : Int)))) = false := decide_eq_false c35
                  clear c35
                  (first | rw [c35b0] | (simp only [i64_w, i32_w]; rw [c35b0]) | skip)
                  by_cases c36 : t428 = true
                  · subst c36
                    have H1 : (dec_Parse.j2 kj25 t410 t413 x7_11 t422 t427 (decide (t427 > 10000))) = some (r1, r2, r3, r4) := by rw [if_pos rfl] at H; exact H
                    clear H
                    have H := H1
                    clear H1
                    have H' := Aside0.mk H
                    clear H
                    go_wp2
                    go_meet
                    case rel => exact ⟨_, (decide (t427 > 10000)), eq_, H', ⟨by have := HJ11.out; have := HJ25.out; first | omega | exact Nat.le_refl _⟩, (bk_ BK408), (bl_ HB)⟩
                  · replace c36 := Bool.eq_false_iff.mpr c36
                    subst c36
                    have H1 : (dec_Parse.j2 kj25 t410 t413 x7_11 t422 t427 true) = some (r1, r2, r3, r4) := by rw [if_neg (show ¬ (false = true) by decide)] at H; exact H
                    clear H
                    have H := H1
                    clear H1
                    have H' := Aside0.mk H
                    clear H
                    go_wp2
                    go_meet
                    case rel => exact ⟨_, (true), eq_, H', ⟨by have := HJ11.out; have := HJ25.out; first | omega | exact Nat.le_refl _⟩, (bk_ BK408), (bl_ HB)⟩
              case rest =>
                clear HC33
                try clear c1
                try clear c2
                try clear p2
                try clear c3
                try clear c4
                try clear c4b0
                try clear c4b1
                try clear c4b2
                try clear p6
                try clear c9
                try clear c18
                try clear c20
                try clear c20b0
                try clear c20b1
                try clear c20b2
                try clear c22
                try clear c28
                try clear c30
                try clear c35
                try clear c35b0
                try clear c36
                try clear hcz10_0
                try clear hcz10_1
                try clear hcz10_2
                try clear hcz23_0
                try clear hcz23_1
                try clear hcz23_2
                try clear hcz29_0
                try clear hcz29_1
                try clear hcz31_0
                try clear hcz31_1
                try clear hcz31_2
                try clear hfz10_0
                try clear hfz10_1
                try clear hfz10_2
                try clear hfz23_0
                try clear hfz23_1
                try clear hfz23_2
                try clear hfz29_0
                try clear hfz29_1
                try clear hfz31_0
                try clear hfz31_1
                try clear hfz31_2
                try clear p2
                try clear p6
                obtain ⟨kq, x66_32, rfl, HA, HJ32, BK408, HB⟩ := hcut
                cases kq with
                | zero => exact absurd HA.out (by simp [dec_Parse.j2])
                | succ kj32 =>
                  have H := HA.out
                  clear HA
                  simp only [dec_Parse.j2] at H
                  by_cases c37 : x66_32 = true
                  · subst c37
                    have H1 : (some (false, (⟨#[]⟩ : ByteArray), 0, 2)) = some (r1, r2, r3, r4) := by rw [if_pos rfl] at H; exact H
                    clear H
                    have H := H1
                    clear H1
                    simp only [Option.some.injEq, Prod.mk.injEq] at H
                    obtain ⟨rfl, rfl, rfl, rfl⟩ := H
                    obtain ⟨hcz38_0, hcz38_1, hcz38_2, hfz38_0, hfz38_1, hfz38_2⟩ := bo3_ BK408
                    go_wp2
                    refine bodyPost_ret (results_ct rfl _ _ gb408 29 #[.bool false, .string (⟨#[]⟩ : ByteArray), .int .i64 0] (0, 0) _ rfl (by (with_reducible repeat (first | refine blk_drewN ?_ _ | refine blk_drew ?_ | refine blk_alloc ?_ _)); refine blk_put (cs := #[.bool false, .string (⟨#[]⟩ : ByteArray), .int .i64 x409002_11]) ?_ 2 _ rfl; (with_reducible repeat (first | refine blk_drewN ?_ _ | refine blk_drew ?_ | refine blk_alloc ?_ _)); refine blk_put (cs := #[.bool false, .string x409001_11, .int .i64 x409002_11]) ?_ 1 _ rfl; (with_reducible repeat (first | refine blk_drewN ?_ _ | refine blk_drew ?_ | refine blk_alloc ?_ _)); refine blk_put (cs := #[.bool x409000_11, .string x409001_11, .int .i64 x409002_11]) ?_ 0 _ rfl; (with_reducible repeat (first | refine blk_drewN ?_ _ | refine blk_drew ?_ | refine blk_alloc ?_ _)); exact BK408.out) Tryd.underlying29 rfl (by kernel_rfl)) rfl ?_
                    exact ⟨ew_, (bl_ HB).out⟩
                  · replace c37 := Bool.eq_false_iff.mpr c37
                    subst c37
                    have H1 : (if t422 = true then (if t413.size + x7_11.size ≤ 9223372036854775807 then ((dec_Made.f kj32 t410 (t413 ++ x7_11) (wrap64 ((wrap64 (-t427)) - (x7_11.size : Int)))).bind fun bt429 => (some (bt429.1, bt429.2.1, bt429.2.2, 0))) else (none)) else (if t413.size + x7_11.size ≤ 9223372036854775807 then ((dec_Made.f kj32 t410 (t413 ++ x7_11) (wrap64 (t427 - (x7_11.size : Int)))).bind fun bt432 => (some (bt432.1, bt432.2.1, bt432.2.2, 0))) else (none))) = some (r1, r2, r3, r4) := by rw [if_neg (show ¬ (false = true) by decide)] at H; exact H
                    clear H
                    have H := H1
                    clear H1
                    by_cases c39 : t422 = true
                    · subst c39
                      have H1 : (if t413.size + x7_11.size ≤ 9223372036854775807 then ((dec_Made.f kj32 t410 (t413 ++ x7_11) (wrap64 ((wrap64 (-t427)) - (x7_11.size : Int)))).bind fun bt429 => (some (bt429.1, bt429.2.1, bt429.2.2, 0))) else (none)) = some (r1, r2, r3, r4) := by rw [if_pos rfl] at H; exact H
                      clear H
                      have H := H1
                      clear H1
                      by_cases c40 : t413.size + x7_11.size ≤ 9223372036854775807
                      · rw [if_pos c40] at H
                        have c40b0 := eq_true c40
                        have c40b1 : decide (t413.size + x7_11.size ≤ 9223372036854775807) = true := decide_eq_true c40
                        try have c40b2 : (9223372036854775807 < t413.size + x7_11.size) = False := eq_false (Nat.not_lt.2 c40)
                        replace H := Option.bind_eq_some_iff.mp H
                        obtain ⟨⟨t429, t430, t431⟩, A410, H⟩ := H
                        replace H : (some (t429, t430, t431, 0)) = some (r1, r2, r3, r4) := H
                        have A41 := Aside0.mk A410
                        clear A410
                        simp only [Option.some.injEq, Prod.mk.injEq] at H
                        obtain ⟨rfl, rfl, rfl, rfl⟩ := H
                        go_wp2_with (first | ((with_reducible refine gate_callee (f := 12) rfl ?_); refine gl_ (some 79) Tryd.func12 #[.bool t410, .string (t413 ++ x7_11), .int .i64 (wrap64 ((wrap64 (-t427)) - (x7_11.size : Int)))] ?_; (with_reducible refine (dec_Made.calls kj32 t410 (t413 ++ x7_11) (wrap64 ((wrap64 (-t427)) - (x7_11.size : Int))) t429 t430 t431 _ A41.out).mono ?_); rintro e w42 ⟨rfl, hb⟩; refine ⟨_, rfl, ?_⟩; replace BK408 := bb_ BK408 hb; replace HB := Aside0.mk (below_step (bl_ HB).out hb); (try clear hb); (try clear hb2); (try clear hk); (try clear hi); obtain ⟨hcz43_0, hcz43_1, hcz43_2, hfz43_0, hfz43_1, hfz43_2⟩ := bo3_ BK408))
                        refine bodyPost_ret (results_ct rfl _ _ gb408 29 #[.bool t429, .string t430, .int .i64 t431] (0, 0) _ rfl (by (with_reducible repeat (first | refine blk_drewN ?_ _ | refine blk_drew ?_ | refine blk_alloc ?_ _)); refine blk_put (cs := #[.bool t429, .string t430, .int .i64 x409002_11]) ?_ 2 _ rfl; (with_reducible repeat (first | refine blk_drewN ?_ _ | refine blk_drew ?_ | refine blk_alloc ?_ _)); refine blk_put (cs := #[.bool t429, .string x409001_11, .int .i64 x409002_11]) ?_ 1 _ rfl; (with_reducible repeat (first | refine blk_drewN ?_ _ | refine blk_drew ?_ | refine blk_alloc ?_ _)); refine blk_put (cs := #[.bool x409000_11, .string x409001_11, .int .i64 x409002_11]) ?_ 0 _ rfl; (with_reducible repeat (first | refine blk_drewN ?_ _ | refine blk_drew ?_ | refine blk_alloc ?_ _)); exact BK408.out) Tryd.underlying29 rfl (by kernel_rfl)) rfl ?_
                        exact ⟨ew_, (bl_ HB).out⟩
                      · rw [if_neg c40] at H
                        exact absurd H (by simp)
                    · replace c39 := Bool.eq_false_iff.mpr c39
                      subst c39
                      have H1 : (if t413.size + x7_11.size ≤ 9223372036854775807 then ((dec_Made.f kj32 t410 (t413 ++ x7_11) (wrap64 (t427 - (x7_11.size : Int)))).bind fun bt432 => (some (bt432.1, bt432.2.1, bt432.2.2, 0))) else (none)) = some (r1, r2, r3, r4) := by rw [if_neg (show ¬ (false = true) by decide)] at H; exact H
                      clear H
                      have H := H1
                      clear H1
                      by_cases c44 : t413.size + x7_11.size ≤ 9223372036854775807
                      · rw [if_pos c44] at H
                        have c44b0 := eq_true c44
                        have c44b1 : decide (t413.size + x7_11.size ≤ 9223372036854775807) = true := decide_eq_true c44
                        try have c44b2 : (9223372036854775807 < t413.size + x7_11.size) = False := eq_false (Nat.not_lt.2 c44)
                        replace H := Option.bind_eq_some_iff.mp H
                        obtain ⟨⟨t432, t433, t434⟩, A450, H⟩ := H
                        replace H : (some (t432, t433, t434, 0)) = some (r1, r2, r3, r4) := H
                        have A45 := Aside0.mk A450
                        clear A450
                        simp only [Option.some.injEq, Prod.mk.injEq] at H
                        obtain ⟨rfl, rfl, rfl, rfl⟩ := H
                        go_wp2_with (first | ((with_reducible refine gate_callee (f := 12) rfl ?_); refine gl_ (some 79) Tryd.func12 #[.bool t410, .string (t413 ++ x7_11), .int .i64 (wrap64 (t427 - (x7_11.size : Int)))] ?_; (with_reducible refine (dec_Made.calls kj32 t410 (t413 ++ x7_11) (wrap64 (t427 - (x7_11.size : Int))) t432 t433 t434 _ A45.out).mono ?_); rintro e w46 ⟨rfl, hb⟩; refine ⟨_, rfl, ?_⟩; replace BK408 := bb_ BK408 hb; replace HB := Aside0.mk (below_step (bl_ HB).out hb); (try clear hb); (try clear hb2); (try clear hk); (try clear hi); obtain ⟨hcz47_0, hcz47_1, hcz47_2, hfz47_0, hfz47_1, hfz47_2⟩ := bo3_ BK408))
                        refine bodyPost_ret (results_ct rfl _ _ gb408 29 #[.bool t432, .string t433, .int .i64 t434] (0, 0) _ rfl (by (with_reducible repeat (first | refine blk_drewN ?_ _ | refine blk_drew ?_ | refine blk_alloc ?_ _)); refine blk_put (cs := #[.bool t432, .string t433, .int .i64 x409002_11]) ?_ 2 _ rfl; (with_reducible repeat (first | refine blk_drewN ?_ _ | refine blk_drew ?_ | refine blk_alloc ?_ _)); refine blk_put (cs := #[.bool t432, .string x409001_11, .int .i64 x409002_11]) ?_ 1 _ rfl; (with_reducible repeat (first | refine blk_drewN ?_ _ | refine blk_drew ?_ | refine blk_alloc ?_ _)); refine blk_put (cs := #[.bool x409000_11, .string x409001_11, .int .i64 x409002_11]) ?_ 0 _ rfl; (with_reducible repeat (first | refine blk_drewN ?_ _ | refine blk_drew ?_ | refine blk_alloc ?_ _)); exact BK408.out) Tryd.underlying29 rfl (by kernel_rfl)) rfl ?_
                        exact ⟨ew_, (bl_ HB).out⟩
                      · rw [if_neg c44] at H
                        exact absurd H (by simp)

/-! ### show_Vis_Value: function 23 -/
def show_Vis_Value.f (k : Nat) (a0_0 : Bool) (a0_1 : ByteArray) (a0_2 : ByteArray) : Option (Bool × ByteArray × Int) := if a0_1.size + a0_2.size ≤ 9223372036854775807 then ((dec_Made.f k a0_0 (a0_1 ++ a0_2) (-(a0_2.size : Int))).bind fun bt437 => (some (bt437.1, bt437.2.1, bt437.2.2))) else (none)
theorem show_Vis_Value.mono : ∀ a0 a1 a2 k, LeO (show_Vis_Value.f k a0 a1 a2) (show_Vis_Value.f (k + 1) a0 a1 a2) := by
  intro a0 a1 a2 k
  unfold show_Vis_Value.f
  repeat' first
      | (with_reducible exact dec_Made.mono _ _ _ _)
      | (with_reducible exact LeO.refl _)
      | (with_reducible exact LeO.none _)
      | (with_reducible refine LeO.ite ?_ ?_)
      | (with_reducible refine LeO.bind ?_ (fun _ => ?_))
      | exact dec_Made.mono _ _ _ _
      | exact LeO.none _
      | refine LeO.ite ?_ ?_
      | refine LeO.bind ?_ (fun _ => ?_)
set_option maxHeartbeats 8000000 in
set_option maxRecDepth 100000 in
theorem show_Vis_Value.calls (k : Nat) (a0_0 : Bool) (a0_1 : ByteArray) (a0_2 : ByteArray) (r1 : Bool) (r2 : ByteArray) (r3 : Int) (w : World) (h : show_Vis_Value.f k a0_0 a0_1 a0_2 = some (r1, r2, r3)) :
    Calls Tryd.prog 23 #[.agg #[.bool a0_0, .string a0_1, .string a0_2]] w fun e w' => e = .returned (.agg #[.bool r1, .string r2, .int .i64 r3]) ∧ Below w.heap.size w w' := by
  have hu35 := Tryd.underlying35
  have hu29 := Tryd.underlying29
  have HB := Aside0.mk (Below.refl w.heap.size w)
  have H : (if a0_1.size + a0_2.size ≤ 9223372036854775807 then ((dec_Made.f k a0_0 (a0_1 ++ a0_2) (-(a0_2.size : Int))).bind fun bt437 => (some (bt437.1, bt437.2.1, bt437.2.2))) else (none)) = some (r1, r2, r3) := h
  clear h
  by_cases c2 : a0_1.size + a0_2.size ≤ 9223372036854775807
  · rw [if_pos c2] at H
    have c2b0 := eq_true c2
    have c2b1 : decide (a0_1.size + a0_2.size ≤ 9223372036854775807) = true := decide_eq_true c2
    try have c2b2 : (9223372036854775807 < a0_1.size + a0_2.size) = False := eq_false (Nat.not_lt.2 c2)
    replace H := Option.bind_eq_some_iff.mp H
    obtain ⟨⟨t437, t438, t439⟩, A30, H⟩ := H
    replace H : (some (t437, t438, t439)) = some (r1, r2, r3) := H
    have A3 := Aside0.mk A30
    clear A30
    simp only [Option.some.injEq, Prod.mk.injEq] at H
    obtain ⟨rfl, rfl, rfl⟩ := H
    go_enter Tryd.func23, Tryd.ntmps23
    go_wp2_with (first | ((with_reducible refine gate_dst (N := 1) rfl ?_); refine be_ 1 #[.bool a0_0, .string a0_1, .string a0_2] 35 ?_; intro gb435 hg w4 hbox hb; have BK435 := Aside0.mk (hbox); have GW435 := sz_ HB hg; have GE435 := sz_ HB hg; replace HB := Aside0.mk (below_step (bl_ HB).out hb); clear hb hbox hg) | ((with_reducible refine gate_dst (N := 2) rfl ?_); refine be_ 2 #[.bool false, .string (⟨#[]⟩ : ByteArray), .int .i64 0] 29 ?_; intro gb436 hg w5 hbox hb; have BK436 := Aside0.mk (hbox); have GW436 := sz_ HB hg; have GE436 := sz_ HB hg; have NB435_436 := na_ BK435 hg; have NB436_435 := nb_ BK435 hg; replace BK435 := bb_ BK435 hb; replace HB := Aside0.mk (below_step (bl_ HB).out hb); clear hb hbox hg; have hnb6 := NB435_436.out; have hnc6 := NB436_435.out; obtain ⟨hcz7_0, hcz7_1, hcz7_2, hfz7_0, hfz7_1, hfz7_2⟩ := bo3_ BK435) | ((with_reducible refine gate_callee (f := 12) rfl ?_); refine gl_ (some 14) Tryd.func12 #[.bool a0_0, .string (a0_1 ++ a0_2), .int .i64 (-(a0_2.size : Int))] ?_; (with_reducible refine (dec_Made.calls k a0_0 (a0_1 ++ a0_2) (-(a0_2.size : Int)) t437 t438 t439 _ A3.out).mono ?_); rintro e w8 ⟨rfl, hb⟩; refine ⟨_, rfl, ?_⟩; replace BK435 := bb_ BK435 hb; replace BK436 := bb_ BK436 hb; replace HB := Aside0.mk (below_step (bl_ HB).out hb); (try clear hb); (try clear hb2); (try clear hk); (try clear hi); obtain ⟨hcz9_0, hcz9_1, hcz9_2, hfz9_0, hfz9_1, hfz9_2⟩ := bo3_ BK436))
    refine bodyPost_ret (results_cell_row rfl _ _ gb436 29 #[.bool t437, .string t438, .int .i64 t439] (0, 0) _ rfl (by (with_reducible repeat (first | refine blk_drewN ?_ _ | refine blk_drew ?_ | refine blk_alloc ?_ _)); refine blk_put (cs := #[.bool t437, .string t438, .int .i64 0]) ?_ 2 _ rfl; (with_reducible repeat (first | refine blk_drewN ?_ _ | refine blk_drew ?_ | refine blk_alloc ?_ _)); refine blk_put (cs := #[.bool t437, .string (⟨#[]⟩ : ByteArray), .int .i64 0]) ?_ 1 _ rfl; (with_reducible repeat (first | refine blk_drewN ?_ _ | refine blk_drew ?_ | refine blk_alloc ?_ _)); refine blk_put (cs := #[.bool false, .string (⟨#[]⟩ : ByteArray), .int .i64 0]) ?_ 0 _ rfl; (with_reducible repeat (first | refine blk_drewN ?_ _ | refine blk_drew ?_ | refine blk_alloc ?_ _)); exact BK436.out) Tryd.underlying29 rfl (by kernel_rfl)) rfl ?_
    exact ⟨ew_, (bl_ HB).out⟩
  · rw [if_neg c2] at H
    exact absurd H (by simp)

end Go.Proofs.YthkpmiajcmihjaaDoor.P
