-- written by a program of this session (wip/p2)
import Derived.Test.YtlkiaeipbekpkaaDoorPx0
import Derived.Test.YtlkiaeipbekpkaaDoorPx2
namespace Go.Proofs.YtlkiaeipbekpkaaDoor.P
open Go.RowKit Go.Proofs.YtlkiaeipbekpkaaDoorW.PrintWords Go.Proofs.YtlkiaeipbekpkaaDoorW.PrintLast Go.Proofs.YtlkiaeipbekpkaaDoorW.PrintMore
attribute [local go_sem] max2_int min2_int max_two min_two max_three min_three max_four min_four   -- for this text's walks alone
set_option linter.unusedVariables false
set_option linter.unusedSimpArgs false

/-! ### dec_Parse: function 12 -/
mutual
def dec_Parse.j0 : Nat → ByteArray → Bool → ByteArray → ByteArray → ByteArray → Int → Option (Bool × ByteArray × Int × Int)
  | 0, _, _, _, _, _, _ => none
  | k + 1, x0, x5, x6, x7, x131000, x131001 => (dec_reader_exponent.f k x131000 x131001).bind fun bt143 => (if bt143.2.2.1 = true then (dec_Parse.j1 k x5 x6 x7 bt143.1 bt143.2.1 (decide (bt143.2.2.2.2 < (x0.size : Int)))) else (dec_Parse.j1 k x5 x6 x7 bt143.1 bt143.2.1 true))
def dec_Parse.j1 : Nat → Bool → ByteArray → ByteArray → Bool → ByteArray → Bool → Option (Bool × ByteArray × Int × Int)
  | 0, _, _, _, _, _, _ => none
  | k + 1, x5, x6, x7, x8, x9, x46 => if x46 = true then (some (false, (⟨#[]⟩ : ByteArray), 0, 1)) else ((num_Int.f k x9).bind fun bt148 => (if (wrap64 ((x6.size : Int) + (x7.size : Int))) > 1000 then (dec_Parse.j2 k x5 x6 x7 x8 bt148.1 true) else (if bt148.2 = true then (dec_Parse.j2 k x5 x6 x7 x8 bt148.1 (decide (bt148.1 > 10000))) else (dec_Parse.j2 k x5 x6 x7 x8 bt148.1 true))))
def dec_Parse.j2 : Nat → Bool → ByteArray → ByteArray → Bool → Int → Bool → Option (Bool × ByteArray × Int × Int)
  | 0, _, _, _, _, _, _ => none
  | k + 1, x5, x6, x7, x8, x11, x66 => if x66 = true then (some (false, (⟨#[]⟩ : ByteArray), 0, 2)) else (if x8 = true then (if x6.size + x7.size ≤ 9223372036854775807 then ((dec_Made.f k x5 (x6 ++ x7) (wrap64 ((wrap64 (-x11)) - (x7.size : Int)))).bind fun bt150 => (some (bt150.1, bt150.2.1, bt150.2.2, 0))) else (none)) else (if x6.size + x7.size ≤ 9223372036854775807 then ((dec_Made.f k x5 (x6 ++ x7) (wrap64 (x11 - (x7.size : Int)))).bind fun bt153 => (some (bt153.1, bt153.2.1, bt153.2.2, 0))) else (none)))
end
def dec_Parse.f (k : Nat) (a0 : ByteArray) : Option (Bool × ByteArray × Int × Int) := (dec_reader_take.f a0 0 (⟨#[45]⟩ : ByteArray)).bind fun bt131 => ((dec_reader_digits.f k bt131.2.1 bt131.2.2).bind fun bt134 => (if bt134.1.toList = ([] : List UInt8) then (some (false, (⟨#[]⟩ : ByteArray), 0, 1)) else ((dec_reader_take.f bt134.2.1 bt134.2.2 (⟨#[46]⟩ : ByteArray)).bind fun bt137 => (if bt137.1 = true then ((dec_reader_digits.f k bt137.2.1 bt137.2.2).bind fun bt140 => (if bt140.1.toList = ([] : List UInt8) then (some (false, (⟨#[]⟩ : ByteArray), 0, 1)) else (dec_Parse.j0 k a0 bt131.1 bt134.1 bt140.1 bt140.2.1 bt140.2.2))) else (dec_Parse.j0 k a0 bt131.1 bt134.1 (⟨#[]⟩ : ByteArray) bt137.2.1 bt137.2.2)))))
theorem dec_Parse.mono_l : ∀ k, (∀ y0 y1 y2 y3 y4 y5, LeO (dec_Parse.j0 k y0 y1 y2 y3 y4 y5) (dec_Parse.j0 (k + 1) y0 y1 y2 y3 y4 y5)) ∧ (∀ y0 y1 y2 y3 y4 y5, LeO (dec_Parse.j1 k y0 y1 y2 y3 y4 y5) (dec_Parse.j1 (k + 1) y0 y1 y2 y3 y4 y5)) ∧ (∀ y0 y1 y2 y3 y4 y5, LeO (dec_Parse.j2 k y0 y1 y2 y3 y4 y5) (dec_Parse.j2 (k + 1) y0 y1 y2 y3 y4 y5))
  | 0 => ⟨fun _ _ _ _ _ _ r h => by simp [dec_Parse.j0] at h, fun _ _ _ _ _ _ r h => by simp [dec_Parse.j1] at h, fun _ _ _ _ _ _ r h => by simp [dec_Parse.j2] at h⟩
  | k + 1 => by
    obtain ⟨ih0, ih1, ih2⟩ := dec_Parse.mono_l k
    refine ⟨?_, ?_, ?_⟩
    · intro y0 y1 y2 y3 y4 y5
      unfold dec_Parse.j0
      repeat' first
      | (with_reducible exact ih0 _ _ _ _ _ _)
      | (with_reducible exact ih1 _ _ _ _ _ _)
      | (with_reducible exact ih2 _ _ _ _ _ _)
      | (with_reducible exact dec_Made.mono _ _ _ _)
      | (with_reducible exact dec_reader_digits.mono _ _ _)
      | (with_reducible exact dec_reader_exponent.mono _ _ _)
      | (with_reducible exact num_Int.mono _ _)
      | (with_reducible exact LeO.refl _)
      | (with_reducible exact LeO.none _)
      | (with_reducible refine LeO.ite ?_ ?_)
      | (with_reducible refine LeO.bind ?_ (fun _ => ?_))
      | exact ih0 _ _ _ _ _ _
      | exact ih1 _ _ _ _ _ _
      | exact ih2 _ _ _ _ _ _
      | exact dec_Made.mono _ _ _ _
      | exact dec_reader_digits.mono _ _ _
      | exact dec_reader_exponent.mono _ _ _
      | exact num_Int.mono _ _
      | exact LeO.none _
      | refine LeO.ite ?_ ?_
      | refine LeO.bind ?_ (fun _ => ?_)
    · intro y0 y1 y2 y3 y4 y5
      unfold dec_Parse.j1
      repeat' first
      | (with_reducible exact ih0 _ _ _ _ _ _)
      | (with_reducible exact ih1 _ _ _ _ _ _)
      | (with_reducible exact ih2 _ _ _ _ _ _)
      | (with_reducible exact dec_Made.mono _ _ _ _)
      | (with_reducible exact dec_reader_digits.mono _ _ _)
      | (with_reducible exact dec_reader_exponent.mono _ _ _)
      | (with_reducible exact num_Int.mono _ _)
      | (with_reducible exact LeO.refl _)
      | (with_reducible exact LeO.none _)
      | (with_reducible refine LeO.ite ?_ ?_)
      | (with_reducible refine LeO.bind ?_ (fun _ => ?_))
      | exact ih0 _ _ _ _ _ _
      | exact ih1 _ _ _ _ _ _
      | exact ih2 _ _ _ _ _ _
      | exact dec_Made.mono _ _ _ _
      | exact dec_reader_digits.mono _ _ _
      | exact dec_reader_exponent.mono _ _ _
      | exact num_Int.mono _ _
      | exact LeO.none _
      | refine LeO.ite ?_ ?_
      | refine LeO.bind ?_ (fun _ => ?_)
    · intro y0 y1 y2 y3 y4 y5
      unfold dec_Parse.j2
      repeat' first
      | (with_reducible exact ih0 _ _ _ _ _ _)
      | (with_reducible exact ih1 _ _ _ _ _ _)
      | (with_reducible exact ih2 _ _ _ _ _ _)
      | (with_reducible exact dec_Made.mono _ _ _ _)
      | (with_reducible exact dec_reader_digits.mono _ _ _)
      | (with_reducible exact dec_reader_exponent.mono _ _ _)
      | (with_reducible exact num_Int.mono _ _)
      | (with_reducible exact LeO.refl _)
      | (with_reducible exact LeO.none _)
      | (with_reducible refine LeO.ite ?_ ?_)
      | (with_reducible refine LeO.bind ?_ (fun _ => ?_))
      | exact ih0 _ _ _ _ _ _
      | exact ih1 _ _ _ _ _ _
      | exact ih2 _ _ _ _ _ _
      | exact dec_Made.mono _ _ _ _
      | exact dec_reader_digits.mono _ _ _
      | exact dec_reader_exponent.mono _ _ _
      | exact num_Int.mono _ _
      | exact LeO.none _
      | refine LeO.ite ?_ ?_
      | refine LeO.bind ?_ (fun _ => ?_)
theorem dec_Parse.mono : ∀ a0 k, LeO (dec_Parse.f k a0) (dec_Parse.f (k + 1) a0) := by
  intro a0 k
  obtain ⟨ih0, ih1, ih2⟩ := dec_Parse.mono_l k
  unfold dec_Parse.f
  repeat' first
      | (with_reducible exact ih0 _ _ _ _ _ _)
      | (with_reducible exact ih1 _ _ _ _ _ _)
      | (with_reducible exact ih2 _ _ _ _ _ _)
      | (with_reducible exact dec_Made.mono _ _ _ _)
      | (with_reducible exact dec_reader_digits.mono _ _ _)
      | (with_reducible exact dec_reader_exponent.mono _ _ _)
      | (with_reducible exact num_Int.mono _ _)
      | (with_reducible exact LeO.refl _)
      | (with_reducible exact LeO.none _)
      | (with_reducible refine LeO.ite ?_ ?_)
      | (with_reducible refine LeO.bind ?_ (fun _ => ?_))
      | exact ih0 _ _ _ _ _ _
      | exact ih1 _ _ _ _ _ _
      | exact ih2 _ _ _ _ _ _
      | exact dec_Made.mono _ _ _ _
      | exact dec_reader_digits.mono _ _ _
      | exact dec_reader_exponent.mono _ _ _
      | exact num_Int.mono _ _
      | exact LeO.none _
      | refine LeO.ite ?_ ?_
      | refine LeO.bind ?_ (fun _ => ?_)
set_option maxHeartbeats 8000000 in
set_option maxRecDepth 100000 in
theorem dec_Parse.calls (k : Nat) (a0 : ByteArray) (r1 : Bool) (r2 : ByteArray) (r3 : Int) (r4 : Int) (w : World) (h : dec_Parse.f k a0 = some (r1, r2, r3, r4)) :
    Calls Tryd.prog 12 #[.string a0] w fun e w' => e = .returned (.tuple #[.agg #[.bool r1, .string r2, .int .i64 r3], .int .i64 r4]) ∧ Below w.heap.size w w' := by
  have hu24 := Tryd.underlying24
  have hu62 := Tryd.underlying62
  have HB := Aside0.mk (Below.refl w.heap.size w)
  have H : ((dec_reader_take.f a0 0 (⟨#[45]⟩ : ByteArray)).bind fun bt131 => ((dec_reader_digits.f k bt131.2.1 bt131.2.2).bind fun bt134 => (if bt134.1.toList = ([] : List UInt8) then (some (false, (⟨#[]⟩ : ByteArray), 0, 1)) else ((dec_reader_take.f bt134.2.1 bt134.2.2 (⟨#[46]⟩ : ByteArray)).bind fun bt137 => (if bt137.1 = true then ((dec_reader_digits.f k bt137.2.1 bt137.2.2).bind fun bt140 => (if bt140.1.toList = ([] : List UInt8) then (some (false, (⟨#[]⟩ : ByteArray), 0, 1)) else (dec_Parse.j0 k a0 bt131.1 bt134.1 bt140.1 bt140.2.1 bt140.2.2))) else (dec_Parse.j0 k a0 bt131.1 bt134.1 (⟨#[]⟩ : ByteArray) bt137.2.1 bt137.2.2)))))) = some (r1, r2, r3, r4) := h
  clear h
  replace H := Option.bind_eq_some_iff.mp H
  obtain ⟨⟨t131, t132, t133⟩, A20, H⟩ := H
  replace H : ((dec_reader_digits.f k t132 t133).bind fun bt134 => (if bt134.1.toList = ([] : List UInt8) then (some (false, (⟨#[]⟩ : ByteArray), 0, 1)) else ((dec_reader_take.f bt134.2.1 bt134.2.2 (⟨#[46]⟩ : ByteArray)).bind fun bt137 => (if bt137.1 = true then ((dec_reader_digits.f k bt137.2.1 bt137.2.2).bind fun bt140 => (if bt140.1.toList = ([] : List UInt8) then (some (false, (⟨#[]⟩ : ByteArray), 0, 1)) else (dec_Parse.j0 k a0 t131 bt134.1 bt140.1 bt140.2.1 bt140.2.2))) else (dec_Parse.j0 k a0 t131 bt134.1 (⟨#[]⟩ : ByteArray) bt137.2.1 bt137.2.2))))) = some (r1, r2, r3, r4) := H
  have A2 := Aside0.mk A20
  clear A20
  replace H := Option.bind_eq_some_iff.mp H
  obtain ⟨⟨t134, t135, t136⟩, A30, H⟩ := H
  replace H : (if t134.toList = ([] : List UInt8) then (some (false, (⟨#[]⟩ : ByteArray), 0, 1)) else ((dec_reader_take.f t135 t136 (⟨#[46]⟩ : ByteArray)).bind fun bt137 => (if bt137.1 = true then ((dec_reader_digits.f k bt137.2.1 bt137.2.2).bind fun bt140 => (if bt140.1.toList = ([] : List UInt8) then (some (false, (⟨#[]⟩ : ByteArray), 0, 1)) else (dec_Parse.j0 k a0 t131 t134 bt140.1 bt140.2.1 bt140.2.2))) else (dec_Parse.j0 k a0 t131 t134 (⟨#[]⟩ : ByteArray) bt137.2.1 bt137.2.2)))) = some (r1, r2, r3, r4) := H
  have A3 := Aside0.mk A30
  clear A30
  by_cases c4 : t134.toList = ([] : List UInt8)
  · rw [if_pos c4] at H
    have c4b0 : (t134.toList == ([] : List UInt8)) = true := beq_iff_eq.mpr c4
    have c4b1 : (t134.toList != ([] : List UInt8)) = false := bne_eq_false_iff_eq.mpr c4
    have c4b2 : (t134.toList.isEmpty) = true := by rw [c4]; rfl
    clear c4
    simp only [Option.some.injEq, Prod.mk.injEq] at H
    obtain ⟨rfl, rfl, rfl, rfl⟩ := H
    go_enter Tryd.func12, Tryd.ntmps12
    go_wp2_with (first | ((with_reducible refine gate_dst (N := 2) rfl ?_); (try (refine gate_guard (by rfl) ?_; dsimp only)); refine box_event ?hg (N := 2) ?hd (cs := #[.bool false, .string (⟨#[]⟩ : ByteArray), .int .i64 0]) (t := 24) ?hr ?_; (case hd => rfl); (case hg => rfl); (case hr => first | (go_simp; done) | (go_simp; rfl)); intro gb129 hg w5 hbox hb; have n0_ := Aside0.mk (below_step (bl_ HB).out hb); have n1_ := Aside0.mk (hbox); have n2_ := Aside0.mk ((by rw [hg]; exact (below_size (bl_ HB).out) : w.heap.size ≤ gb129)); have n3_ := Aside0.mk ((by rw [hg]; exact (below_size (bl_ HB).out) : w.heap.size ≤ gb129)); clear HB; have HB := n0_; have BK129 := n1_; have GW129 := n2_; have GE129 := n3_; clear n0_ n1_ n2_ n3_; clear hb hbox hg) | ((with_reducible refine gate_dst (N := 15) rfl ?_); (try (refine gate_guard (by rfl) ?_; dsimp only)); refine box_event ?hg (N := 15) ?hd (cs := #[.string a0, .int .i64 0]) (t := 62) ?hr ?_; (case hd => rfl); (case hg => rfl); (case hr => first | (go_simp; done) | (go_simp; rfl)); intro gb130 hg w6 hbox hb; have n0_ := bb_ BK129 hb; have n1_ := Aside0.mk (below_step (bl_ HB).out hb); have n2_ := Aside0.mk (hbox); have n3_ := Aside0.mk ((by rw [hg]; exact Nat.ne_of_lt (blk_lt (g := gb129) (o := .cells #[.bool false, .string (⟨#[]⟩ : ByteArray), .int .i64 0] 24 (0, 0)) (by (with_reducible repeat (first | refine blk_drewN ?_ _ | refine blk_drew ?_ | refine blk_alloc ?_ _)); exact BK129.out)) : gb129 ≠ gb130)); have n4_ := Aside0.mk ((by rw [hg]; exact Nat.ne_of_gt (blk_lt (g := gb129) (o := .cells #[.bool false, .string (⟨#[]⟩ : ByteArray), .int .i64 0] 24 (0, 0)) (by (with_reducible repeat (first | refine blk_drewN ?_ _ | refine blk_drew ?_ | refine blk_alloc ?_ _)); exact BK129.out)) : gb130 ≠ gb129)); have n5_ := Aside0.mk ((⟨hbox, (by rw [hg]; exact (below_size (bl_ HB).out) : w.heap.size ≤ gb130)⟩ : IsS62 w w6 gb130 a0 0)); clear BK129; clear HB; have BK129 := n0_; have HB := n1_; have HI130 := n2_; have NB129_130 := n3_; have NB130_129 := n4_; have HI130 := n5_; clear n0_ n1_ n2_ n3_ n4_ n5_; clear hb hbox hg) | ((with_reducible refine gate_callee (f := 39) rfl ?_); refine goesL_ (some 17) rfl rfl Tryd.func39 (by kernel_rfl) rfl #[.pointer (some ⟨gb130, 0, none⟩), .string (⟨#[45]⟩ : ByteArray)] rfl (by (try simp only [List.map_toArray, List.map_cons, List.map_nil]); first | done | rfl | (simp only [List.length_drop, List.length_take]; rfl) | (have z_ : ∀ s_ : ByteArray, s_.size ≤ 9223372036854775807 → -(s_.size : Int) = wrap64 (-(s_.size : Int)) := (fun s_ h_ => by unfold wrap64; omega); rw [← z_ _ (by omega)]; rfl)) ?_; (with_reducible refine (dec_reader_take.calls gb130 a0 0 (⟨#[45]⟩ : ByteArray) t131 t132 t133 w _ ?side1 ?side2 A2.out).mono ?_); (case side1 => repeat (first | (with_reducible first | exact HI130.out | apply IsS62.alloc | apply IsS62.drewN | apply IsS62.drew | apply IsS62.set_0 | apply IsS62.set_1 | refine IsS62.far ?_ NB130_129.out _) | exact HI130.out)); (case side2 => repeat (first | (with_reducible first | exact HB.out | apply below_alloc | apply pw_below_drewN | apply below_drew1 | refine below_set ?_ (IsS62.ge HI130.out) | refine below_set ?_ GE129.out) | exact HB.out)); rintro e w7 ⟨rfl, hi, hb, hk⟩; refine ⟨_, rfl, ?_⟩; have n0_ := Aside0.mk (KeepBut.blk hk (g' := gb129) (o := .cells #[.bool false, .string (⟨#[]⟩ : ByteArray), .int .i64 0] 24 (0, 0)) (by (with_reducible repeat (first | refine blk_drewN ?_ _ | refine blk_drew ?_ | refine blk_alloc ?_ _)); exact BK129.out) NB129_130.out (by simp)); have n1_ := Aside0.mk (hb); have n2_ := Aside0.mk (hi); clear BK129; clear HB; clear HI130; have BK129 := n0_; have HB := n1_; have HI130 := n2_; clear n0_ n1_ n2_; (try clear hb); (try clear hb2); (try clear hk); (try clear hi)) | ((with_reducible refine gate_callee (f := 40) rfl ?_); refine goesL_ (some 19) rfl rfl Tryd.func40 (by kernel_rfl) rfl #[.pointer (some ⟨gb130, 0, none⟩)] rfl (by (try simp only [List.map_toArray, List.map_cons, List.map_nil]); first | done | rfl | (simp only [List.length_drop, List.length_take]; rfl) | (have z_ : ∀ s_ : ByteArray, s_.size ≤ 9223372036854775807 → -(s_.size : Int) = wrap64 (-(s_.size : Int)) := (fun s_ h_ => by unfold wrap64; omega); rw [← z_ _ (by omega)]; rfl)) ?_; (with_reducible refine (dec_reader_digits.calls k gb130 t132 t133 t134 t135 t136 w _ ?side1 ?side2 A3.out).mono ?_); (case side1 => repeat (first | (with_reducible first | exact HI130.out | apply IsS62.alloc | apply IsS62.drewN | apply IsS62.drew | apply IsS62.set_0 | apply IsS62.set_1 | refine IsS62.far ?_ NB130_129.out _) | exact HI130.out)); (case side2 => repeat (first | (with_reducible first | exact HB.out | apply below_alloc | apply pw_below_drewN | apply below_drew1 | refine below_set ?_ (IsS62.ge HI130.out) | refine below_set ?_ GE129.out) | exact HB.out)); rintro e w8 ⟨rfl, hi, hb, hk⟩; refine ⟨_, rfl, ?_⟩; have n0_ := Aside0.mk (KeepBut.blk hk (g' := gb129) (o := .cells #[.bool false, .string (⟨#[]⟩ : ByteArray), .int .i64 0] 24 (0, 0)) (by (with_reducible repeat (first | refine blk_drewN ?_ _ | refine blk_drew ?_ | refine blk_alloc ?_ _)); exact BK129.out) NB129_130.out (by simp)); have n1_ := Aside0.mk (hb); have n2_ := Aside0.mk (hi); clear BK129; clear HB; clear HI130; have BK129 := n0_; have HB := n1_; have HI130 := n2_; clear n0_ n1_ n2_; (try clear hb); (try clear hb2); (try clear hk); (try clear hi); have hnb9 := NB129_130.out; have hnc9 := NB130_129.out; have hcz10_0 : w8.cell? ⟨gb129, 0, none⟩ = some (.bool false) := (blk_cell BK129.out 0).trans rfl; have hcz10_1 : w8.cell? ⟨gb129, 1, none⟩ = some (.string (⟨#[]⟩ : ByteArray)) := (blk_cell BK129.out 1).trans rfl; have hcz10_2 : w8.cell? ⟨gb129, 2, none⟩ = some (.int .i64 0) := (blk_cell BK129.out 2).trans rfl; have hfz10_0 := blk_frozen BK129.out 0; have hfz10_1 := blk_frozen BK129.out 1; have hfz10_2 := blk_frozen BK129.out 2))
    refine bodyPost_ret (results_ct rfl _ _ gb129 24 #[.bool false, .string (⟨#[]⟩ : ByteArray), .int .i64 0] (0, 0) _ rfl (by (with_reducible repeat (first | refine blk_drewN ?_ _ | refine blk_drew ?_ | refine blk_alloc ?_ _)); refine blk_put (cs := #[.bool false, .string (⟨#[]⟩ : ByteArray), .int .i64 0]) ?_ 2 _ rfl; (with_reducible repeat (first | refine blk_drewN ?_ _ | refine blk_drew ?_ | refine blk_alloc ?_ _)); refine blk_put (cs := #[.bool false, .string (⟨#[]⟩ : ByteArray), .int .i64 0]) ?_ 1 _ rfl; (with_reducible repeat (first | refine blk_drewN ?_ _ | refine blk_drew ?_ | refine blk_alloc ?_ _)); refine blk_put (cs := #[.bool false, .string (⟨#[]⟩ : ByteArray), .int .i64 0]) ?_ 0 _ rfl; (with_reducible repeat (first | refine blk_drewN ?_ _ | refine blk_drew ?_ | refine blk_alloc ?_ _)); exact BK129.out) Tryd.underlying24 rfl (by kernel_rfl)) rfl ?_
    exact ⟨by first | rfl | (simp [errW_none, errW_some] <;> rfl) | (simp [*, errW_none, errW_some] <;> first | rfl | exact given_isEmpty _ | exact (given_isEmpty _).symm), by repeat (first | (with_reducible first | exact HB.out | apply below_alloc | apply pw_below_drewN | apply below_drew1 | refine below_set ?_ (IsS62.ge HI130.out) | refine below_set ?_ GE129.out) | exact HB.out)⟩
  · rw [if_neg c4] at H
    have c4b0 : (t134.toList == ([] : List UInt8)) = false := beq_eq_false_iff_ne.mpr c4
    have c4b1 : (t134.toList != ([] : List UInt8)) = true := bne_iff_ne.mpr c4
    have c4b2 : (t134.toList.isEmpty) = false := by rw [given_isEmpty, bne_iff_ne.mpr c4]; rfl
    replace H := Option.bind_eq_some_iff.mp H
    obtain ⟨⟨t137, t138, t139⟩, A110, H⟩ := H
    replace H : (if t137 = true then ((dec_reader_digits.f k t138 t139).bind fun bt140 => (if bt140.1.toList = ([] : List UInt8) then (some (false, (⟨#[]⟩ : ByteArray), 0, 1)) else (dec_Parse.j0 k a0 t131 t134 bt140.1 bt140.2.1 bt140.2.2))) else (dec_Parse.j0 k a0 t131 t134 (⟨#[]⟩ : ByteArray) t138 t139)) = some (r1, r2, r3, r4) := H
    have A11 := Aside0.mk A110
    clear A110
    have HC12 := Aside0.mk H
    clear H
    go_enter Tryd.func12, Tryd.ntmps12
    go_upto_if 24 with (first | ((with_reducible refine gate_dst (N := 2) rfl ?_); (try (refine gate_guard (by rfl) ?_; dsimp only)); refine box_event ?hg (N := 2) ?hd (cs := #[.bool false, .string (⟨#[]⟩ : ByteArray), .int .i64 0]) (t := 24) ?hr ?_; (case hd => rfl); (case hg => rfl); (case hr => first | (go_simp; done) | (go_simp; rfl)); intro gb129 hg w13 hbox hb; have n0_ := Aside0.mk (below_step (bl_ HB).out hb); have n1_ := Aside0.mk (hbox); have n2_ := Aside0.mk ((by rw [hg]; exact (below_size (bl_ HB).out) : w.heap.size ≤ gb129)); have n3_ := Aside0.mk ((by rw [hg]; exact (below_size (bl_ HB).out) : w.heap.size ≤ gb129)); clear HB; have HB := n0_; have BK129 := n1_; have GW129 := n2_; have GE129 := n3_; clear n0_ n1_ n2_ n3_; clear hb hbox hg) | ((with_reducible refine gate_dst (N := 15) rfl ?_); (try (refine gate_guard (by rfl) ?_; dsimp only)); refine box_event ?hg (N := 15) ?hd (cs := #[.string a0, .int .i64 0]) (t := 62) ?hr ?_; (case hd => rfl); (case hg => rfl); (case hr => first | (go_simp; done) | (go_simp; rfl)); intro gb130 hg w14 hbox hb; have n0_ := bb_ BK129 hb; have n1_ := Aside0.mk (below_step (bl_ HB).out hb); have n2_ := Aside0.mk (hbox); have n3_ := Aside0.mk ((by rw [hg]; exact Nat.ne_of_lt (blk_lt (g := gb129) (o := .cells #[.bool false, .string (⟨#[]⟩ : ByteArray), .int .i64 0] 24 (0, 0)) (by (with_reducible repeat (first | refine blk_drewN ?_ _ | refine blk_drew ?_ | refine blk_alloc ?_ _)); exact BK129.out)) : gb129 ≠ gb130)); have n4_ := Aside0.mk ((by rw [hg]; exact Nat.ne_of_gt (blk_lt (g := gb129) (o := .cells #[.bool false, .string (⟨#[]⟩ : ByteArray), .int .i64 0] 24 (0, 0)) (by (with_reducible repeat (first | refine blk_drewN ?_ _ | refine blk_drew ?_ | refine blk_alloc ?_ _)); exact BK129.out)) : gb130 ≠ gb129)); have n5_ := Aside0.mk ((⟨hbox, (by rw [hg]; exact (below_size (bl_ HB).out) : w.heap.size ≤ gb130)⟩ : IsS62 w w14 gb130 a0 0)); clear BK129; clear HB; have BK129 := n0_; have HB := n1_; have HI130 := n2_; have NB129_130 := n3_; have NB130_129 := n4_; have HI130 := n5_; clear n0_ n1_ n2_ n3_ n4_ n5_; clear hb hbox hg) | ((with_reducible refine gate_callee (f := 39) rfl ?_); refine goesL_ (some 17) rfl rfl Tryd.func39 (by kernel_rfl) rfl #[.pointer (some ⟨gb130, 0, none⟩), .string (⟨#[45]⟩ : ByteArray)] rfl (by (try simp only [List.map_toArray, List.map_cons, List.map_nil]); first | done | rfl | (simp only [List.length_drop, List.length_take]; rfl) | (have z_ : ∀ s_ : ByteArray, s_.size ≤ 9223372036854775807 → -(s_.size : Int) = wrap64 (-(s_.size : Int)) := (fun s_ h_ => by unfold wrap64; omega); rw [← z_ _ (by omega)]; rfl)) ?_; (with_reducible refine (dec_reader_take.calls gb130 a0 0 (⟨#[45]⟩ : ByteArray) t131 t132 t133 w _ ?side1 ?side2 A2.out).mono ?_); (case side1 => repeat (first | (with_reducible first | exact HI130.out | apply IsS62.alloc | apply IsS62.drewN | apply IsS62.drew | apply IsS62.set_0 | apply IsS62.set_1 | refine IsS62.far ?_ NB130_129.out _) | exact HI130.out)); (case side2 => repeat (first | (with_reducible first | exact HB.out | apply below_alloc | apply pw_below_drewN | apply below_drew1 | refine below_set ?_ (IsS62.ge HI130.out) | refine below_set ?_ GE129.out) | exact HB.out)); rintro e w15 ⟨rfl, hi, hb, hk⟩; refine ⟨_, rfl, ?_⟩; have n0_ := Aside0.mk (KeepBut.blk hk (g' := gb129) (o := .cells #[.bool false, .string (⟨#[]⟩ : ByteArray), .int .i64 0] 24 (0, 0)) (by (with_reducible repeat (first | refine blk_drewN ?_ _ | refine blk_drew ?_ | refine blk_alloc ?_ _)); exact BK129.out) NB129_130.out (by simp)); have n1_ := Aside0.mk (hb); have n2_ := Aside0.mk (hi); clear BK129; clear HB; clear HI130; have BK129 := n0_; have HB := n1_; have HI130 := n2_; clear n0_ n1_ n2_; (try clear hb); (try clear hb2); (try clear hk); (try clear hi)) | ((with_reducible refine gate_callee (f := 40) rfl ?_); refine goesL_ (some 19) rfl rfl Tryd.func40 (by kernel_rfl) rfl #[.pointer (some ⟨gb130, 0, none⟩)] rfl (by (try simp only [List.map_toArray, List.map_cons, List.map_nil]); first | done | rfl | (simp only [List.length_drop, List.length_take]; rfl) | (have z_ : ∀ s_ : ByteArray, s_.size ≤ 9223372036854775807 → -(s_.size : Int) = wrap64 (-(s_.size : Int)) := (fun s_ h_ => by unfold wrap64; omega); rw [← z_ _ (by omega)]; rfl)) ?_; (with_reducible refine (dec_reader_digits.calls k gb130 t132 t133 t134 t135 t136 w _ ?side1 ?side2 A3.out).mono ?_); (case side1 => repeat (first | (with_reducible first | exact HI130.out | apply IsS62.alloc | apply IsS62.drewN | apply IsS62.drew | apply IsS62.set_0 | apply IsS62.set_1 | refine IsS62.far ?_ NB130_129.out _) | exact HI130.out)); (case side2 => repeat (first | (with_reducible first | exact HB.out | apply below_alloc | apply pw_below_drewN | apply below_drew1 | refine below_set ?_ (IsS62.ge HI130.out) | refine below_set ?_ GE129.out) | exact HB.out)); rintro e w16 ⟨rfl, hi, hb, hk⟩; refine ⟨_, rfl, ?_⟩; have n0_ := Aside0.mk (KeepBut.blk hk (g' := gb129) (o := .cells #[.bool false, .string (⟨#[]⟩ : ByteArray), .int .i64 0] 24 (0, 0)) (by (with_reducible repeat (first | refine blk_drewN ?_ _ | refine blk_drew ?_ | refine blk_alloc ?_ _)); exact BK129.out) NB129_130.out (by simp)); have n1_ := Aside0.mk (hb); have n2_ := Aside0.mk (hi); clear BK129; clear HB; clear HI130; have BK129 := n0_; have HB := n1_; have HI130 := n2_; clear n0_ n1_ n2_; (try clear hb); (try clear hb2); (try clear hk); (try clear hi)) | ((with_reducible refine gate_callee (f := 39) rfl ?_); refine goesL_ (some 24) rfl rfl Tryd.func39 (by kernel_rfl) rfl #[.pointer (some ⟨gb130, 0, none⟩), .string (⟨#[46]⟩ : ByteArray)] rfl (by (try simp only [List.map_toArray, List.map_cons, List.map_nil]); first | done | rfl | (simp only [List.length_drop, List.length_take]; rfl) | (have z_ : ∀ s_ : ByteArray, s_.size ≤ 9223372036854775807 → -(s_.size : Int) = wrap64 (-(s_.size : Int)) := (fun s_ h_ => by unfold wrap64; omega); rw [← z_ _ (by omega)]; rfl)) ?_; (with_reducible refine (dec_reader_take.calls gb130 t135 t136 (⟨#[46]⟩ : ByteArray) t137 t138 t139 w _ ?side1 ?side2 A11.out).mono ?_); (case side1 => repeat (first | (with_reducible first | exact HI130.out | apply IsS62.alloc | apply IsS62.drewN | apply IsS62.drew | apply IsS62.set_0 | apply IsS62.set_1 | refine IsS62.far ?_ NB130_129.out _) | exact HI130.out)); (case side2 => repeat (first | (with_reducible first | exact HB.out | apply below_alloc | apply pw_below_drewN | apply below_drew1 | refine below_set ?_ (IsS62.ge HI130.out) | refine below_set ?_ GE129.out) | exact HB.out)); rintro e w17 ⟨rfl, hi, hb, hk⟩; refine ⟨_, rfl, ?_⟩; have n0_ := Aside0.mk (KeepBut.blk hk (g' := gb129) (o := .cells #[.bool false, .string (⟨#[]⟩ : ByteArray), .int .i64 0] 24 (0, 0)) (by (with_reducible repeat (first | refine blk_drewN ?_ _ | refine blk_drew ?_ | refine blk_alloc ?_ _)); exact BK129.out) NB129_130.out (by simp)); have n1_ := Aside0.mk (hb); have n2_ := Aside0.mk (hi); clear BK129; clear HB; clear HI130; have BK129 := n0_; have HB := n1_; have HI130 := n2_; clear n0_ n1_ n2_; (try clear hb); (try clear hb2); (try clear hk); (try clear hi)))
    (try simp only [Act.put, List.setIfInBounds_toArray, List.set_cons_zero, List.set_cons_succ])
    go_cut [7] (fun v7 wc => ∃ (kq : Nat) (x7_11 : ByteArray) (x130000_11 : Bool) (x130001_11 : ByteArray) (x130002_11 : Int) (x131000_11 : ByteArray) (x131001_11 : Int), v7 = .string x7_11 ∧ Aside0 (dec_Parse.j0 kq a0 t131 t134 x7_11 x131000_11 x131001_11 = some (r1, r2, r3, r4)) ∧ Aside0 (kq ≤ k) ∧ Aside0 (wc.heap[gb129]? = some (.cells #[.bool x130000_11, .string x130001_11, .int .i64 x130002_11] 24 (0, 0))) ∧ Aside0 (IsS62 w wc gb130 x131000_11 x131001_11) ∧ Aside0 (Below w.heap.size w wc))
    case first =>
      have H := HC12.out
      clear HC12
      by_cases c18 : t137 = true
      · subst c18
        have H1 : ((dec_reader_digits.f k t138 t139).bind fun bt140 => (if bt140.1.toList = ([] : List UInt8) then (some (false, (⟨#[]⟩ : ByteArray), 0, 1)) else (dec_Parse.j0 k a0 t131 t134 bt140.1 bt140.2.1 bt140.2.2))) = some (r1, r2, r3, r4) := by rw [if_pos rfl] at H; exact H
        clear H
        have H := H1
        clear H1
        replace H := Option.bind_eq_some_iff.mp H
        obtain ⟨⟨t140, t141, t142⟩, A190, H⟩ := H
        replace H : (if t140.toList = ([] : List UInt8) then (some (false, (⟨#[]⟩ : ByteArray), 0, 1)) else (dec_Parse.j0 k a0 t131 t134 t140 t141 t142)) = some (r1, r2, r3, r4) := H
        have A19 := Aside0.mk A190
        clear A190
        by_cases c20 : t140.toList = ([] : List UInt8)
        · rw [if_pos c20] at H
          have c20b0 : (t140.toList == ([] : List UInt8)) = true := beq_iff_eq.mpr c20
          have c20b1 : (t140.toList != ([] : List UInt8)) = false := bne_eq_false_iff_eq.mpr c20
          have c20b2 : (t140.toList.isEmpty) = true := by rw [c20]; rfl
          clear c20
          (first | rw [c20b0] | (simp only [i64_w, i32_w]; rw [c20b0]) | rw [c20b2] | skip)
          simp only [Option.some.injEq, Prod.mk.injEq] at H
          obtain ⟨rfl, rfl, rfl, rfl⟩ := H
          go_wp2_with (first | ((with_reducible refine gate_callee (f := 40) rfl ?_); refine goesL_ (some 26) rfl rfl Tryd.func40 (by kernel_rfl) rfl #[.pointer (some ⟨gb130, 0, none⟩)] rfl (by (try simp only [List.map_toArray, List.map_cons, List.map_nil]); first | done | rfl | (simp only [List.length_drop, List.length_take]; rfl) | (have z_ : ∀ s_ : ByteArray, s_.size ≤ 9223372036854775807 → -(s_.size : Int) = wrap64 (-(s_.size : Int)) := (fun s_ h_ => by unfold wrap64; omega); rw [← z_ _ (by omega)]; rfl)) ?_; (with_reducible refine (dec_reader_digits.calls k gb130 t138 t139 t140 t141 t142 w _ ?side1 ?side2 A19.out).mono ?_); (case side1 => repeat (first | (with_reducible first | exact HI130.out | apply IsS62.alloc | apply IsS62.drewN | apply IsS62.drew | apply IsS62.set_0 | apply IsS62.set_1 | refine IsS62.far ?_ NB130_129.out _) | exact HI130.out)); (case side2 => repeat (first | (with_reducible first | exact HB.out | apply below_alloc | apply pw_below_drewN | apply below_drew1 | refine below_set ?_ (IsS62.ge HI130.out) | refine below_set ?_ GE129.out) | exact HB.out)); rintro e w21 ⟨rfl, hi, hb, hk⟩; refine ⟨_, rfl, ?_⟩; have n0_ := Aside0.mk (KeepBut.blk hk (g' := gb129) (o := .cells #[.bool false, .string (⟨#[]⟩ : ByteArray), .int .i64 0] 24 (0, 0)) (by (with_reducible repeat (first | refine blk_drewN ?_ _ | refine blk_drew ?_ | refine blk_alloc ?_ _)); exact BK129.out) NB129_130.out (by simp)); have n1_ := Aside0.mk (hb); have n2_ := Aside0.mk (hi); clear BK129; clear HB; clear HI130; have BK129 := n0_; have HB := n1_; have HI130 := n2_; clear n0_ n1_ n2_; (try clear hb); (try clear hb2); (try clear hk); (try clear hi); have hnb22 := NB129_130.out; have hnc22 := NB130_129.out; have hcz23_0 : w21.cell? ⟨gb129, 0, none⟩ = some (.bool false) := (blk_cell BK129.out 0).trans rfl; have hcz23_1 : w21.cell? ⟨gb129, 1, none⟩ = some (.string (⟨#[]⟩ : ByteArray)) := (blk_cell BK129.out 1).trans rfl; have hcz23_2 : w21.cell? ⟨gb129, 2, none⟩ = some (.int .i64 0) := (blk_cell BK129.out 2).trans rfl; have hfz23_0 := blk_frozen BK129.out 0; have hfz23_1 := blk_frozen BK129.out 1; have hfz23_2 := blk_frozen BK129.out 2))
          refine bodyPost_ret (results_ct rfl _ _ gb129 24 #[.bool false, .string (⟨#[]⟩ : ByteArray), .int .i64 0] (0, 0) _ rfl (by (with_reducible repeat (first | refine blk_drewN ?_ _ | refine blk_drew ?_ | refine blk_alloc ?_ _)); refine blk_put (cs := #[.bool false, .string (⟨#[]⟩ : ByteArray), .int .i64 0]) ?_ 2 _ rfl; (with_reducible repeat (first | refine blk_drewN ?_ _ | refine blk_drew ?_ | refine blk_alloc ?_ _)); refine blk_put (cs := #[.bool false, .string (⟨#[]⟩ : ByteArray), .int .i64 0]) ?_ 1 _ rfl; (with_reducible repeat (first | refine blk_drewN ?_ _ | refine blk_drew ?_ | refine blk_alloc ?_ _)); refine blk_put (cs := #[.bool false, .string (⟨#[]⟩ : ByteArray), .int .i64 0]) ?_ 0 _ rfl; (with_reducible repeat (first | refine blk_drewN ?_ _ | refine blk_drew ?_ | refine blk_alloc ?_ _)); exact BK129.out) Tryd.underlying24 rfl (by kernel_rfl)) rfl ?_
          exact ⟨by first | rfl | (simp [errW_none, errW_some] <;> rfl) | (simp [*, errW_none, errW_some] <;> first | rfl | exact given_isEmpty _ | exact (given_isEmpty _).symm), by repeat (first | (with_reducible first | exact HB.out | apply below_alloc | apply pw_below_drewN | apply below_drew1 | refine below_set ?_ (IsS62.ge HI130.out) | refine below_set ?_ GE129.out) | exact HB.out)⟩
        · rw [if_neg c20] at H
          have c20b0 : (t140.toList == ([] : List UInt8)) = false := beq_eq_false_iff_ne.mpr c20
          have c20b1 : (t140.toList != ([] : List UInt8)) = true := bne_iff_ne.mpr c20
          have c20b2 : (t140.toList.isEmpty) = false := by rw [given_isEmpty, bne_iff_ne.mpr c20]; rfl
          (first | rw [c20b0] | (simp only [i64_w, i32_w]; rw [c20b0]) | rw [c20b2] | skip)
          have H' := Aside0.mk H
          clear H
          go_wp2_with (first | ((with_reducible refine gate_callee (f := 40) rfl ?_); refine goesL_ (some 26) rfl rfl Tryd.func40 (by kernel_rfl) rfl #[.pointer (some ⟨gb130, 0, none⟩)] rfl (by (try simp only [List.map_toArray, List.map_cons, List.map_nil]); first | done | rfl | (simp only [List.length_drop, List.length_take]; rfl) | (have z_ : ∀ s_ : ByteArray, s_.size ≤ 9223372036854775807 → -(s_.size : Int) = wrap64 (-(s_.size : Int)) := (fun s_ h_ => by unfold wrap64; omega); rw [← z_ _ (by omega)]; rfl)) ?_; (with_reducible refine (dec_reader_digits.calls k gb130 t138 t139 t140 t141 t142 w _ ?side1 ?side2 A19.out).mono ?_); (case side1 => repeat (first | (with_reducible first | exact HI130.out | apply IsS62.alloc | apply IsS62.drewN | apply IsS62.drew | apply IsS62.set_0 | apply IsS62.set_1 | refine IsS62.far ?_ NB130_129.out _) | exact HI130.out)); (case side2 => repeat (first | (with_reducible first | exact HB.out | apply below_alloc | apply pw_below_drewN | apply below_drew1 | refine below_set ?_ (IsS62.ge HI130.out) | refine below_set ?_ GE129.out) | exact HB.out)); rintro e w24 ⟨rfl, hi, hb, hk⟩; refine ⟨_, rfl, ?_⟩; have n0_ := Aside0.mk (KeepBut.blk hk (g' := gb129) (o := .cells #[.bool false, .string (⟨#[]⟩ : ByteArray), .int .i64 0] 24 (0, 0)) (by (with_reducible repeat (first | refine blk_drewN ?_ _ | refine blk_drew ?_ | refine blk_alloc ?_ _)); exact BK129.out) NB129_130.out (by simp)); have n1_ := Aside0.mk (hb); have n2_ := Aside0.mk (hi); clear BK129; clear HB; clear HI130; have BK129 := n0_; have HB := n1_; have HI130 := n2_; clear n0_ n1_ n2_; (try clear hb); (try clear hb2); (try clear hk); (try clear hi)))
          go_meet
          case rel => exact ⟨_, (t140), (false), ((⟨#[]⟩ : ByteArray)), (0), (t141), (t142), eq_, H', ⟨by first | omega | exact Nat.le_refl _⟩, (bk_ BK129), ⟨by repeat (first | (with_reducible first | exact HI130.out | apply IsS62.alloc | apply IsS62.drewN | apply IsS62.drew | apply IsS62.set_0 | apply IsS62.set_1 | refine IsS62.far ?_ NB130_129.out _) | exact HI130.out)⟩, ⟨by repeat (first | (with_reducible first | exact HB.out | apply below_alloc | apply pw_below_drewN | apply below_drew1 | refine below_set ?_ (IsS62.ge HI130.out) | refine below_set ?_ GE129.out) | exact HB.out)⟩⟩
      · replace c18 := Bool.eq_false_iff.mpr c18
        subst c18
        have H1 : (dec_Parse.j0 k a0 t131 t134 (⟨#[]⟩ : ByteArray) t138 t139) = some (r1, r2, r3, r4) := by rw [if_neg (show ¬ (false = true) by decide)] at H; exact H
        clear H
        have H := H1
        clear H1
        have H' := Aside0.mk H
        clear H
        go_wp2
        go_meet
        case rel => exact ⟨_, ((⟨#[]⟩ : ByteArray)), (false), ((⟨#[]⟩ : ByteArray)), (0), (t138), (t139), eq_, H', ⟨by first | omega | exact Nat.le_refl _⟩, (bk_ BK129), ⟨by repeat (first | (with_reducible first | exact HI130.out | apply IsS62.alloc | apply IsS62.drewN | apply IsS62.drew | apply IsS62.set_0 | apply IsS62.set_1 | refine IsS62.far ?_ NB130_129.out _) | exact HI130.out)⟩, ⟨by repeat (first | (with_reducible first | exact HB.out | apply below_alloc | apply pw_below_drewN | apply below_drew1 | refine below_set ?_ (IsS62.ge HI130.out) | refine below_set ?_ GE129.out) | exact HB.out)⟩⟩
    case rest =>
      clear HC12
      try clear c1
      try clear c2
      try clear p2
      try clear c3
      try clear c4
      try clear c4b0
      try clear c4b1
      try clear c4b2
      try clear p6
      try clear c9
      try clear c12
      try clear c18
      try clear c20
      try clear c20b0
      try clear c20b1
      try clear c20b2
      try clear c22
      try clear hcz10_0
      try clear hcz10_1
      try clear hcz10_2
      try clear hcz23_0
      try clear hcz23_1
      try clear hcz23_2
      try clear hfz10_0
      try clear hfz10_1
      try clear hfz10_2
      try clear hfz23_0
      try clear hfz23_1
      try clear hfz23_2
      obtain ⟨kq, x7_11, x130000_11, x130001_11, x130002_11, x131000_11, x131001_11, rfl, HA, HJ11, BK129, HI130, HB⟩ := hcut
      cases kq with
      | zero => exact absurd HA.out (by simp [dec_Parse.j0])
      | succ kj11 =>
        have H := HA.out
        clear HA
        simp only [dec_Parse.j0] at H
        replace H := Option.bind_eq_some_iff.mp H
        obtain ⟨⟨t143, t144, t145, t146, t147⟩, A250, H⟩ := H
        replace H : (if t145 = true then (dec_Parse.j1 kj11 t131 t134 x7_11 t143 t144 (decide (t147 < (a0.size : Int)))) else (dec_Parse.j1 kj11 t131 t134 x7_11 t143 t144 true)) = some (r1, r2, r3, r4) := H
        have A25 := Aside0.mk A250
        clear A250
        have HC26 := Aside0.mk H
        clear H
        go_upto_region 11 with (first | ((with_reducible refine gate_callee (f := 41) rfl ?_); refine goesL_ (some 32) rfl rfl Tryd.func41 (by kernel_rfl) rfl #[.pointer (some ⟨gb130, 0, none⟩)] rfl (by (try simp only [List.map_toArray, List.map_cons, List.map_nil]); first | done | rfl | (simp only [List.length_drop, List.length_take]; rfl) | (have z_ : ∀ s_ : ByteArray, s_.size ≤ 9223372036854775807 → -(s_.size : Int) = wrap64 (-(s_.size : Int)) := (fun s_ h_ => by unfold wrap64; omega); rw [← z_ _ (by omega)]; rfl)) ?_; (with_reducible refine (dec_reader_exponent.calls kj11 gb130 x131000_11 x131001_11 t143 t144 t145 t146 t147 w _ ?side1 ?side2 A25.out).mono ?_); (case side1 => repeat (first | (with_reducible first | exact HI130.out | apply IsS62.alloc | apply IsS62.drewN | apply IsS62.drew | apply IsS62.set_0 | apply IsS62.set_1 | refine IsS62.far ?_ NB130_129.out _) | exact HI130.out)); (case side2 => repeat (first | (with_reducible first | exact HB.out | apply below_alloc | apply pw_below_drewN | apply below_drew1 | refine below_set ?_ (IsS62.ge HI130.out) | refine below_set ?_ GE129.out) | exact HB.out)); rintro e w27 ⟨rfl, hi, hb, hk⟩; refine ⟨_, rfl, ?_⟩; have n0_ := Aside0.mk (KeepBut.blk hk (g' := gb129) (o := .cells #[.bool x130000_11, .string x130001_11, .int .i64 x130002_11] 24 (0, 0)) (by (with_reducible repeat (first | refine blk_drewN ?_ _ | refine blk_drew ?_ | refine blk_alloc ?_ _)); exact BK129.out) NB129_130.out (by simp)); have n1_ := Aside0.mk (hb); have n2_ := Aside0.mk (hi); clear BK129; clear HB; clear HI130; have BK129 := n0_; have HB := n1_; have HI130 := n2_; clear n0_ n1_ n2_; (try clear hb); (try clear hb2); (try clear hk); (try clear hi)))
        (try simp only [Act.put, List.setIfInBounds_toArray, List.set_cons_zero, List.set_cons_succ])
        go_cut [46] (fun v46 wc => ∃ (kq : Nat) (x46_25 : Bool), v46 = .bool x46_25 ∧ Aside0 (dec_Parse.j1 kq t131 t134 x7_11 t143 t144 x46_25 = some (r1, r2, r3, r4)) ∧ Aside0 (kq ≤ kj11) ∧ Aside0 (wc.heap[gb129]? = some (.cells #[.bool x130000_11, .string x130001_11, .int .i64 x130002_11] 24 (0, 0))) ∧ Aside0 (Below w.heap.size w wc))
        case first =>
          have H := HC26.out
          clear HC26
          by_cases c28 : t145 = true
          · subst c28
            have H1 : (dec_Parse.j1 kj11 t131 t134 x7_11 t143 t144 (decide (t147 < (a0.size : Int)))) = some (r1, r2, r3, r4) := by rw [if_pos rfl] at H; exact H
            clear H
            have H := H1
            clear H1
            have H' := Aside0.mk H
            clear H
            obtain ⟨HGz29, hgz29⟩ := HI130.out
            have hcz29_0 := cellS62_0 HGz29
            have hcz29_1 := cellS62_1 HGz29
            have hfz29_0 := blk_frozen HGz29 0
            have hfz29_1 := blk_frozen HGz29 1
            clear HGz29 hgz29
            go_wp2
            go_meet
            case rel => exact ⟨_, (decide (t147 < (a0.size : Int))), eq_, H', ⟨by have := HJ11.out; first | omega | exact Nat.le_refl _⟩, (bk_ BK129), ⟨by repeat (first | (with_reducible first | exact HB.out | apply below_alloc | apply pw_below_drewN | apply below_drew1 | refine below_set ?_ (IsS62.ge HI130.out) | refine below_set ?_ GE129.out) | exact HB.out)⟩⟩
          · replace c28 := Bool.eq_false_iff.mpr c28
            subst c28
            have H1 : (dec_Parse.j1 kj11 t131 t134 x7_11 t143 t144 true) = some (r1, r2, r3, r4) := by rw [if_neg (show ¬ (false = true) by decide)] at H; exact H
            clear H
            have H := H1
            clear H1
            have H' := Aside0.mk H
            clear H
            go_wp2
            go_meet
            case rel => exact ⟨_, (true), eq_, H', ⟨by have := HJ11.out; first | omega | exact Nat.le_refl _⟩, (bk_ BK129), ⟨by repeat (first | (with_reducible first | exact HB.out | apply below_alloc | apply pw_below_drewN | apply below_drew1 | refine below_set ?_ (IsS62.ge HI130.out) | refine below_set ?_ GE129.out) | exact HB.out)⟩⟩
        case rest =>
          clear HC26
          try clear c1
          try clear c2
          try clear p2
          try clear c3
          try clear c4
          try clear c4b0
          try clear c4b1
          try clear c4b2
          try clear p6
          try clear c9
          try clear c12
          try clear c18
          try clear c20
          try clear c20b0
          try clear c20b1
          try clear c20b2
          try clear c22
          try clear c28
          try clear hcz10_0
          try clear hcz10_1
          try clear hcz10_2
          try clear hcz23_0
          try clear hcz23_1
          try clear hcz23_2
          try clear hcz29_0
          try clear hcz29_1
          try clear hfz10_0
          try clear hfz10_1
          try clear hfz10_2
          try clear hfz23_0
          try clear hfz23_1
          try clear hfz23_2
          try clear hfz29_0
          try clear hfz29_1
          try clear p2
          try clear p6
          obtain ⟨kq, x46_25, rfl, HA, HJ25, BK129, HB⟩ := hcut
          cases kq with
          | zero => exact absurd HA.out (by simp [dec_Parse.j1])
          | succ kj25 =>
            have H := HA.out
            clear HA
            simp only [dec_Parse.j1] at H
            by_cases c30 : x46_25 = true
            · subst c30
              have H1 : (some (false, (⟨#[]⟩ : ByteArray), 0, 1)) = some (r1, r2, r3, r4) := by rw [if_pos rfl] at H; exact H
              clear H
              have H := H1
              clear H1
              simp only [Option.some.injEq, Prod.mk.injEq] at H
              obtain ⟨rfl, rfl, rfl, rfl⟩ := H
              have hcz31_0 : wc.cell? ⟨gb129, 0, none⟩ = some (.bool x130000_11) := (blk_cell BK129.out 0).trans rfl
              have hcz31_1 : wc.cell? ⟨gb129, 1, none⟩ = some (.string x130001_11) := (blk_cell BK129.out 1).trans rfl
              have hcz31_2 : wc.cell? ⟨gb129, 2, none⟩ = some (.int .i64 x130002_11) := (blk_cell BK129.out 2).trans rfl
              have hfz31_0 := blk_frozen BK129.out 0
              have hfz31_1 := blk_frozen BK129.out 1
              have hfz31_2 := blk_frozen BK129.out 2
              go_wp2
              refine bodyPost_ret (results_ct rfl _ _ gb129 24 #[.bool false, .string (⟨#[]⟩ : ByteArray), .int .i64 0] (0, 0) _ rfl (by (with_reducible repeat (first | refine blk_drewN ?_ _ | refine blk_drew ?_ | refine blk_alloc ?_ _)); refine blk_put (cs := #[.bool false, .string (⟨#[]⟩ : ByteArray), .int .i64 x130002_11]) ?_ 2 _ rfl; (with_reducible repeat (first | refine blk_drewN ?_ _ | refine blk_drew ?_ | refine blk_alloc ?_ _)); refine blk_put (cs := #[.bool false, .string x130001_11, .int .i64 x130002_11]) ?_ 1 _ rfl; (with_reducible repeat (first | refine blk_drewN ?_ _ | refine blk_drew ?_ | refine blk_alloc ?_ _)); refine blk_put (cs := #[.bool x130000_11, .string x130001_11, .int .i64 x130002_11]) ?_ 0 _ rfl; (with_reducible repeat (first | refine blk_drewN ?_ _ | refine blk_drew ?_ | refine blk_alloc ?_ _)); exact BK129.out) Tryd.underlying24 rfl (by kernel_rfl)) rfl ?_
              exact ⟨by first | rfl | (simp [errW_none, errW_some] <;> rfl) | (simp [*, errW_none, errW_some] <;> first | rfl | exact given_isEmpty _ | exact (given_isEmpty _).symm), by repeat (first | (with_reducible first | exact HB.out | apply below_alloc | apply pw_below_drewN | apply below_drew1 | refine below_set ?_ GE129.out) | exact HB.out)⟩
            · replace c30 := Bool.eq_false_iff.mpr c30
              subst c30
              have H1 : ((num_Int.f kj25 t144).bind fun bt148 => (if (wrap64 ((t134.size : Int) + (x7_11.size : Int))) > 1000 then (dec_Parse.j2 kj25 t131 t134 x7_11 t143 bt148.1 true) else (if bt148.2 = true then (dec_Parse.j2 kj25 t131 t134 x7_11 t143 bt148.1 (decide (bt148.1 > 10000))) else (dec_Parse.j2 kj25 t131 t134 x7_11 t143 bt148.1 true)))) = some (r1, r2, r3, r4) := by rw [if_neg (show ¬ (false = true) by decide)] at H; exact H
              clear H
              have H := H1
              clear H1
              replace H := Option.bind_eq_some_iff.mp H
              obtain ⟨⟨t148, t149⟩, A320, H⟩ := H
              replace H : (if (wrap64 ((t134.size : Int) + (x7_11.size : Int))) > 1000 then (dec_Parse.j2 kj25 t131 t134 x7_11 t143 t148 true) else (if t149 = true then (dec_Parse.j2 kj25 t131 t134 x7_11 t143 t148 (decide (t148 > 10000))) else (dec_Parse.j2 kj25 t131 t134 x7_11 t143 t148 true))) = some (r1, r2, r3, r4) := H
              have A32 := Aside0.mk A320
              clear A320
              have HC33 := Aside0.mk H
              clear H
              go_upto_region 14 with (first | ((with_reducible refine gate_callee (f := 42) rfl ?_); refine goesL_ (some 50) rfl rfl Tryd.func42 (by kernel_rfl) rfl #[.string t144] rfl (by (try simp only [List.map_toArray, List.map_cons, List.map_nil]); first | done | rfl | (simp only [List.length_drop, List.length_take]; rfl) | (have z_ : ∀ s_ : ByteArray, s_.size ≤ 9223372036854775807 → -(s_.size : Int) = wrap64 (-(s_.size : Int)) := (fun s_ h_ => by unfold wrap64; omega); rw [← z_ _ (by omega)]; rfl)) ?_; (with_reducible refine (num_Int.calls kj25 t144 t148 t149 _ A32.out).mono ?_); rintro e w34 ⟨rfl, hb⟩; refine ⟨_, rfl, ?_⟩; have n0_ := bb_ BK129 hb; have n1_ := Aside0.mk (below_step (bl_ HB).out hb); clear BK129; clear HB; have BK129 := n0_; have HB := n1_; clear n0_ n1_; (try clear hb); (try clear hb2); (try clear hk); (try clear hi)))
              (try simp only [Act.put, List.setIfInBounds_toArray, List.set_cons_zero, List.set_cons_succ])
              go_cut [66] (fun v66 wc => ∃ (kq : Nat) (x66_32 : Bool), v66 = .bool x66_32 ∧ Aside0 (dec_Parse.j2 kq t131 t134 x7_11 t143 t148 x66_32 = some (r1, r2, r3, r4)) ∧ Aside0 (kq ≤ kj25) ∧ Aside0 (wc.heap[gb129]? = some (.cells #[.bool x130000_11, .string x130001_11, .int .i64 x130002_11] 24 (0, 0))) ∧ Aside0 (Below w.heap.size w wc))
              case first =>
                have H := HC33.out
                clear HC33
                by_cases c35 : (wrap64 ((t134.size : Int) + (x7_11.size : Int))) > 1000
                · rw [if_pos c35] at H
                  have c35b0 : decide (1000 < (wrap64 ((t134.size : Int) + (x7_11.size : Int)))) = true := decide_eq_true c35
                  clear c35
                  (first | rw [c35b0] | (simp only [i64_w, i32_w]; rw [c35b0]) | skip)
                  have H' := Aside0.mk H
                  clear H
                  go_wp2
                  go_meet
                  case rel => exact ⟨_, (true), eq_, H', ⟨by have := HJ11.out; have := HJ25.out; first | omega | exact Nat.le_refl _⟩, (bk_ BK129), (bl_ HB)⟩
                · rw [if_neg c35] at H
                  have c35b0 : decide (1000 < (wrap64 ((t134.size : Int) + (x7_11.size : Int)))) = false := decide_eq_false c35
                  clear c35
                  (first | rw [c35b0] | (simp only [i64_w, i32_w]; rw [c35b0]) | skip)
                  by_cases c36 : t149 = true
                  · subst c36
                    have H1 : (dec_Parse.j2 kj25 t131 t134 x7_11 t143 t148 (decide (t148 > 10000))) = some (r1, r2, r3, r4) := by rw [if_pos rfl] at H; exact H
                    clear H
                    have H := H1
                    clear H1
                    have H' := Aside0.mk H
                    clear H
                    go_wp2
                    go_meet
                    case rel => exact ⟨_, (decide (t148 > 10000)), eq_, H', ⟨by have := HJ11.out; have := HJ25.out; first | omega | exact Nat.le_refl _⟩, (bk_ BK129), (bl_ HB)⟩
                  · replace c36 := Bool.eq_false_iff.mpr c36
                    subst c36
                    have H1 : (dec_Parse.j2 kj25 t131 t134 x7_11 t143 t148 true) = some (r1, r2, r3, r4) := by rw [if_neg (show ¬ (false = true) by decide)] at H; exact H
                    clear H
                    have H := H1
                    clear H1
                    have H' := Aside0.mk H
                    clear H
                    go_wp2
                    go_meet
                    case rel => exact ⟨_, (true), eq_, H', ⟨by have := HJ11.out; have := HJ25.out; first | omega | exact Nat.le_refl _⟩, (bk_ BK129), (bl_ HB)⟩
              case rest =>
                clear HC33
                try clear c1
                try clear c2
                try clear p2
                try clear c3
                try clear c4
                try clear c4b0
                try clear c4b1
                try clear c4b2
                try clear p6
                try clear c9
                try clear c12
                try clear c18
                try clear c20
                try clear c20b0
                try clear c20b1
                try clear c20b2
                try clear c22
                try clear c28
                try clear c30
                try clear c35
                try clear c35b0
                try clear c36
                try clear hcz10_0
                try clear hcz10_1
                try clear hcz10_2
                try clear hcz23_0
                try clear hcz23_1
                try clear hcz23_2
                try clear hcz29_0
                try clear hcz29_1
                try clear hcz31_0
                try clear hcz31_1
                try clear hcz31_2
                try clear hfz10_0
                try clear hfz10_1
                try clear hfz10_2
                try clear hfz23_0
                try clear hfz23_1
                try clear hfz23_2
                try clear hfz29_0
                try clear hfz29_1
                try clear hfz31_0
                try clear hfz31_1
                try clear hfz31_2
                try clear p2
                try clear p6
                obtain ⟨kq, x66_32, rfl, HA, HJ32, BK129, HB⟩ := hcut
                cases kq with
                | zero => exact absurd HA.out (by simp [dec_Parse.j2])
                | succ kj32 =>
                  have H := HA.out
                  clear HA
                  simp only [dec_Parse.j2] at H
                  by_cases c37 : x66_32 = true
                  · subst c37
                    have H1 : (some (false, (⟨#[]⟩ : ByteArray), 0, 2)) = some (r1, r2, r3, r4) := by rw [if_pos rfl] at H; exact H
                    clear H
                    have H := H1
                    clear H1
                    simp only [Option.some.injEq, Prod.mk.injEq] at H
                    obtain ⟨rfl, rfl, rfl, rfl⟩ := H
                    have hcz38_0 : wc.cell? ⟨gb129, 0, none⟩ = some (.bool x130000_11) := (blk_cell BK129.out 0).trans rfl
                    have hcz38_1 : wc.cell? ⟨gb129, 1, none⟩ = some (.string x130001_11) := (blk_cell BK129.out 1).trans rfl
                    have hcz38_2 : wc.cell? ⟨gb129, 2, none⟩ = some (.int .i64 x130002_11) := (blk_cell BK129.out 2).trans rfl
                    have hfz38_0 := blk_frozen BK129.out 0
                    have hfz38_1 := blk_frozen BK129.out 1
                    have hfz38_2 := blk_frozen BK129.out 2
                    go_wp2
                    refine bodyPost_ret (results_ct rfl _ _ gb129 24 #[.bool false, .string (⟨#[]⟩ : ByteArray), .int .i64 0] (0, 0) _ rfl (by (with_reducible repeat (first | refine blk_drewN ?_ _ | refine blk_drew ?_ | refine blk_alloc ?_ _)); refine blk_put (cs := #[.bool false, .string (⟨#[]⟩ : ByteArray), .int .i64 x130002_11]) ?_ 2 _ rfl; (with_reducible repeat (first | refine blk_drewN ?_ _ | refine blk_drew ?_ | refine blk_alloc ?_ _)); refine blk_put (cs := #[.bool false, .string x130001_11, .int .i64 x130002_11]) ?_ 1 _ rfl; (with_reducible repeat (first | refine blk_drewN ?_ _ | refine blk_drew ?_ | refine blk_alloc ?_ _)); refine blk_put (cs := #[.bool x130000_11, .string x130001_11, .int .i64 x130002_11]) ?_ 0 _ rfl; (with_reducible repeat (first | refine blk_drewN ?_ _ | refine blk_drew ?_ | refine blk_alloc ?_ _)); exact BK129.out) Tryd.underlying24 rfl (by kernel_rfl)) rfl ?_
                    exact ⟨by first | rfl | (simp [errW_none, errW_some] <;> rfl) | (simp [*, errW_none, errW_some] <;> first | rfl | exact given_isEmpty _ | exact (given_isEmpty _).symm), by repeat (first | (with_reducible first | exact HB.out | apply below_alloc | apply pw_below_drewN | apply below_drew1 | refine below_set ?_ GE129.out) | exact HB.out)⟩
                  · replace c37 := Bool.eq_false_iff.mpr c37
                    subst c37
                    have H1 : (if t143 = true then (if t134.size + x7_11.size ≤ 9223372036854775807 then ((dec_Made.f kj32 t131 (t134 ++ x7_11) (wrap64 ((wrap64 (-t148)) - (x7_11.size : Int)))).bind fun bt150 => (some (bt150.1, bt150.2.1, bt150.2.2, 0))) else (none)) else (if t134.size + x7_11.size ≤ 9223372036854775807 then ((dec_Made.f kj32 t131 (t134 ++ x7_11) (wrap64 (t148 - (x7_11.size : Int)))).bind fun bt153 => (some (bt153.1, bt153.2.1, bt153.2.2, 0))) else (none))) = some (r1, r2, r3, r4) := by rw [if_neg (show ¬ (false = true) by decide)] at H; exact H
                    clear H
                    have H := H1
                    clear H1
                    by_cases c39 : t143 = true
                    · subst c39
                      have H1 : (if t134.size + x7_11.size ≤ 9223372036854775807 then ((dec_Made.f kj32 t131 (t134 ++ x7_11) (wrap64 ((wrap64 (-t148)) - (x7_11.size : Int)))).bind fun bt150 => (some (bt150.1, bt150.2.1, bt150.2.2, 0))) else (none)) = some (r1, r2, r3, r4) := by rw [if_pos rfl] at H; exact H
                      clear H
                      have H := H1
                      clear H1
                      by_cases c40 : t134.size + x7_11.size ≤ 9223372036854775807
                      · rw [if_pos c40] at H
                        have c40b0 := eq_true c40
                        have c40b1 : decide (t134.size + x7_11.size ≤ 9223372036854775807) = true := decide_eq_true c40
                        try have c40b2 : (9223372036854775807 < t134.size + x7_11.size) = False := eq_false (Nat.not_lt.2 c40)
                        replace H := Option.bind_eq_some_iff.mp H
                        obtain ⟨⟨t150, t151, t152⟩, A410, H⟩ := H
                        replace H : (some (t150, t151, t152, 0)) = some (r1, r2, r3, r4) := H
                        have A41 := Aside0.mk A410
                        clear A410
                        simp only [Option.some.injEq, Prod.mk.injEq] at H
                        obtain ⟨rfl, rfl, rfl, rfl⟩ := H
                        go_wp2_with (first | ((with_reducible refine gate_callee (f := 22) rfl ?_); refine goesL_ (some 79) rfl rfl Tryd.func22 (by kernel_rfl) rfl #[.bool t131, .string (t134 ++ x7_11), .int .i64 (wrap64 ((wrap64 (-t148)) - (x7_11.size : Int)))] rfl (by (try simp only [List.map_toArray, List.map_cons, List.map_nil]); first | done | rfl | (simp only [List.length_drop, List.length_take]; rfl) | (have z_ : ∀ s_ : ByteArray, s_.size ≤ 9223372036854775807 → -(s_.size : Int) = wrap64 (-(s_.size : Int)) := (fun s_ h_ => by unfold wrap64; omega); rw [← z_ _ (by omega)]; rfl)) ?_; (with_reducible refine (dec_Made.calls kj32 t131 (t134 ++ x7_11) (wrap64 ((wrap64 (-t148)) - (x7_11.size : Int))) t150 t151 t152 _ A41.out).mono ?_); rintro e w42 ⟨rfl, hb⟩; refine ⟨_, rfl, ?_⟩; have n0_ := bb_ BK129 hb; have n1_ := Aside0.mk (below_step (bl_ HB).out hb); clear BK129; clear HB; have BK129 := n0_; have HB := n1_; clear n0_ n1_; (try clear hb); (try clear hb2); (try clear hk); (try clear hi); have hcz43_0 : w42.cell? ⟨gb129, 0, none⟩ = some (.bool x130000_11) := (blk_cell BK129.out 0).trans rfl; have hcz43_1 : w42.cell? ⟨gb129, 1, none⟩ = some (.string x130001_11) := (blk_cell BK129.out 1).trans rfl; have hcz43_2 : w42.cell? ⟨gb129, 2, none⟩ = some (.int .i64 x130002_11) := (blk_cell BK129.out 2).trans rfl; have hfz43_0 := blk_frozen BK129.out 0; have hfz43_1 := blk_frozen BK129.out 1; have hfz43_2 := blk_frozen BK129.out 2))
                        refine bodyPost_ret (results_ct rfl _ _ gb129 24 #[.bool t150, .string t151, .int .i64 t152] (0, 0) _ rfl (by (with_reducible repeat (first | refine blk_drewN ?_ _ | refine blk_drew ?_ | refine blk_alloc ?_ _)); refine blk_put (cs := #[.bool t150, .string t151, .int .i64 x130002_11]) ?_ 2 _ rfl; (with_reducible repeat (first | refine blk_drewN ?_ _ | refine blk_drew ?_ | refine blk_alloc ?_ _)); refine blk_put (cs := #[.bool t150, .string x130001_11, .int .i64 x130002_11]) ?_ 1 _ rfl; (with_reducible repeat (first | refine blk_drewN ?_ _ | refine blk_drew ?_ | refine blk_alloc ?_ _)); refine blk_put (cs := #[.bool x130000_11, .string x130001_11, .int .i64 x130002_11]) ?_ 0 _ rfl; (with_reducible repeat (first | refine blk_drewN ?_ _ | refine blk_drew ?_ | refine blk_alloc ?_ _)); exact BK129.out) Tryd.underlying24 rfl (by kernel_rfl)) rfl ?_
                        exact ⟨by first | rfl | (simp [errW_none, errW_some] <;> rfl) | (simp [*, errW_none, errW_some] <;> first | rfl | exact given_isEmpty _ | exact (given_isEmpty _).symm), by repeat (first | (with_reducible first | exact HB.out | apply below_alloc | apply pw_below_drewN | apply below_drew1 | refine below_set ?_ GE129.out) | exact HB.out)⟩
                      · rw [if_neg c40] at H
                        exact absurd H (by simp)
                    · replace c39 := Bool.eq_false_iff.mpr c39
                      subst c39
                      have H1 : (if t134.size + x7_11.size ≤ 9223372036854775807 then ((dec_Made.f kj32 t131 (t134 ++ x7_11) (wrap64 (t148 - (x7_11.size : Int)))).bind fun bt153 => (some (bt153.1, bt153.2.1, bt153.2.2, 0))) else (none)) = some (r1, r2, r3, r4) := by rw [if_neg (show ¬ (false = true) by decide)] at H; exact H
                      clear H
                      have H := H1
                      clear H1
                      by_cases c44 : t134.size + x7_11.size ≤ 9223372036854775807
                      · rw [if_pos c44] at H
                        have c44b0 := eq_true c44
                        have c44b1 : decide (t134.size + x7_11.size ≤ 9223372036854775807) = true := decide_eq_true c44
                        try have c44b2 : (9223372036854775807 < t134.size + x7_11.size) = False := eq_false (Nat.not_lt.2 c44)
                        replace H := Option.bind_eq_some_iff.mp H
                        obtain ⟨⟨t153, t154, t155⟩, A450, H⟩ := H
                        replace H : (some (t153, t154, t155, 0)) = some (r1, r2, r3, r4) := H
                        have A45 := Aside0.mk A450
                        clear A450
                        simp only [Option.some.injEq, Prod.mk.injEq] at H
                        obtain ⟨rfl, rfl, rfl, rfl⟩ := H
                        go_wp2_with (first | ((with_reducible refine gate_callee (f := 22) rfl ?_); refine goesL_ (some 79) rfl rfl Tryd.func22 (by kernel_rfl) rfl #[.bool t131, .string (t134 ++ x7_11), .int .i64 (wrap64 (t148 - (x7_11.size : Int)))] rfl (by (try simp only [List.map_toArray, List.map_cons, List.map_nil]); first | done | rfl | (simp only [List.length_drop, List.length_take]; rfl) | (have z_ : ∀ s_ : ByteArray, s_.size ≤ 9223372036854775807 → -(s_.size : Int) = wrap64 (-(s_.size : Int)) := (fun s_ h_ => by unfold wrap64; omega); rw [← z_ _ (by omega)]; rfl)) ?_; (with_reducible refine (dec_Made.calls kj32 t131 (t134 ++ x7_11) (wrap64 (t148 - (x7_11.size : Int))) t153 t154 t155 _ A45.out).mono ?_); rintro e w46 ⟨rfl, hb⟩; refine ⟨_, rfl, ?_⟩; have n0_ := bb_ BK129 hb; have n1_ := Aside0.mk (below_step (bl_ HB).out hb); clear BK129; clear HB; have BK129 := n0_; have HB := n1_; clear n0_ n1_; (try clear hb); (try clear hb2); (try clear hk); (try clear hi); have hcz47_0 : w46.cell? ⟨gb129, 0, none⟩ = some (.bool x130000_11) := (blk_cell BK129.out 0).trans rfl; have hcz47_1 : w46.cell? ⟨gb129, 1, none⟩ = some (.string x130001_11) := (blk_cell BK129.out 1).trans rfl; have hcz47_2 : w46.cell? ⟨gb129, 2, none⟩ = some (.int .i64 x130002_11) := (blk_cell BK129.out 2).trans rfl; have hfz47_0 := blk_frozen BK129.out 0; have hfz47_1 := blk_frozen BK129.out 1; have hfz47_2 := blk_frozen BK129.out 2))
                        refine bodyPost_ret (results_ct rfl _ _ gb129 24 #[.bool t153, .string t154, .int .i64 t155] (0, 0) _ rfl (by (with_reducible repeat (first | refine blk_drewN ?_ _ | refine blk_drew ?_ | refine blk_alloc ?_ _)); refine blk_put (cs := #[.bool t153, .string t154, .int .i64 x130002_11]) ?_ 2 _ rfl; (with_reducible repeat (first | refine blk_drewN ?_ _ | refine blk_drew ?_ | refine blk_alloc ?_ _)); refine blk_put (cs := #[.bool t153, .string x130001_11, .int .i64 x130002_11]) ?_ 1 _ rfl; (with_reducible repeat (first | refine blk_drewN ?_ _ | refine blk_drew ?_ | refine blk_alloc ?_ _)); refine blk_put (cs := #[.bool x130000_11, .string x130001_11, .int .i64 x130002_11]) ?_ 0 _ rfl; (with_reducible repeat (first | refine blk_drewN ?_ _ | refine blk_drew ?_ | refine blk_alloc ?_ _)); exact BK129.out) Tryd.underlying24 rfl (by kernel_rfl)) rfl ?_
                        exact ⟨by first | rfl | (simp [errW_none, errW_some] <;> rfl) | (simp [*, errW_none, errW_some] <;> first | rfl | exact given_isEmpty _ | exact (given_isEmpty _).symm), by repeat (first | (with_reducible first | exact HB.out | apply below_alloc | apply pw_below_drewN | apply below_drew1 | refine below_set ?_ GE129.out) | exact HB.out)⟩
                      · rw [if_neg c44] at H
                        exact absurd H (by simp)

/-! ### dec_Dec_Norm: function 19 -/
def dec_Dec_Norm.f (k : Nat) (a0_0 : Bool) (a0_1 : ByteArray) (a0_2 : Int) : Option (Bool × ByteArray × Int) := (dec_Made.f k a0_0 a0_1 a0_2).bind fun bt158 => (some (bt158.1, bt158.2.1, bt158.2.2))
theorem dec_Dec_Norm.mono : ∀ a0 a1 a2 k, LeO (dec_Dec_Norm.f k a0 a1 a2) (dec_Dec_Norm.f (k + 1) a0 a1 a2) := by
  intro a0 a1 a2 k
  unfold dec_Dec_Norm.f
  repeat' first
      | (with_reducible exact dec_Made.mono _ _ _ _)
      | (with_reducible exact LeO.refl _)
      | (with_reducible exact LeO.none _)
      | (with_reducible refine LeO.ite ?_ ?_)
      | (with_reducible refine LeO.bind ?_ (fun _ => ?_))
      | exact dec_Made.mono _ _ _ _
      | exact LeO.none _
      | refine LeO.ite ?_ ?_
      | refine LeO.bind ?_ (fun _ => ?_)
set_option maxHeartbeats 8000000 in
set_option maxRecDepth 100000 in
theorem dec_Dec_Norm.calls (k : Nat) (a0_0 : Bool) (a0_1 : ByteArray) (a0_2 : Int) (r1 : Bool) (r2 : ByteArray) (r3 : Int) (w : World) (h : dec_Dec_Norm.f k a0_0 a0_1 a0_2 = some (r1, r2, r3)) :
    Calls Tryd.prog 19 #[.agg #[.bool a0_0, .string a0_1, .int .i64 a0_2]] w fun e w' => e = .returned (.agg #[.bool r1, .string r2, .int .i64 r3]) ∧ Below w.heap.size w w' := by
  have hu24 := Tryd.underlying24
  have HB := Aside0.mk (Below.refl w.heap.size w)
  have H : ((dec_Made.f k a0_0 a0_1 a0_2).bind fun bt158 => (some (bt158.1, bt158.2.1, bt158.2.2))) = some (r1, r2, r3) := h
  clear h
  replace H := Option.bind_eq_some_iff.mp H
  obtain ⟨⟨t158, t159, t160⟩, A20, H⟩ := H
  replace H : (some (t158, t159, t160)) = some (r1, r2, r3) := H
  have A2 := Aside0.mk A20
  clear A20
  simp only [Option.some.injEq, Prod.mk.injEq] at H
  obtain ⟨rfl, rfl, rfl⟩ := H
  go_enter Tryd.func19, Tryd.ntmps19
  go_wp2_with (first | ((with_reducible refine gate_dst (N := 1) rfl ?_); refine box_event ?hg (N := 1) ?hd (cs := #[.bool a0_0, .string a0_1, .int .i64 a0_2]) (t := 24) ?hr ?_; (case hd => rfl); (case hg => rfl); (case hr => first | (go_simp; done) | (go_simp; rfl)); intro gb156 hg w3 hbox hb; have n0_ := Aside0.mk (below_step (bl_ HB).out hb); have n1_ := Aside0.mk (hbox); have n2_ := Aside0.mk ((by rw [hg]; exact (below_size (bl_ HB).out) : w.heap.size ≤ gb156)); have n3_ := Aside0.mk ((by rw [hg]; exact (below_size (bl_ HB).out) : w.heap.size ≤ gb156)); clear HB; have HB := n0_; have BK156 := n1_; have GW156 := n2_; have GE156 := n3_; clear n0_ n1_ n2_ n3_; clear hb hbox hg) | ((with_reducible refine gate_dst (N := 2) rfl ?_); refine box_event ?hg (N := 2) ?hd (cs := #[.bool false, .string (⟨#[]⟩ : ByteArray), .int .i64 0]) (t := 24) ?hr ?_; (case hd => rfl); (case hg => rfl); (case hr => first | (go_simp; done) | (go_simp; rfl)); intro gb157 hg w4 hbox hb; have n0_ := bb_ BK156 hb; have n1_ := Aside0.mk (below_step (bl_ HB).out hb); have n2_ := Aside0.mk (hbox); have n3_ := Aside0.mk ((by rw [hg]; exact (below_size (bl_ HB).out) : w.heap.size ≤ gb157)); have n4_ := Aside0.mk ((by rw [hg]; exact (below_size (bl_ HB).out) : w.heap.size ≤ gb157)); have n5_ := Aside0.mk ((by rw [hg]; exact Nat.ne_of_lt (blk_lt (g := gb156) (o := .cells #[.bool a0_0, .string a0_1, .int .i64 a0_2] 24 (0, 0)) (by (with_reducible repeat (first | refine blk_drewN ?_ _ | refine blk_drew ?_ | refine blk_alloc ?_ _)); exact BK156.out)) : gb156 ≠ gb157)); have n6_ := Aside0.mk ((by rw [hg]; exact Nat.ne_of_gt (blk_lt (g := gb156) (o := .cells #[.bool a0_0, .string a0_1, .int .i64 a0_2] 24 (0, 0)) (by (with_reducible repeat (first | refine blk_drewN ?_ _ | refine blk_drew ?_ | refine blk_alloc ?_ _)); exact BK156.out)) : gb157 ≠ gb156)); clear BK156; clear HB; have BK156 := n0_; have HB := n1_; have BK157 := n2_; have GW157 := n3_; have GE157 := n4_; have NB156_157 := n5_; have NB157_156 := n6_; clear n0_ n1_ n2_ n3_ n4_ n5_ n6_; clear hb hbox hg; have hnb5 := NB156_157.out; have hnc5 := NB157_156.out; have hcz6_0 : w4.cell? ⟨gb156, 0, none⟩ = some (.bool a0_0) := (blk_cell BK156.out 0).trans rfl; have hcz6_1 : w4.cell? ⟨gb156, 1, none⟩ = some (.string a0_1) := (blk_cell BK156.out 1).trans rfl; have hcz6_2 : w4.cell? ⟨gb156, 2, none⟩ = some (.int .i64 a0_2) := (blk_cell BK156.out 2).trans rfl; have hfz6_0 := blk_frozen BK156.out 0; have hfz6_1 := blk_frozen BK156.out 1; have hfz6_2 := blk_frozen BK156.out 2) | ((with_reducible refine gate_callee (f := 22) rfl ?_); refine goesL_ (some 9) rfl rfl Tryd.func22 (by kernel_rfl) rfl #[.bool a0_0, .string a0_1, .int .i64 a0_2] rfl (by (try simp only [List.map_toArray, List.map_cons, List.map_nil]); first | done | rfl | (simp only [List.length_drop, List.length_take]; rfl) | (have z_ : ∀ s_ : ByteArray, s_.size ≤ 9223372036854775807 → -(s_.size : Int) = wrap64 (-(s_.size : Int)) := (fun s_ h_ => by unfold wrap64; omega); rw [← z_ _ (by omega)]; rfl)) ?_; (with_reducible refine (dec_Made.calls k a0_0 a0_1 a0_2 t158 t159 t160 _ A2.out).mono ?_); rintro e w7 ⟨rfl, hb⟩; refine ⟨_, rfl, ?_⟩; have n0_ := bb_ BK156 hb; have n1_ := bb_ BK157 hb; have n2_ := Aside0.mk (below_step (bl_ HB).out hb); clear BK156; clear BK157; clear HB; have BK156 := n0_; have BK157 := n1_; have HB := n2_; clear n0_ n1_ n2_; (try clear hb); (try clear hb2); (try clear hk); (try clear hi); have hcz8_0 : w7.cell? ⟨gb157, 0, none⟩ = some (.bool false) := (blk_cell BK157.out 0).trans rfl; have hcz8_1 : w7.cell? ⟨gb157, 1, none⟩ = some (.string (⟨#[]⟩ : ByteArray)) := (blk_cell BK157.out 1).trans rfl; have hcz8_2 : w7.cell? ⟨gb157, 2, none⟩ = some (.int .i64 0) := (blk_cell BK157.out 2).trans rfl; have hfz8_0 := blk_frozen BK157.out 0; have hfz8_1 := blk_frozen BK157.out 1; have hfz8_2 := blk_frozen BK157.out 2))
  refine bodyPost_ret (results_cell_row rfl _ _ gb157 24 #[.bool t158, .string t159, .int .i64 t160] (0, 0) _ rfl (by (with_reducible repeat (first | refine blk_drewN ?_ _ | refine blk_drew ?_ | refine blk_alloc ?_ _)); refine blk_put (cs := #[.bool t158, .string t159, .int .i64 0]) ?_ 2 _ rfl; (with_reducible repeat (first | refine blk_drewN ?_ _ | refine blk_drew ?_ | refine blk_alloc ?_ _)); refine blk_put (cs := #[.bool t158, .string (⟨#[]⟩ : ByteArray), .int .i64 0]) ?_ 1 _ rfl; (with_reducible repeat (first | refine blk_drewN ?_ _ | refine blk_drew ?_ | refine blk_alloc ?_ _)); refine blk_put (cs := #[.bool false, .string (⟨#[]⟩ : ByteArray), .int .i64 0]) ?_ 0 _ rfl; (with_reducible repeat (first | refine blk_drewN ?_ _ | refine blk_drew ?_ | refine blk_alloc ?_ _)); exact BK157.out) Tryd.underlying24 rfl (by kernel_rfl)) rfl ?_
  exact ⟨by first | rfl | (simp [errW_none, errW_some] <;> rfl) | (simp [*, errW_none, errW_some] <;> first | rfl | exact given_isEmpty _ | exact (given_isEmpty _).symm), by repeat (first | (with_reducible first | exact HB.out | apply below_alloc | apply pw_below_drewN | apply below_drew1 | refine below_set ?_ GE156.out | refine below_set ?_ GE157.out) | exact HB.out)⟩

/-! ### dec_Dec_Zero: function 24 -/
def dec_Dec_Zero.f (k : Nat) (a0_0 : Bool) (a0_1 : ByteArray) (a0_2 : Int) : Option (Bool) := (num_Trim.f k a0_1).bind fun t162 => (some (t162.toList == ([] : List UInt8)))
theorem dec_Dec_Zero.mono : ∀ a0 a1 a2 k, LeO (dec_Dec_Zero.f k a0 a1 a2) (dec_Dec_Zero.f (k + 1) a0 a1 a2) := by
  intro a0 a1 a2 k
  unfold dec_Dec_Zero.f
  repeat' first
      | (with_reducible exact num_Trim.mono _ _)
      | (with_reducible exact LeO.refl _)
      | (with_reducible exact LeO.none _)
      | (with_reducible refine LeO.ite ?_ ?_)
      | (with_reducible refine LeO.bind ?_ (fun _ => ?_))
      | exact num_Trim.mono _ _
      | exact LeO.none _
      | refine LeO.ite ?_ ?_
      | refine LeO.bind ?_ (fun _ => ?_)
set_option maxHeartbeats 8000000 in
set_option maxRecDepth 100000 in
theorem dec_Dec_Zero.calls (k : Nat) (a0_0 : Bool) (a0_1 : ByteArray) (a0_2 : Int) (r : Bool) (w : World) (h : dec_Dec_Zero.f k a0_0 a0_1 a0_2 = some r) :
    Calls Tryd.prog 24 #[.agg #[.bool a0_0, .string a0_1, .int .i64 a0_2]] w fun e w' => e = .returned (.bool r) ∧ Below w.heap.size w w' := by
  have hu24 := Tryd.underlying24
  have HB := Aside0.mk (Below.refl w.heap.size w)
  have H : ((num_Trim.f k a0_1).bind fun t162 => (some (t162.toList == ([] : List UInt8)))) = some r := h
  clear h
  replace H := Option.bind_eq_some_iff.mp H
  obtain ⟨t162, A20, H⟩ := H
  replace H : (some (t162.toList == ([] : List UInt8))) = some r := H
  have A2 := Aside0.mk A20
  clear A20
  obtain rfl := Option.some.inj H
  go_enter Tryd.func24, Tryd.ntmps24
  go_wp2_with (first | ((with_reducible refine gate_dst (N := 1) rfl ?_); refine box_event ?hg (N := 1) ?hd (cs := #[.bool a0_0, .string a0_1, .int .i64 a0_2]) (t := 24) ?hr ?_; (case hd => rfl); (case hg => rfl); (case hr => first | (go_simp; done) | (go_simp; rfl)); intro gb161 hg w3 hbox hb; have n0_ := Aside0.mk (below_step (bl_ HB).out hb); have n1_ := Aside0.mk (hbox); have n2_ := Aside0.mk ((by rw [hg]; exact (below_size (bl_ HB).out) : w.heap.size ≤ gb161)); have n3_ := Aside0.mk ((by rw [hg]; exact (below_size (bl_ HB).out) : w.heap.size ≤ gb161)); clear HB; have HB := n0_; have BK161 := n1_; have GW161 := n2_; have GE161 := n3_; clear n0_ n1_ n2_ n3_; clear hb hbox hg; have hcz4_0 : w3.cell? ⟨gb161, 0, none⟩ = some (.bool a0_0) := (blk_cell BK161.out 0).trans rfl; have hcz4_1 : w3.cell? ⟨gb161, 1, none⟩ = some (.string a0_1) := (blk_cell BK161.out 1).trans rfl; have hcz4_2 : w3.cell? ⟨gb161, 2, none⟩ = some (.int .i64 a0_2) := (blk_cell BK161.out 2).trans rfl; have hfz4_0 := blk_frozen BK161.out 0; have hfz4_1 := blk_frozen BK161.out 1; have hfz4_2 := blk_frozen BK161.out 2) | ((with_reducible refine gate_callee (f := 21) rfl ?_); refine goesL_ (some 5) rfl rfl Tryd.func21 (by kernel_rfl) rfl #[.string a0_1] rfl (by (try simp only [List.map_toArray, List.map_cons, List.map_nil]); first | done | rfl | (simp only [List.length_drop, List.length_take]; rfl) | (have z_ : ∀ s_ : ByteArray, s_.size ≤ 9223372036854775807 → -(s_.size : Int) = wrap64 (-(s_.size : Int)) := (fun s_ h_ => by unfold wrap64; omega); rw [← z_ _ (by omega)]; rfl)) ?_; (with_reducible refine (num_Trim.calls k a0_1 t162 _ A2.out).mono ?_); rintro e w' ⟨rfl, ⟨nd, rfl⟩⟩; refine ⟨_, rfl, ?_⟩))
  go_ret
  exact ⟨by first | rfl | (simp [errW_none, errW_some] <;> rfl) | (simp [*, errW_none, errW_some] <;> first | rfl | exact given_isEmpty _ | exact (given_isEmpty _).symm), by repeat (first | (with_reducible first | exact HB.out | apply below_alloc | apply pw_below_drewN | apply below_drew1 | refine below_set ?_ GE161.out) | exact HB.out)⟩

/-! ### dec_Dec_sign: function 44 -/
def dec_Dec_sign.f (a0_0 : Bool) (a0_1 : ByteArray) (a0_2 : Int) : Option (ByteArray) := if a0_0 = true then (some (⟨#[45]⟩ : ByteArray)) else (some (⟨#[]⟩ : ByteArray))
set_option maxHeartbeats 8000000 in
set_option maxRecDepth 100000 in
theorem dec_Dec_sign.calls (a0_0 : Bool) (a0_1 : ByteArray) (a0_2 : Int) (r : ByteArray) (w : World) (h : dec_Dec_sign.f a0_0 a0_1 a0_2 = some r) :
    Calls Tryd.prog 44 #[.agg #[.bool a0_0, .string a0_1, .int .i64 a0_2]] w fun e w' => e = .returned (.string r) ∧ Below w.heap.size w w' := by
  have hu24 := Tryd.underlying24
  have HB := Aside0.mk (Below.refl w.heap.size w)
  have H : (if a0_0 = true then (some (⟨#[45]⟩ : ByteArray)) else (some (⟨#[]⟩ : ByteArray))) = some r := h
  clear h
  by_cases c2 : a0_0 = true
  · subst c2
    have H1 : (some (⟨#[45]⟩ : ByteArray)) = some r := by rw [if_pos rfl] at H; exact H
    clear H
    have H := H1
    clear H1
    obtain rfl := Option.some.inj H
    go_enter Tryd.func44, Tryd.ntmps44
    go_wp2_with (first | ((with_reducible refine gate_dst (N := 1) rfl ?_); refine box_event ?hg (N := 1) ?hd (cs := #[.bool true, .string a0_1, .int .i64 a0_2]) (t := 24) ?hr ?_; (case hd => rfl); (case hg => rfl); (case hr => first | (go_simp; done) | (go_simp; rfl)); intro gb163 hg w3 hbox hb; have n0_ := Aside0.mk (below_step (bl_ HB).out hb); have n1_ := Aside0.mk (hbox); have n2_ := Aside0.mk ((by rw [hg]; exact (below_size (bl_ HB).out) : w.heap.size ≤ gb163)); have n3_ := Aside0.mk ((by rw [hg]; exact (below_size (bl_ HB).out) : w.heap.size ≤ gb163)); clear HB; have HB := n0_; have BK163 := n1_; have GW163 := n2_; have GE163 := n3_; clear n0_ n1_ n2_ n3_; clear hb hbox hg; have hcz4_0 : w3.cell? ⟨gb163, 0, none⟩ = some (.bool true) := (blk_cell BK163.out 0).trans rfl; have hcz4_1 : w3.cell? ⟨gb163, 1, none⟩ = some (.string a0_1) := (blk_cell BK163.out 1).trans rfl; have hcz4_2 : w3.cell? ⟨gb163, 2, none⟩ = some (.int .i64 a0_2) := (blk_cell BK163.out 2).trans rfl; have hfz4_0 := blk_frozen BK163.out 0; have hfz4_1 := blk_frozen BK163.out 1; have hfz4_2 := blk_frozen BK163.out 2))
    go_ret
    exact ⟨by first | rfl | (simp [errW_none, errW_some] <;> rfl) | (simp [*, errW_none, errW_some] <;> first | rfl | exact given_isEmpty _ | exact (given_isEmpty _).symm), by repeat (first | (with_reducible first | exact HB.out | apply below_alloc | apply pw_below_drewN | apply below_drew1 | refine below_set ?_ GE163.out) | exact HB.out)⟩
  · replace c2 := Bool.eq_false_iff.mpr c2
    subst c2
    have H1 : (some (⟨#[]⟩ : ByteArray)) = some r := by rw [if_neg (show ¬ (false = true) by decide)] at H; exact H
    clear H
    have H := H1
    clear H1
    obtain rfl := Option.some.inj H
    go_enter Tryd.func44, Tryd.ntmps44
    go_wp2_with (first | ((with_reducible refine gate_dst (N := 1) rfl ?_); refine box_event ?hg (N := 1) ?hd (cs := #[.bool false, .string a0_1, .int .i64 a0_2]) (t := 24) ?hr ?_; (case hd => rfl); (case hg => rfl); (case hr => first | (go_simp; done) | (go_simp; rfl)); intro gb163 hg w5 hbox hb; have n0_ := Aside0.mk (below_step (bl_ HB).out hb); have n1_ := Aside0.mk (hbox); have n2_ := Aside0.mk ((by rw [hg]; exact (below_size (bl_ HB).out) : w.heap.size ≤ gb163)); have n3_ := Aside0.mk ((by rw [hg]; exact (below_size (bl_ HB).out) : w.heap.size ≤ gb163)); clear HB; have HB := n0_; have BK163 := n1_; have GW163 := n2_; have GE163 := n3_; clear n0_ n1_ n2_ n3_; clear hb hbox hg; have hcz6_0 : w5.cell? ⟨gb163, 0, none⟩ = some (.bool false) := (blk_cell BK163.out 0).trans rfl; have hcz6_1 : w5.cell? ⟨gb163, 1, none⟩ = some (.string a0_1) := (blk_cell BK163.out 1).trans rfl; have hcz6_2 : w5.cell? ⟨gb163, 2, none⟩ = some (.int .i64 a0_2) := (blk_cell BK163.out 2).trans rfl; have hfz6_0 := blk_frozen BK163.out 0; have hfz6_1 := blk_frozen BK163.out 1; have hfz6_2 := blk_frozen BK163.out 2))
    go_ret
    exact ⟨by first | rfl | (simp [errW_none, errW_some] <;> rfl) | (simp [*, errW_none, errW_some] <;> first | rfl | exact given_isEmpty _ | exact (given_isEmpty _).symm), by repeat (first | (with_reducible first | exact HB.out | apply below_alloc | apply pw_below_drewN | apply below_drew1 | refine below_set ?_ GE163.out) | exact HB.out)⟩

/-! ### strconv_Itoa: function 45 -/
def strconv_Itoa.f (n : Int) : Option ByteArray := if -9223372036854775808 ≤ n ∧ n ≤ 9223372036854775807 then some ⟨(Lib.itoa n).toArray⟩ else none
theorem strconv_Itoa.calls (a0 : Int) (r : ByteArray) (w : World) (h : strconv_Itoa.f a0 = some r) (ht : Lib.TabIs Tryd.prog w "internal/strconv.uint64pow10" .u64 Lib.pow10Tab := by first | assumption | exact tb_ (by assumption) (bl_ (by assumption)).out) :
    Calls Tryd.prog 45 #[.int .i64 a0] w fun e w' => e = .returned (.string r) ∧ Below w.heap.size w w' := by
  unfold strconv_Itoa.f at h
  split at h
  · rename_i hc
    obtain rfl := Option.some.inj h
    refine (Tryd.strconv_Itoa a0 hc.1 hc.2 w ht).mono ?_
    rintro e w' ⟨rfl, k, os, rfl⟩
    exact ⟨rfl, Lib.below_grow w.heap.size w (Nat.le_refl _) k os⟩
  · cases h

end Go.Proofs.YtlkiaeipbekpkaaDoor.P
