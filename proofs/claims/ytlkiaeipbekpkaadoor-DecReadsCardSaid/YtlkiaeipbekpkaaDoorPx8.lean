-- written by a program of this session (wip/p2)
import Derived.Test.YtlkiaeipbekpkaaDoorPx0
import Derived.Test.YtlkiaeipbekpkaaDoorPx1
import Derived.Test.YtlkiaeipbekpkaaDoorPx3
import Derived.Test.YtlkiaeipbekpkaaDoorPx4
import Derived.Test.YtlkiaeipbekpkaaDoorPx6
import Derived.Test.YtlkiaeipbekpkaaDoorPx7
namespace Go.Proofs.YtlkiaeipbekpkaaDoor.P
open Go.RowKit Go.Proofs.YtlkiaeipbekpkaaDoorW.PrintWords Go.Proofs.YtlkiaeipbekpkaaDoorW.PrintLast Go.Proofs.YtlkiaeipbekpkaaDoorW.PrintMore
attribute [local go_sem] max2_int min2_int max_two min_two max_three min_three max_four min_four   -- for this text's walks alone
set_option linter.unusedVariables false
set_option linter.unusedSimpArgs false

attribute [local go_sem high] eqA24
/-! ### florinlaw02_DecReads: function 3 -/
mutual
def florinlaw02_DecReads.j0 : Nat → Bool → Bool → ByteArray → Int → Option (Bool)
  | 0, _, _, _, _ => none
  | k + 1, x40, x209000, x209001, x209002 => if x40 = true then (some false) else ((dec_Dec_String.f k x209000 x209001 x209002).bind fun t211 => ((dec_Parse.f k t211).bind fun bt212 => (if x209002 > 9000 then (florinlaw02_DecReads.j1 k bt212.2.2.2 true x209000 x209001 x209002 bt212.1 bt212.2.1 bt212.2.2.1) else (florinlaw02_DecReads.j1 k bt212.2.2.2 (decide (x209002 < (-9000))) x209000 x209001 x209002 bt212.1 bt212.2.1 bt212.2.2.1))))
def florinlaw02_DecReads.j1 : Nat → Int → Bool → Bool → ByteArray → Int → Bool → ByteArray → Int → Option (Bool)
  | 0, _, _, _, _, _, _, _, _ => none
  | k + 1, x6, x54, x209000, x209001, x209002, x217000, x217001, x217002 => if x54 = true then (some true) else (if x6 = 0 then (if (!(x217000 == x209000) || (!(x217001.toList == x209001.toList) || (!(x217002 == x209002)))) = true then (florinlaw02_DecReads.j2 k true x209000 x209001 x209002) else ((dec_Dec_Plain.f k x209000 x209001 x209002).bind fun t217 => ((florinlaw02_form.f k t217).bind fun t218 => (florinlaw02_DecReads.j2 k (!t218) x209000 x209001 x209002)))) else (florinlaw02_DecReads.j2 k true x209000 x209001 x209002))
def florinlaw02_DecReads.j2 : Nat → Bool → Bool → ByteArray → Int → Option (Bool)
  | 0, _, _, _, _ => none
  | k + 1, x67, x209000, x209001, x209002 => if x67 = true then (some false) else ((dec_Dec_Plain.f k x209000 x209001 x209002).bind fun t219 => (if (t219.size : Int) > 900 then (some true) else ((dec_Dec_Plain.f k x209000 x209001 x209002).bind fun t220 => ((dec_Parse.f k t220).bind fun bt221 => (if bt221.2.2.2 = 0 then (some (bt221.1 == x209000 && (bt221.2.1.toList == x209001.toList && (bt221.2.2.1 == x209002)))) else (some false))))))
end
def florinlaw02_DecReads.f (k : Nat) (a0 : ByteArray) : Option (Bool) := (florinlaw02_head.f k).bind fun t203 => (if t203 = true then (if (a0.size : Int) > 200 then (some true) else ((dec_Parse.f k a0).bind fun bt204 => ((florinlaw02_form.f k a0).bind fun t209 => (if t209 = true then (if bt204.2.2.2 = 2 then (some (!bt204.1 && (bt204.2.1.toList == ([] : List UInt8) && (bt204.2.2.1 == 0)))) else (if bt204.2.2.2 = 0 then ((florinlaw02_normal.f k bt204.1 bt204.2.1 bt204.2.2.1).bind fun t210 => (florinlaw02_DecReads.j0 k (!t210) bt204.1 bt204.2.1 bt204.2.2.1)) else (florinlaw02_DecReads.j0 k true bt204.1 bt204.2.1 bt204.2.2.1))) else (if bt204.2.2.2 = 1 then (some (!bt204.1 && (bt204.2.1.toList == ([] : List UInt8) && (bt204.2.2.1 == 0)))) else (some false)))))) else (some false))
theorem florinlaw02_DecReads.mono_l : ∀ k, (∀ y0 y1 y2 y3, LeO (florinlaw02_DecReads.j0 k y0 y1 y2 y3) (florinlaw02_DecReads.j0 (k + 1) y0 y1 y2 y3)) ∧ (∀ y0 y1 y2 y3 y4 y5 y6 y7, LeO (florinlaw02_DecReads.j1 k y0 y1 y2 y3 y4 y5 y6 y7) (florinlaw02_DecReads.j1 (k + 1) y0 y1 y2 y3 y4 y5 y6 y7)) ∧ (∀ y0 y1 y2 y3, LeO (florinlaw02_DecReads.j2 k y0 y1 y2 y3) (florinlaw02_DecReads.j2 (k + 1) y0 y1 y2 y3))
  | 0 => ⟨fun _ _ _ _ r h => by simp [florinlaw02_DecReads.j0] at h, fun _ _ _ _ _ _ _ _ r h => by simp [florinlaw02_DecReads.j1] at h, fun _ _ _ _ r h => by simp [florinlaw02_DecReads.j2] at h⟩
  | k + 1 => by
    obtain ⟨ih0, ih1, ih2⟩ := florinlaw02_DecReads.mono_l k
    refine ⟨?_, ?_, ?_⟩
    · intro y0 y1 y2 y3
      unfold florinlaw02_DecReads.j0
      repeat' first
      | (with_reducible exact ih0 _ _ _ _)
      | (with_reducible exact ih1 _ _ _ _ _ _ _ _)
      | (with_reducible exact ih2 _ _ _ _)
      | (with_reducible exact dec_Dec_Plain.mono _ _ _ _)
      | (with_reducible exact dec_Dec_String.mono _ _ _ _)
      | (with_reducible exact dec_Parse.mono _ _)
      | (with_reducible exact florinlaw02_form.mono _ _)
      | (with_reducible exact florinlaw02_head.mono _)
      | (with_reducible exact florinlaw02_normal.mono _ _ _ _)
      | (with_reducible exact LeO.refl _)
      | (with_reducible exact LeO.none _)
      | (with_reducible refine LeO.ite ?_ ?_)
      | (with_reducible refine LeO.bind ?_ (fun _ => ?_))
      | exact ih0 _ _ _ _
      | exact ih1 _ _ _ _ _ _ _ _
      | exact ih2 _ _ _ _
      | exact dec_Dec_Plain.mono _ _ _ _
      | exact dec_Dec_String.mono _ _ _ _
      | exact dec_Parse.mono _ _
      | exact florinlaw02_form.mono _ _
      | exact florinlaw02_head.mono _
      | exact florinlaw02_normal.mono _ _ _ _
      | exact LeO.none _
      | refine LeO.ite ?_ ?_
      | refine LeO.bind ?_ (fun _ => ?_)
    · intro y0 y1 y2 y3 y4 y5 y6 y7
      unfold florinlaw02_DecReads.j1
      repeat' first
      | (with_reducible exact ih0 _ _ _ _)
      | (with_reducible exact ih1 _ _ _ _ _ _ _ _)
      | (with_reducible exact ih2 _ _ _ _)
      | (with_reducible exact dec_Dec_Plain.mono _ _ _ _)
      | (with_reducible exact dec_Dec_String.mono _ _ _ _)
      | (with_reducible exact dec_Parse.mono _ _)
      | (with_reducible exact florinlaw02_form.mono _ _)
      | (with_reducible exact florinlaw02_head.mono _)
      | (with_reducible exact florinlaw02_normal.mono _ _ _ _)
      | (with_reducible exact LeO.refl _)
      | (with_reducible exact LeO.none _)
      | (with_reducible refine LeO.ite ?_ ?_)
      | (with_reducible refine LeO.bind ?_ (fun _ => ?_))
      | exact ih0 _ _ _ _
      | exact ih1 _ _ _ _ _ _ _ _
      | exact ih2 _ _ _ _
      | exact dec_Dec_Plain.mono _ _ _ _
      | exact dec_Dec_String.mono _ _ _ _
      | exact dec_Parse.mono _ _
      | exact florinlaw02_form.mono _ _
      | exact florinlaw02_head.mono _
      | exact florinlaw02_normal.mono _ _ _ _
      | exact LeO.none _
      | refine LeO.ite ?_ ?_
      | refine LeO.bind ?_ (fun _ => ?_)
    · intro y0 y1 y2 y3
      unfold florinlaw02_DecReads.j2
      repeat' first
      | (with_reducible exact ih0 _ _ _ _)
      | (with_reducible exact ih1 _ _ _ _ _ _ _ _)
      | (with_reducible exact ih2 _ _ _ _)
      | (with_reducible exact dec_Dec_Plain.mono _ _ _ _)
      | (with_reducible exact dec_Dec_String.mono _ _ _ _)
      | (with_reducible exact dec_Parse.mono _ _)
      | (with_reducible exact florinlaw02_form.mono _ _)
      | (with_reducible exact florinlaw02_head.mono _)
      | (with_reducible exact florinlaw02_normal.mono _ _ _ _)
      | (with_reducible exact LeO.refl _)
      | (with_reducible exact LeO.none _)
      | (with_reducible refine LeO.ite ?_ ?_)
      | (with_reducible refine LeO.bind ?_ (fun _ => ?_))
      | exact ih0 _ _ _ _
      | exact ih1 _ _ _ _ _ _ _ _
      | exact ih2 _ _ _ _
      | exact dec_Dec_Plain.mono _ _ _ _
      | exact dec_Dec_String.mono _ _ _ _
      | exact dec_Parse.mono _ _
      | exact florinlaw02_form.mono _ _
      | exact florinlaw02_head.mono _
      | exact florinlaw02_normal.mono _ _ _ _
      | exact LeO.none _
      | refine LeO.ite ?_ ?_
      | refine LeO.bind ?_ (fun _ => ?_)
theorem florinlaw02_DecReads.mono : ∀ a0 k, LeO (florinlaw02_DecReads.f k a0) (florinlaw02_DecReads.f (k + 1) a0) := by
  intro a0 k
  obtain ⟨ih0, ih1, ih2⟩ := florinlaw02_DecReads.mono_l k
  unfold florinlaw02_DecReads.f
  repeat' first
      | (with_reducible exact ih0 _ _ _ _)
      | (with_reducible exact ih1 _ _ _ _ _ _ _ _)
      | (with_reducible exact ih2 _ _ _ _)
      | (with_reducible exact dec_Dec_Plain.mono _ _ _ _)
      | (with_reducible exact dec_Dec_String.mono _ _ _ _)
      | (with_reducible exact dec_Parse.mono _ _)
      | (with_reducible exact florinlaw02_form.mono _ _)
      | (with_reducible exact florinlaw02_head.mono _)
      | (with_reducible exact florinlaw02_normal.mono _ _ _ _)
      | (with_reducible exact LeO.refl _)
      | (with_reducible exact LeO.none _)
      | (with_reducible refine LeO.ite ?_ ?_)
      | (with_reducible refine LeO.bind ?_ (fun _ => ?_))
      | exact ih0 _ _ _ _
      | exact ih1 _ _ _ _ _ _ _ _
      | exact ih2 _ _ _ _
      | exact dec_Dec_Plain.mono _ _ _ _
      | exact dec_Dec_String.mono _ _ _ _
      | exact dec_Parse.mono _ _
      | exact florinlaw02_form.mono _ _
      | exact florinlaw02_head.mono _
      | exact florinlaw02_normal.mono _ _ _ _
      | exact LeO.none _
      | refine LeO.ite ?_ ?_
      | refine LeO.bind ?_ (fun _ => ?_)
set_option maxHeartbeats 8000000 in
set_option maxRecDepth 100000 in
theorem florinlaw02_DecReads.calls (k : Nat) (a0 : ByteArray) (r : Bool) (w : World) (h : florinlaw02_DecReads.f k a0 = some r) (ht : Lib.TabIs Tryd.prog w "internal/strconv.uint64pow10" .u64 Lib.pow10Tab := by first | assumption | exact tb_ (by assumption) (bl_ (by assumption)).out) :
    Calls Tryd.prog 3 #[.string a0] w fun e w' => e = .returned (.bool r) ∧ Below w.heap.size w w' := by
  have hu24 := Tryd.underlying24
  have HB := Aside0.mk (Below.refl w.heap.size w)
  have H : ((florinlaw02_head.f k).bind fun t203 => (if t203 = true then (if (a0.size : Int) > 200 then (some true) else ((dec_Parse.f k a0).bind fun bt204 => ((florinlaw02_form.f k a0).bind fun t209 => (if t209 = true then (if bt204.2.2.2 = 2 then (some (!bt204.1 && (bt204.2.1.toList == ([] : List UInt8) && (bt204.2.2.1 == 0)))) else (if bt204.2.2.2 = 0 then ((florinlaw02_normal.f k bt204.1 bt204.2.1 bt204.2.2.1).bind fun t210 => (florinlaw02_DecReads.j0 k (!t210) bt204.1 bt204.2.1 bt204.2.2.1)) else (florinlaw02_DecReads.j0 k true bt204.1 bt204.2.1 bt204.2.2.1))) else (if bt204.2.2.2 = 1 then (some (!bt204.1 && (bt204.2.1.toList == ([] : List UInt8) && (bt204.2.2.1 == 0)))) else (some false)))))) else (some false))) = some r := h
  clear h
  replace H := Option.bind_eq_some_iff.mp H
  obtain ⟨t203, A20, H⟩ := H
  replace H : (if t203 = true then (if (a0.size : Int) > 200 then (some true) else ((dec_Parse.f k a0).bind fun bt204 => ((florinlaw02_form.f k a0).bind fun t209 => (if t209 = true then (if bt204.2.2.2 = 2 then (some (!bt204.1 && (bt204.2.1.toList == ([] : List UInt8) && (bt204.2.2.1 == 0)))) else (if bt204.2.2.2 = 0 then ((florinlaw02_normal.f k bt204.1 bt204.2.1 bt204.2.2.1).bind fun t210 => (florinlaw02_DecReads.j0 k (!t210) bt204.1 bt204.2.1 bt204.2.2.1)) else (florinlaw02_DecReads.j0 k true bt204.1 bt204.2.1 bt204.2.2.1))) else (if bt204.2.2.2 = 1 then (some (!bt204.1 && (bt204.2.1.toList == ([] : List UInt8) && (bt204.2.2.1 == 0)))) else (some false)))))) else (some false)) = some r := H
  have A2 := Aside0.mk A20
  clear A20
  by_cases c3 : t203 = true
  · subst c3
    have H1 : (if (a0.size : Int) > 200 then (some true) else ((dec_Parse.f k a0).bind fun bt204 => ((florinlaw02_form.f k a0).bind fun t209 => (if t209 = true then (if bt204.2.2.2 = 2 then (some (!bt204.1 && (bt204.2.1.toList == ([] : List UInt8) && (bt204.2.2.1 == 0)))) else (if bt204.2.2.2 = 0 then ((florinlaw02_normal.f k bt204.1 bt204.2.1 bt204.2.2.1).bind fun t210 => (florinlaw02_DecReads.j0 k (!t210) bt204.1 bt204.2.1 bt204.2.2.1)) else (florinlaw02_DecReads.j0 k true bt204.1 bt204.2.1 bt204.2.2.1))) else (if bt204.2.2.2 = 1 then (some (!bt204.1 && (bt204.2.1.toList == ([] : List UInt8) && (bt204.2.2.1 == 0)))) else (some false)))))) = some r := by rw [if_pos rfl] at H; exact H
    clear H
    have H := H1
    clear H1
    by_cases c4 : (a0.size : Int) > 200
    · rw [if_pos c4] at H
      have c4b0 : decide (200 < (a0.size : Int)) = true := decide_eq_true c4
      have c4b1 : decide (200 < a0.size) = true := decide_eq_true (by omega)
      clear c4
      obtain rfl := Option.some.inj H
      go_enter Tryd.func3, Tryd.ntmps3
      go_wp2_with (first | ((with_reducible refine gate_callee (f := 11) rfl ?_); refine goesL_ (some 9) rfl rfl Tryd.func11 (by kernel_rfl) rfl #[] rfl (by (try simp only [List.map_toArray, List.map_cons, List.map_nil]); first | done | rfl | (simp only [List.length_drop, List.length_take]; rfl) | (have z_ : ∀ s_ : ByteArray, s_.size ≤ 9223372036854775807 → -(s_.size : Int) = wrap64 (-(s_.size : Int)) := (fun s_ h_ => by unfold wrap64; omega); rw [← z_ _ (by omega)]; rfl)) ?_; (with_reducible refine (florinlaw02_head.calls k  true _ A2.out).mono ?_); rintro e w5 ⟨rfl, hb⟩; refine ⟨_, rfl, ?_⟩; have n0_ := Aside0.mk (below_step (bl_ HB).out hb); clear HB; have HB := n0_; clear n0_; (try clear hb); (try clear hb2); (try clear hk); (try clear hi)))
      go_ret
      exact ⟨by first | rfl | (simp [errW_none, errW_some] <;> rfl) | (simp [*, errW_none, errW_some] <;> first | rfl | exact given_isEmpty _ | exact (given_isEmpty _).symm), by repeat (first | (with_reducible first | exact HB.out | apply below_alloc | apply pw_below_drewN | apply below_drew1) | exact HB.out)⟩
    · rw [if_neg c4] at H
      have c4b0 : decide (200 < (a0.size : Int)) = false := decide_eq_false c4
      have c4b1 : decide (200 < a0.size) = false := decide_eq_false (by omega)
      clear c4
      replace H := Option.bind_eq_some_iff.mp H
      obtain ⟨⟨t204, t205, t206, t207⟩, A60, H⟩ := H
      replace H : ((florinlaw02_form.f k a0).bind fun t209 => (if t209 = true then (if t207 = 2 then (some (!t204 && (t205.toList == ([] : List UInt8) && (t206 == 0)))) else (if t207 = 0 then ((florinlaw02_normal.f k t204 t205 t206).bind fun t210 => (florinlaw02_DecReads.j0 k (!t210) t204 t205 t206)) else (florinlaw02_DecReads.j0 k true t204 t205 t206))) else (if t207 = 1 then (some (!t204 && (t205.toList == ([] : List UInt8) && (t206 == 0)))) else (some false)))) = some r := H
      have A6 := Aside0.mk A60
      clear A60
      replace H := Option.bind_eq_some_iff.mp H
      obtain ⟨t209, A70, H⟩ := H
      replace H : (if t209 = true then (if t207 = 2 then (some (!t204 && (t205.toList == ([] : List UInt8) && (t206 == 0)))) else (if t207 = 0 then ((florinlaw02_normal.f k t204 t205 t206).bind fun t210 => (florinlaw02_DecReads.j0 k (!t210) t204 t205 t206)) else (florinlaw02_DecReads.j0 k true t204 t205 t206))) else (if t207 = 1 then (some (!t204 && (t205.toList == ([] : List UInt8) && (t206 == 0)))) else (some false))) = some r := H
      have A7 := Aside0.mk A70
      clear A70
      by_cases c8 : t209 = true
      · subst c8
        have H1 : (if t207 = 2 then (some (!t204 && (t205.toList == ([] : List UInt8) && (t206 == 0)))) else (if t207 = 0 then ((florinlaw02_normal.f k t204 t205 t206).bind fun t210 => (florinlaw02_DecReads.j0 k (!t210) t204 t205 t206)) else (florinlaw02_DecReads.j0 k true t204 t205 t206))) = some r := by rw [if_pos rfl] at H; exact H
        clear H
        have H := H1
        clear H1
        by_cases c9 : t207 = 2
        · rw [if_pos c9] at H
          have c9b0 : (t207 == 2) = true := beq_iff_eq.mpr c9
          have c9b1 : (t207 != 2) = false := bne_eq_false_iff_eq.mpr c9
          clear c9
          obtain rfl := Option.some.inj H
          go_enter Tryd.func3, Tryd.ntmps3
          go_wp2_with (first | ((with_reducible refine gate_callee (f := 11) rfl ?_); refine goesL_ (some 9) rfl rfl Tryd.func11 (by kernel_rfl) rfl #[] rfl (by (try simp only [List.map_toArray, List.map_cons, List.map_nil]); first | done | rfl | (simp only [List.length_drop, List.length_take]; rfl) | (have z_ : ∀ s_ : ByteArray, s_.size ≤ 9223372036854775807 → -(s_.size : Int) = wrap64 (-(s_.size : Int)) := (fun s_ h_ => by unfold wrap64; omega); rw [← z_ _ (by omega)]; rfl)) ?_; (with_reducible refine (florinlaw02_head.calls k  true _ A2.out).mono ?_); rintro e w10 ⟨rfl, hb⟩; refine ⟨_, rfl, ?_⟩; have n0_ := Aside0.mk (below_step (bl_ HB).out hb); clear HB; have HB := n0_; clear n0_; (try clear hb); (try clear hb2); (try clear hk); (try clear hi)) | ((with_reducible refine gate_callee (f := 12) rfl ?_); refine goesL_ (some 16) rfl rfl Tryd.func12 (by kernel_rfl) rfl #[.string a0] rfl (by (try simp only [List.map_toArray, List.map_cons, List.map_nil]); first | done | rfl | (simp only [List.length_drop, List.length_take]; rfl) | (have z_ : ∀ s_ : ByteArray, s_.size ≤ 9223372036854775807 → -(s_.size : Int) = wrap64 (-(s_.size : Int)) := (fun s_ h_ => by unfold wrap64; omega); rw [← z_ _ (by omega)]; rfl)) ?_; (with_reducible refine (dec_Parse.calls k a0 t204 t205 t206 t207 _ A6.out).mono ?_); rintro e w11 ⟨rfl, hb⟩; refine ⟨_, rfl, ?_⟩; have n0_ := Aside0.mk (below_step (bl_ HB).out hb); clear HB; have HB := n0_; clear n0_; (try clear hb); (try clear hb2); (try clear hk); (try clear hi)) | ((with_reducible refine gate_dst (N := 3) rfl ?_); refine box_event ?hg (N := 3) ?hd (cs := #[.bool false, .string (⟨#[]⟩ : ByteArray), .int .i64 0]) (t := 24) ?hr ?_; (case hd => rfl); (case hg => rfl); (case hr => first | (go_simp; done) | (go_simp; rfl)); intro gb208 hg w12 hbox hb; have n0_ := Aside0.mk (below_step (bl_ HB).out hb); have n1_ := Aside0.mk (hbox); have n2_ := Aside0.mk ((by rw [hg]; exact (below_size (bl_ HB).out) : w.heap.size ≤ gb208)); have n3_ := Aside0.mk ((by rw [hg]; exact (below_size (bl_ HB).out) : w.heap.size ≤ gb208)); clear HB; have HB := n0_; have BK208 := n1_; have GW208 := n2_; have GE208 := n3_; clear n0_ n1_ n2_ n3_; clear hb hbox hg; have hcz13_0 : w12.cell? ⟨gb208, 0, none⟩ = some (.bool false) := (blk_cell BK208.out 0).trans rfl; have hcz13_1 : w12.cell? ⟨gb208, 1, none⟩ = some (.string (⟨#[]⟩ : ByteArray)) := (blk_cell BK208.out 1).trans rfl; have hcz13_2 : w12.cell? ⟨gb208, 2, none⟩ = some (.int .i64 0) := (blk_cell BK208.out 2).trans rfl; have hfz13_0 := blk_frozen BK208.out 0; have hfz13_1 := blk_frozen BK208.out 1; have hfz13_2 := blk_frozen BK208.out 2) | ((with_reducible refine gate_callee (f := 13) rfl ?_); refine goesL_ (some 20) rfl rfl Tryd.func13 (by kernel_rfl) rfl #[.string a0] rfl (by (try simp only [List.map_toArray, List.map_cons, List.map_nil]); first | done | rfl | (simp only [List.length_drop, List.length_take]; rfl) | (have z_ : ∀ s_ : ByteArray, s_.size ≤ 9223372036854775807 → -(s_.size : Int) = wrap64 (-(s_.size : Int)) := (fun s_ h_ => by unfold wrap64; omega); rw [← z_ _ (by omega)]; rfl)) ?_; (with_reducible refine (florinlaw02_form.calls k a0 true _ A7.out).mono ?_); rintro e w' ⟨rfl, ⟨nd, rfl⟩⟩; refine ⟨_, rfl, ?_⟩))
          go_ret
          exact ⟨by first | rfl | (simp [errW_none, errW_some] <;> rfl) | (simp [*, errW_none, errW_some] <;> first | rfl | exact given_isEmpty _ | exact (given_isEmpty _).symm), by repeat (first | (with_reducible first | exact HB.out | apply below_alloc | apply pw_below_drewN | apply below_drew1 | refine below_set ?_ GE208.out) | exact HB.out)⟩
        · rw [if_neg c9] at H
          have c9b0 : (t207 == 2) = false := beq_eq_false_iff_ne.mpr c9
          have c9b1 : (t207 != 2) = true := bne_iff_ne.mpr c9
          have HC14 := Aside0.mk H
          clear H
          go_enter Tryd.func3, Tryd.ntmps3
          go_upto_region 10 with (first | ((with_reducible refine gate_callee (f := 11) rfl ?_); refine goesL_ (some 9) rfl rfl Tryd.func11 (by kernel_rfl) rfl #[] rfl (by (try simp only [List.map_toArray, List.map_cons, List.map_nil]); first | done | rfl | (simp only [List.length_drop, List.length_take]; rfl) | (have z_ : ∀ s_ : ByteArray, s_.size ≤ 9223372036854775807 → -(s_.size : Int) = wrap64 (-(s_.size : Int)) := (fun s_ h_ => by unfold wrap64; omega); rw [← z_ _ (by omega)]; rfl)) ?_; (with_reducible refine (florinlaw02_head.calls k  true _ A2.out).mono ?_); rintro e w15 ⟨rfl, hb⟩; refine ⟨_, rfl, ?_⟩; have n0_ := Aside0.mk (below_step (bl_ HB).out hb); clear HB; have HB := n0_; clear n0_; (try clear hb); (try clear hb2); (try clear hk); (try clear hi)) | ((with_reducible refine gate_callee (f := 12) rfl ?_); refine goesL_ (some 16) rfl rfl Tryd.func12 (by kernel_rfl) rfl #[.string a0] rfl (by (try simp only [List.map_toArray, List.map_cons, List.map_nil]); first | done | rfl | (simp only [List.length_drop, List.length_take]; rfl) | (have z_ : ∀ s_ : ByteArray, s_.size ≤ 9223372036854775807 → -(s_.size : Int) = wrap64 (-(s_.size : Int)) := (fun s_ h_ => by unfold wrap64; omega); rw [← z_ _ (by omega)]; rfl)) ?_; (with_reducible refine (dec_Parse.calls k a0 t204 t205 t206 t207 _ A6.out).mono ?_); rintro e w16 ⟨rfl, hb⟩; refine ⟨_, rfl, ?_⟩; have n0_ := Aside0.mk (below_step (bl_ HB).out hb); clear HB; have HB := n0_; clear n0_; (try clear hb); (try clear hb2); (try clear hk); (try clear hi)) | ((with_reducible refine gate_dst (N := 3) rfl ?_); refine box_event ?hg (N := 3) ?hd (cs := #[.bool false, .string (⟨#[]⟩ : ByteArray), .int .i64 0]) (t := 24) ?hr ?_; (case hd => rfl); (case hg => rfl); (case hr => first | (go_simp; done) | (go_simp; rfl)); intro gb208 hg w17 hbox hb; have n0_ := Aside0.mk (below_step (bl_ HB).out hb); have n1_ := Aside0.mk (hbox); have n2_ := Aside0.mk ((by rw [hg]; exact (below_size (bl_ HB).out) : w.heap.size ≤ gb208)); have n3_ := Aside0.mk ((by rw [hg]; exact (below_size (bl_ HB).out) : w.heap.size ≤ gb208)); clear HB; have HB := n0_; have BK208 := n1_; have GW208 := n2_; have GE208 := n3_; clear n0_ n1_ n2_ n3_; clear hb hbox hg; have hcz18_0 : w17.cell? ⟨gb208, 0, none⟩ = some (.bool false) := (blk_cell BK208.out 0).trans rfl; have hcz18_1 : w17.cell? ⟨gb208, 1, none⟩ = some (.string (⟨#[]⟩ : ByteArray)) := (blk_cell BK208.out 1).trans rfl; have hcz18_2 : w17.cell? ⟨gb208, 2, none⟩ = some (.int .i64 0) := (blk_cell BK208.out 2).trans rfl; have hfz18_0 := blk_frozen BK208.out 0; have hfz18_1 := blk_frozen BK208.out 1; have hfz18_2 := blk_frozen BK208.out 2) | ((with_reducible refine gate_callee (f := 13) rfl ?_); refine goesL_ (some 20) rfl rfl Tryd.func13 (by kernel_rfl) rfl #[.string a0] rfl (by (try simp only [List.map_toArray, List.map_cons, List.map_nil]); first | done | rfl | (simp only [List.length_drop, List.length_take]; rfl) | (have z_ : ∀ s_ : ByteArray, s_.size ≤ 9223372036854775807 → -(s_.size : Int) = wrap64 (-(s_.size : Int)) := (fun s_ h_ => by unfold wrap64; omega); rw [← z_ _ (by omega)]; rfl)) ?_; (with_reducible refine (florinlaw02_form.calls k a0 true _ A7.out).mono ?_); rintro e w' ⟨rfl, ⟨nd, rfl⟩⟩; refine ⟨_, rfl, ?_⟩))
          (try simp only [Act.put, List.setIfInBounds_toArray, List.set_cons_zero, List.set_cons_succ])
          go_cut [40] (fun v40 wc => ∃ (kq : Nat) (x40_13 : Bool), v40 = .bool x40_13 ∧ Aside0 (florinlaw02_DecReads.j0 kq x40_13 t204 t205 t206 = some r) ∧ Aside0 (kq ≤ k) ∧ Aside0 (wc.heap[gb208]? = some (.cells #[.bool t204, .string t205, .int .i64 t206] 24 (0, 0))) ∧ Aside0 (Below w.heap.size w wc))
          case first =>
            have H := HC14.out
            clear HC14
            by_cases c19 : t207 = 0
            · rw [if_pos c19] at H
              have c19b0 : (t207 == 0) = true := beq_iff_eq.mpr c19
              have c19b1 : (t207 != 0) = false := bne_eq_false_iff_eq.mpr c19
              clear c19
              (first | rw [c19b0] | (simp only [i64_w, i32_w]; rw [c19b0]) | skip)
              replace H := Option.bind_eq_some_iff.mp H
              obtain ⟨t210, A200, H⟩ := H
              replace H : (florinlaw02_DecReads.j0 k (!t210) t204 t205 t206) = some r := H
              have A20 := Aside0.mk A200
              clear A200
              have H' := Aside0.mk H
              clear H
              have hcz21_0 : w17.cell? ⟨gb208, 0, none⟩ = some (.bool false) := (blk_cell BK208.out 0).trans rfl
              have hcz21_1 : w17.cell? ⟨gb208, 1, none⟩ = some (.string (⟨#[]⟩ : ByteArray)) := (blk_cell BK208.out 1).trans rfl
              have hcz21_2 : w17.cell? ⟨gb208, 2, none⟩ = some (.int .i64 0) := (blk_cell BK208.out 2).trans rfl
              have hfz21_0 := blk_frozen BK208.out 0
              have hfz21_1 := blk_frozen BK208.out 1
              have hfz21_2 := blk_frozen BK208.out 2
              go_wp2_with (first | (go_at_call 14; (with_reducible refine (florinlaw02_normal.calls k t204 t205 t206 t210 _ A20.out).mono ?_); rintro e w22 ⟨rfl, hb⟩; have n0_ := Aside0.mk (blk_below (g := gb208) (o := .cells #[.bool t204, .string t205, .int .i64 t206] 24 (0, 0)) (by (with_reducible repeat (first | refine blk_drewN ?_ _ | refine blk_drew ?_ | refine blk_alloc ?_ _)); refine blk_put (cs := #[.bool t204, .string t205, .int .i64 0]) ?_ 2 _ rfl; (with_reducible repeat (first | refine blk_drewN ?_ _ | refine blk_drew ?_ | refine blk_alloc ?_ _)); refine blk_put (cs := #[.bool t204, .string (⟨#[]⟩ : ByteArray), .int .i64 0]) ?_ 1 _ rfl; (with_reducible repeat (first | refine blk_drewN ?_ _ | refine blk_drew ?_ | refine blk_alloc ?_ _)); refine blk_put (cs := #[.bool false, .string (⟨#[]⟩ : ByteArray), .int .i64 0]) ?_ 0 _ rfl; (with_reducible repeat (first | refine blk_drewN ?_ _ | refine blk_drew ?_ | refine blk_alloc ?_ _)); exact BK208.out) hb); have n1_ := Aside0.mk (below_step (bl_ HB).out hb); clear BK208; clear HB; have BK208 := n0_; have HB := n1_; clear n0_ n1_; (try clear hb); (try clear hb2); (try clear hk); (try clear hi)))
              go_meet
              case rel => exact ⟨_, (!t210), eq_, H', ⟨by first | omega | exact Nat.le_refl _⟩, (bk_ BK208), (bl_ HB)⟩
            · rw [if_neg c19] at H
              have c19b0 : (t207 == 0) = false := beq_eq_false_iff_ne.mpr c19
              have c19b1 : (t207 != 0) = true := bne_iff_ne.mpr c19
              (first | rw [c19b0] | (simp only [i64_w, i32_w]; rw [c19b0]) | skip)
              have H' := Aside0.mk H
              clear H
              go_wp2
              go_meet
              case rel => exact ⟨_, (true), eq_, H', ⟨by first | omega | exact Nat.le_refl _⟩, ⟨by (with_reducible repeat (first | refine blk_drewN ?_ _ | refine blk_drew ?_ | refine blk_alloc ?_ _)); refine blk_put (cs := #[.bool t204, .string t205, .int .i64 0]) ?_ 2 _ rfl; (with_reducible repeat (first | refine blk_drewN ?_ _ | refine blk_drew ?_ | refine blk_alloc ?_ _)); refine blk_put (cs := #[.bool t204, .string (⟨#[]⟩ : ByteArray), .int .i64 0]) ?_ 1 _ rfl; (with_reducible repeat (first | refine blk_drewN ?_ _ | refine blk_drew ?_ | refine blk_alloc ?_ _)); refine blk_put (cs := #[.bool false, .string (⟨#[]⟩ : ByteArray), .int .i64 0]) ?_ 0 _ rfl; (with_reducible repeat (first | refine blk_drewN ?_ _ | refine blk_drew ?_ | refine blk_alloc ?_ _)); exact BK208.out⟩, (bl_ HB)⟩
          case rest =>
            clear HC14
            try clear c1
            try clear p2
            try clear c3
            try clear c4
            try clear c4b0
            try clear c4b1
            try clear p6
            try clear c8
            try clear c9
            try clear c9b0
            try clear c9b1
            try clear c11
            try clear c12
            try clear c13
            try clear c19
            try clear c19b0
            try clear c19b1
            try clear hcz13_0
            try clear hcz13_1
            try clear hcz13_2
            try clear hcz18_0
            try clear hcz18_1
            try clear hcz18_2
            try clear hcz21_0
            try clear hcz21_1
            try clear hcz21_2
            try clear hfz13_0
            try clear hfz13_1
            try clear hfz13_2
            try clear hfz18_0
            try clear hfz18_1
            try clear hfz18_2
            try clear hfz21_0
            try clear hfz21_1
            try clear hfz21_2
            obtain ⟨kq, x40_13, rfl, HA, HJ13, BK208, HB⟩ := hcut
            cases kq with
            | zero => exact absurd HA.out (by simp [florinlaw02_DecReads.j0])
            | succ kj13 =>
              have H := HA.out
              clear HA
              simp only [florinlaw02_DecReads.j0] at H
              by_cases c23 : x40_13 = true
              · subst c23
                have H1 : (some false) = some r := by rw [if_pos rfl] at H; exact H
                clear H
                have H := H1
                clear H1
                obtain rfl := Option.some.inj H
                go_wp2
                go_ret
                exact ⟨by first | rfl | (simp [errW_none, errW_some] <;> rfl) | (simp [*, errW_none, errW_some] <;> first | rfl | exact given_isEmpty _ | exact (given_isEmpty _).symm), by repeat (first | (with_reducible first | exact HB.out | apply below_alloc | apply pw_below_drewN | apply below_drew1 | refine below_set ?_ GE208.out) | exact HB.out)⟩
              · replace c23 := Bool.eq_false_iff.mpr c23
                subst c23
                have H1 : ((dec_Dec_String.f kj13 t204 t205 t206).bind fun t211 => ((dec_Parse.f kj13 t211).bind fun bt212 => (if t206 > 9000 then (florinlaw02_DecReads.j1 kj13 bt212.2.2.2 true t204 t205 t206 bt212.1 bt212.2.1 bt212.2.2.1) else (florinlaw02_DecReads.j1 kj13 bt212.2.2.2 (decide (t206 < (-9000))) t204 t205 t206 bt212.1 bt212.2.1 bt212.2.2.1)))) = some r := by rw [if_neg (show ¬ (false = true) by decide)] at H; exact H
                clear H
                have H := H1
                clear H1
                replace H := Option.bind_eq_some_iff.mp H
                obtain ⟨t211, A240, H⟩ := H
                replace H : ((dec_Parse.f kj13 t211).bind fun bt212 => (if t206 > 9000 then (florinlaw02_DecReads.j1 kj13 bt212.2.2.2 true t204 t205 t206 bt212.1 bt212.2.1 bt212.2.2.1) else (florinlaw02_DecReads.j1 kj13 bt212.2.2.2 (decide (t206 < (-9000))) t204 t205 t206 bt212.1 bt212.2.1 bt212.2.2.1))) = some r := H
                have A24 := Aside0.mk A240
                clear A240
                replace H := Option.bind_eq_some_iff.mp H
                obtain ⟨⟨t212, t213, t214, t215⟩, A250, H⟩ := H
                replace H : (if t206 > 9000 then (florinlaw02_DecReads.j1 kj13 t215 true t204 t205 t206 t212 t213 t214) else (florinlaw02_DecReads.j1 kj13 t215 (decide (t206 < (-9000))) t204 t205 t206 t212 t213 t214)) = some r := H
                have A25 := Aside0.mk A250
                clear A250
                have HC26 := Aside0.mk H
                clear H
                have hcz27_0 : wc.cell? ⟨gb208, 0, none⟩ = some (.bool t204) := (blk_cell BK208.out 0).trans rfl
                have hcz27_1 : wc.cell? ⟨gb208, 1, none⟩ = some (.string t205) := (blk_cell BK208.out 1).trans rfl
                have hcz27_2 : wc.cell? ⟨gb208, 2, none⟩ = some (.int .i64 t206) := (blk_cell BK208.out 2).trans rfl
                have hfz27_0 := blk_frozen BK208.out 0
                have hfz27_1 := blk_frozen BK208.out 1
                have hfz27_2 := blk_frozen BK208.out 2
                go_upto_region 13 with (first | ((with_reducible refine gate_callee (f := 15) rfl ?_); refine goesL_ (some 43) rfl rfl Tryd.func15 (by kernel_rfl) rfl #[.agg #[.bool t204, .string t205, .int .i64 t206]] rfl (by (try simp only [List.map_toArray, List.map_cons, List.map_nil]); first | done | rfl | (simp only [List.length_drop, List.length_take]; rfl) | (have z_ : ∀ s_ : ByteArray, s_.size ≤ 9223372036854775807 → -(s_.size : Int) = wrap64 (-(s_.size : Int)) := (fun s_ h_ => by unfold wrap64; omega); rw [← z_ _ (by omega)]; rfl)) ?_; (with_reducible refine (dec_Dec_String.calls kj13 t204 t205 t206 t211 _ A24.out).mono ?_); rintro e w28 ⟨rfl, hb⟩; refine ⟨_, rfl, ?_⟩; have n0_ := bb_ BK208 hb; have n1_ := Aside0.mk (below_step (bl_ HB).out hb); clear BK208; clear HB; have BK208 := n0_; have HB := n1_; clear n0_ n1_; (try clear hb); (try clear hb2); (try clear hk); (try clear hi)) | ((with_reducible refine gate_callee (f := 12) rfl ?_); refine goesL_ (some 44) rfl rfl Tryd.func12 (by kernel_rfl) rfl #[.string t211] rfl (by (try simp only [List.map_toArray, List.map_cons, List.map_nil]); first | done | rfl | (simp only [List.length_drop, List.length_take]; rfl) | (have z_ : ∀ s_ : ByteArray, s_.size ≤ 9223372036854775807 → -(s_.size : Int) = wrap64 (-(s_.size : Int)) := (fun s_ h_ => by unfold wrap64; omega); rw [← z_ _ (by omega)]; rfl)) ?_; (with_reducible refine (dec_Parse.calls kj13 t211 t212 t213 t214 t215 _ A25.out).mono ?_); rintro e w29 ⟨rfl, hb⟩; refine ⟨_, rfl, ?_⟩; have n0_ := bb_ BK208 hb; have n1_ := Aside0.mk (below_step (bl_ HB).out hb); clear BK208; clear HB; have BK208 := n0_; have HB := n1_; clear n0_ n1_; (try clear hb); (try clear hb2); (try clear hk); (try clear hi)) | ((with_reducible refine gate_dst (N := 5) rfl ?_); refine box_event ?hg (N := 5) ?hd (cs := #[.bool false, .string (⟨#[]⟩ : ByteArray), .int .i64 0]) (t := 24) ?hr ?_; (case hd => rfl); (case hg => rfl); (case hr => first | (go_simp; done) | (go_simp; rfl)); intro gb216 hg w30 hbox hb; have n0_ := bb_ BK208 hb; have n1_ := Aside0.mk (below_step (bl_ HB).out hb); have n2_ := Aside0.mk (hbox); have n3_ := Aside0.mk ((by rw [hg]; exact (below_size (bl_ HB).out) : w.heap.size ≤ gb216)); have n4_ := Aside0.mk ((by rw [hg]; exact (below_size (bl_ HB).out) : w.heap.size ≤ gb216)); have n5_ := Aside0.mk ((by rw [hg]; exact Nat.ne_of_lt (blk_lt (g := gb208) (o := .cells #[.bool t204, .string t205, .int .i64 t206] 24 (0, 0)) (by (with_reducible repeat (first | refine blk_drewN ?_ _ | refine blk_drew ?_ | refine blk_alloc ?_ _)); exact BK208.out)) : gb208 ≠ gb216)); have n6_ := Aside0.mk ((by rw [hg]; exact Nat.ne_of_gt (blk_lt (g := gb208) (o := .cells #[.bool t204, .string t205, .int .i64 t206] 24 (0, 0)) (by (with_reducible repeat (first | refine blk_drewN ?_ _ | refine blk_drew ?_ | refine blk_alloc ?_ _)); exact BK208.out)) : gb216 ≠ gb208)); clear BK208; clear HB; have BK208 := n0_; have HB := n1_; have BK216 := n2_; have GW216 := n3_; have GE216 := n4_; have NB208_216 := n5_; have NB216_208 := n6_; clear n0_ n1_ n2_ n3_ n4_ n5_ n6_; clear hb hbox hg; have hnb31 := NB216_208.out; have hnc31 := NB208_216.out; have hcz32_0 : w30.cell? ⟨gb216, 0, none⟩ = some (.bool false) := (blk_cell BK216.out 0).trans rfl; have hcz32_1 : w30.cell? ⟨gb216, 1, none⟩ = some (.string (⟨#[]⟩ : ByteArray)) := (blk_cell BK216.out 1).trans rfl; have hcz32_2 : w30.cell? ⟨gb216, 2, none⟩ = some (.int .i64 0) := (blk_cell BK216.out 2).trans rfl; have hfz32_0 := blk_frozen BK216.out 0; have hfz32_1 := blk_frozen BK216.out 1; have hfz32_2 := blk_frozen BK216.out 2))
                (try simp only [Act.put, List.setIfInBounds_toArray, List.set_cons_zero, List.set_cons_succ])
                go_cut [54] (fun v54 wc => ∃ (kq : Nat) (x54_25 : Bool), v54 = .bool x54_25 ∧ Aside0 (florinlaw02_DecReads.j1 kq t215 x54_25 t204 t205 t206 t212 t213 t214 = some r) ∧ Aside0 (kq ≤ kj13) ∧ Aside0 (wc.heap[gb208]? = some (.cells #[.bool t204, .string t205, .int .i64 t206] 24 (0, 0))) ∧ Aside0 (wc.heap[gb216]? = some (.cells #[.bool t212, .string t213, .int .i64 t214] 24 (0, 0))) ∧ Aside0 (Below w.heap.size w wc))
                case first =>
                  have H := HC26.out
                  clear HC26
                  by_cases c33 : t206 > 9000
                  · rw [if_pos c33] at H
                    have c33b0 : decide (9000 < t206) = true := decide_eq_true c33
                    clear c33
                    (first | rw [c33b0] | (simp only [i64_w, i32_w]; rw [c33b0]) | skip)
                    have H' := Aside0.mk H
                    clear H
                    have hnb34 := NB208_216.out
                    have hnc34 := NB216_208.out
                    have hcz35_0 : w30.cell? ⟨gb208, 0, none⟩ = some (.bool t204) := (blk_cell BK208.out 0).trans rfl
                    have hcz35_1 : w30.cell? ⟨gb208, 1, none⟩ = some (.string t205) := (blk_cell BK208.out 1).trans rfl
                    have hcz35_2 : w30.cell? ⟨gb208, 2, none⟩ = some (.int .i64 t206) := (blk_cell BK208.out 2).trans rfl
                    have hfz35_0 := blk_frozen BK208.out 0
                    have hfz35_1 := blk_frozen BK208.out 1
                    have hfz35_2 := blk_frozen BK208.out 2
                    go_wp2
                    go_meet
                    case rel => exact ⟨_, (true), eq_, H', ⟨by have := HJ13.out; first | omega | exact Nat.le_refl _⟩, ⟨by (with_reducible repeat (first | refine blk_drewN ?_ _ | refine blk_drew ?_ | refine blk_alloc ?_ _)); refine blk_far ?_ NB208_216.out _; (with_reducible repeat (first | refine blk_drewN ?_ _ | refine blk_drew ?_ | refine blk_alloc ?_ _)); refine blk_far ?_ NB208_216.out _; (with_reducible repeat (first | refine blk_drewN ?_ _ | refine blk_drew ?_ | refine blk_alloc ?_ _)); refine blk_far ?_ NB208_216.out _; (with_reducible repeat (first | refine blk_drewN ?_ _ | refine blk_drew ?_ | refine blk_alloc ?_ _)); exact BK208.out⟩, ⟨by (with_reducible repeat (first | refine blk_drewN ?_ _ | refine blk_drew ?_ | refine blk_alloc ?_ _)); refine blk_put (cs := #[.bool t212, .string t213, .int .i64 0]) ?_ 2 _ rfl; (with_reducible repeat (first | refine blk_drewN ?_ _ | refine blk_drew ?_ | refine blk_alloc ?_ _)); refine blk_put (cs := #[.bool t212, .string (⟨#[]⟩ : ByteArray), .int .i64 0]) ?_ 1 _ rfl; (with_reducible repeat (first | refine blk_drewN ?_ _ | refine blk_drew ?_ | refine blk_alloc ?_ _)); refine blk_put (cs := #[.bool false, .string (⟨#[]⟩ : ByteArray), .int .i64 0]) ?_ 0 _ rfl; (with_reducible repeat (first | refine blk_drewN ?_ _ | refine blk_drew ?_ | refine blk_alloc ?_ _)); exact BK216.out⟩, (bl_ HB)⟩
                  · rw [if_neg c33] at H
                    have c33b0 : decide (9000 < t206) = false := decide_eq_false c33
                    clear c33
                    (first | rw [c33b0] | (simp only [i64_w, i32_w]; rw [c33b0]) | skip)
                    have H' := Aside0.mk H
                    clear H
                    have hnb36 := NB208_216.out
                    have hnc36 := NB216_208.out
                    have hcz37_0 : w30.cell? ⟨gb208, 0, none⟩ = some (.bool t204) := (blk_cell BK208.out 0).trans rfl
                    have hcz37_1 : w30.cell? ⟨gb208, 1, none⟩ = some (.string t205) := (blk_cell BK208.out 1).trans rfl
                    have hcz37_2 : w30.cell? ⟨gb208, 2, none⟩ = some (.int .i64 t206) := (blk_cell BK208.out 2).trans rfl
                    have hfz37_0 := blk_frozen BK208.out 0
                    have hfz37_1 := blk_frozen BK208.out 1
                    have hfz37_2 := blk_frozen BK208.out 2
                    go_wp2
                    go_meet
                    case rel => exact ⟨_, (decide (t206 < (-9000))), eq_, H', ⟨by have := HJ13.out; first | omega | exact Nat.le_refl _⟩, ⟨by (with_reducible repeat (first | refine blk_drewN ?_ _ | refine blk_drew ?_ | refine blk_alloc ?_ _)); refine blk_far ?_ NB208_216.out _; (with_reducible repeat (first | refine blk_drewN ?_ _ | refine blk_drew ?_ | refine blk_alloc ?_ _)); refine blk_far ?_ NB208_216.out _; (with_reducible repeat (first | refine blk_drewN ?_ _ | refine blk_drew ?_ | refine blk_alloc ?_ _)); refine blk_far ?_ NB208_216.out _; (with_reducible repeat (first | refine blk_drewN ?_ _ | refine blk_drew ?_ | refine blk_alloc ?_ _)); exact BK208.out⟩, ⟨by (with_reducible repeat (first | refine blk_drewN ?_ _ | refine blk_drew ?_ | refine blk_alloc ?_ _)); refine blk_put (cs := #[.bool t212, .string t213, .int .i64 0]) ?_ 2 _ rfl; (with_reducible repeat (first | refine blk_drewN ?_ _ | refine blk_drew ?_ | refine blk_alloc ?_ _)); refine blk_put (cs := #[.bool t212, .string (⟨#[]⟩ : ByteArray), .int .i64 0]) ?_ 1 _ rfl; (with_reducible repeat (first | refine blk_drewN ?_ _ | refine blk_drew ?_ | refine blk_alloc ?_ _)); refine blk_put (cs := #[.bool false, .string (⟨#[]⟩ : ByteArray), .int .i64 0]) ?_ 0 _ rfl; (with_reducible repeat (first | refine blk_drewN ?_ _ | refine blk_drew ?_ | refine blk_alloc ?_ _)); exact BK216.out⟩, (bl_ HB)⟩
                case rest =>
                  clear HC26
                  try clear c1
                  try clear c2
                  try clear p2
                  try clear c3
                  try clear c4
                  try clear c4b0
                  try clear c4b1
                  try clear p6
                  try clear c8
                  try clear c9
                  try clear c9b0
                  try clear c9b1
                  try clear c11
                  try clear c12
                  try clear c13
                  try clear c15
                  try clear c19
                  try clear c19b0
                  try clear c19b1
                  try clear c23
                  try clear c31
                  try clear c33
                  try clear c33b0
                  try clear c34
                  try clear c36
                  try clear hcz13_0
                  try clear hcz13_1
                  try clear hcz13_2
                  try clear hcz18_0
                  try clear hcz18_1
                  try clear hcz18_2
                  try clear hcz21_0
                  try clear hcz21_1
                  try clear hcz21_2
                  try clear hcz27_0
                  try clear hcz27_1
                  try clear hcz27_2
                  try clear hcz32_0
                  try clear hcz32_1
                  try clear hcz32_2
                  try clear hcz35_0
                  try clear hcz35_1
                  try clear hcz35_2
                  try clear hcz37_0
                  try clear hcz37_1
                  try clear hcz37_2
                  try clear hfz13_0
                  try clear hfz13_1
                  try clear hfz13_2
                  try clear hfz18_0
                  try clear hfz18_1
                  try clear hfz18_2
                  try clear hfz21_0
                  try clear hfz21_1
                  try clear hfz21_2
                  try clear hfz27_0
                  try clear hfz27_1
                  try clear hfz27_2
                  try clear hfz32_0
                  try clear hfz32_1
                  try clear hfz32_2
                  try clear hfz35_0
                  try clear hfz35_1
                  try clear hfz35_2
                  try clear hfz37_0
                  try clear hfz37_1
                  try clear hfz37_2
                  try clear p2
                  try clear p6
                  obtain ⟨kq, x54_25, rfl, HA, HJ25, BK208, BK216, HB⟩ := hcut
                  cases kq with
                  | zero => exact absurd HA.out (by simp [florinlaw02_DecReads.j1])
                  | succ kj25 =>
                    have H := HA.out
                    clear HA
                    simp only [florinlaw02_DecReads.j1] at H
                    by_cases c38 : x54_25 = true
                    · subst c38
                      have H1 : (some true) = some r := by rw [if_pos rfl] at H; exact H
                      clear H
                      have H := H1
                      clear H1
                      obtain rfl := Option.some.inj H
                      go_wp2
                      go_ret
                      exact ⟨by first | rfl | (simp [errW_none, errW_some] <;> rfl) | (simp [*, errW_none, errW_some] <;> first | rfl | exact given_isEmpty _ | exact (given_isEmpty _).symm), by repeat (first | (with_reducible first | exact HB.out | apply below_alloc | apply pw_below_drewN | apply below_drew1 | refine below_set ?_ GE208.out | refine below_set ?_ GE216.out) | exact HB.out)⟩
                    · replace c38 := Bool.eq_false_iff.mpr c38
                      subst c38
                      have H1 : (if t215 = 0 then (if (!(t212 == t204) || (!(t213.toList == t205.toList) || (!(t214 == t206)))) = true then (florinlaw02_DecReads.j2 kj25 true t204 t205 t206) else ((dec_Dec_Plain.f kj25 t204 t205 t206).bind fun t217 => ((florinlaw02_form.f kj25 t217).bind fun t218 => (florinlaw02_DecReads.j2 kj25 (!t218) t204 t205 t206)))) else (florinlaw02_DecReads.j2 kj25 true t204 t205 t206)) = some r := by rw [if_neg (show ¬ (false = true) by decide)] at H; exact H
                      clear H
                      have H := H1
                      clear H1
                      have HC39 := Aside0.mk H
                      clear H
                      go_upto_region 15 with (fail)
                      go_cut [67] (fun v67 wc => ∃ (kq : Nat) (x67_38 : Bool), v67 = .bool x67_38 ∧ Aside0 (florinlaw02_DecReads.j2 kq x67_38 t204 t205 t206 = some r) ∧ Aside0 (kq ≤ kj25) ∧ Aside0 (wc.heap[gb208]? = some (.cells #[.bool t204, .string t205, .int .i64 t206] 24 (0, 0))) ∧ Aside0 (wc.heap[gb216]? = some (.cells #[.bool t212, .string t213, .int .i64 t214] 24 (0, 0))) ∧ Aside0 (Below w.heap.size w wc))
                      case first =>
                        have H := HC39.out
                        clear HC39
                        by_cases c40 : t215 = 0
                        · rw [if_pos c40] at H
                          have c40b0 : (t215 == 0) = true := beq_iff_eq.mpr c40
                          have c40b1 : (t215 != 0) = false := bne_eq_false_iff_eq.mpr c40
                          clear c40
                          (first | rw [c40b0] | (simp only [i64_w, i32_w]; rw [c40b0]) | skip)
                          by_cases c41 : (!(t212 == t204) || (!(t213.toList == t205.toList) || (!(t214 == t206)))) = true
                          · rw [if_pos c41] at H
                            have c41b0 : (!(t212 == t204) || (!(t213.toList == t205.toList) || (!(t214 == t206)))) = true := c41
                            clear c41
                            have H' := Aside0.mk H
                            clear H
                            have hnb42 := NB216_208.out
                            have hnc42 := NB208_216.out
                            have hcz43_0 : wc.cell? ⟨gb216, 0, none⟩ = some (.bool t212) := (blk_cell BK216.out 0).trans rfl
                            have hcz43_1 : wc.cell? ⟨gb216, 1, none⟩ = some (.string t213) := (blk_cell BK216.out 1).trans rfl
                            have hcz43_2 : wc.cell? ⟨gb216, 2, none⟩ = some (.int .i64 t214) := (blk_cell BK216.out 2).trans rfl
                            have hfz43_0 := blk_frozen BK216.out 0
                            have hfz43_1 := blk_frozen BK216.out 1
                            have hfz43_2 := blk_frozen BK216.out 2
                            have hcz44_0 : wc.cell? ⟨gb208, 0, none⟩ = some (.bool t204) := (blk_cell BK208.out 0).trans rfl
                            have hcz44_1 : wc.cell? ⟨gb208, 1, none⟩ = some (.string t205) := (blk_cell BK208.out 1).trans rfl
                            have hcz44_2 : wc.cell? ⟨gb208, 2, none⟩ = some (.int .i64 t206) := (blk_cell BK208.out 2).trans rfl
                            have hfz44_0 := blk_frozen BK208.out 0
                            have hfz44_1 := blk_frozen BK208.out 1
                            have hfz44_2 := blk_frozen BK208.out 2
                            go_wp2
                            go_meet
                            case rel => exact ⟨_, (true), eq_, H', ⟨by have := HJ13.out; have := HJ25.out; first | omega | exact Nat.le_refl _⟩, (bk_ BK208), (bk_ BK216), (bl_ HB)⟩
                          · rw [if_neg c41] at H
                            have c41b0 : (!(t212 == t204) || (!(t213.toList == t205.toList) || (!(t214 == t206)))) = false := by simpa using c41
                            clear c41
                            replace H := Option.bind_eq_some_iff.mp H
                            obtain ⟨t217, A450, H⟩ := H
                            replace H : ((florinlaw02_form.f kj25 t217).bind fun t218 => (florinlaw02_DecReads.j2 kj25 (!t218) t204 t205 t206)) = some r := H
                            have A45 := Aside0.mk A450
                            clear A450
                            replace H := Option.bind_eq_some_iff.mp H
                            obtain ⟨t218, A460, H⟩ := H
                            replace H : (florinlaw02_DecReads.j2 kj25 (!t218) t204 t205 t206) = some r := H
                            have A46 := Aside0.mk A460
                            clear A460
                            have H' := Aside0.mk H
                            clear H
                            have hnb47 := NB216_208.out
                            have hnc47 := NB208_216.out
                            have hcz48_0 : wc.cell? ⟨gb216, 0, none⟩ = some (.bool t212) := (blk_cell BK216.out 0).trans rfl
                            have hcz48_1 : wc.cell? ⟨gb216, 1, none⟩ = some (.string t213) := (blk_cell BK216.out 1).trans rfl
                            have hcz48_2 : wc.cell? ⟨gb216, 2, none⟩ = some (.int .i64 t214) := (blk_cell BK216.out 2).trans rfl
                            have hfz48_0 := blk_frozen BK216.out 0
                            have hfz48_1 := blk_frozen BK216.out 1
                            have hfz48_2 := blk_frozen BK216.out 2
                            have hcz49_0 : wc.cell? ⟨gb208, 0, none⟩ = some (.bool t204) := (blk_cell BK208.out 0).trans rfl
                            have hcz49_1 : wc.cell? ⟨gb208, 1, none⟩ = some (.string t205) := (blk_cell BK208.out 1).trans rfl
                            have hcz49_2 : wc.cell? ⟨gb208, 2, none⟩ = some (.int .i64 t206) := (blk_cell BK208.out 2).trans rfl
                            have hfz49_0 := blk_frozen BK208.out 0
                            have hfz49_1 := blk_frozen BK208.out 1
                            have hfz49_2 := blk_frozen BK208.out 2
                            go_wp2_with (first | (go_at_call 16; (with_reducible refine (dec_Dec_Plain.calls kj25 t204 t205 t206 t217 _ A45.out).mono ?_); rintro e w50 ⟨rfl, hb⟩; have n0_ := bb_ BK208 hb; have n1_ := bb_ BK216 hb; have n2_ := Aside0.mk (below_step (bl_ HB).out hb); clear BK208; clear BK216; clear HB; have BK208 := n0_; have BK216 := n1_; have HB := n2_; clear n0_ n1_ n2_; (try clear hb); (try clear hb2); (try clear hk); (try clear hi)) | (go_at_call 13; (with_reducible refine (florinlaw02_form.calls kj25 t217 t218 _ A46.out).mono ?_); rintro e w' ⟨rfl, ⟨nd, rfl⟩⟩))
                            go_meet
                            case rel => exact ⟨_, (!t218), eq_, H', ⟨by have := HJ13.out; have := HJ25.out; first | omega | exact Nat.le_refl _⟩, (bk_ BK208), (bk_ BK216), (bl_ HB)⟩
                        · rw [if_neg c40] at H
                          have c40b0 : (t215 == 0) = false := beq_eq_false_iff_ne.mpr c40
                          have c40b1 : (t215 != 0) = true := bne_iff_ne.mpr c40
                          (first | rw [c40b0] | (simp only [i64_w, i32_w]; rw [c40b0]) | skip)
                          have H' := Aside0.mk H
                          clear H
                          go_wp2
                          go_meet
                          case rel => exact ⟨_, (true), eq_, H', ⟨by have := HJ13.out; have := HJ25.out; first | omega | exact Nat.le_refl _⟩, (bk_ BK208), (bk_ BK216), (bl_ HB)⟩
                      case rest =>
                        clear HC39
                        try clear c1
                        try clear c2
                        try clear p2
                        try clear c3
                        try clear c4
                        try clear c4b0
                        try clear c4b1
                        try clear p6
                        try clear c8
                        try clear c9
                        try clear c9b0
                        try clear c9b1
                        try clear c11
                        try clear c12
                        try clear c13
                        try clear c15
                        try clear c19
                        try clear c19b0
                        try clear c19b1
                        try clear c23
                        try clear c31
                        try clear c33
                        try clear c33b0
                        try clear c34
                        try clear c36
                        try clear c38
                        try clear c40
                        try clear c40b0
                        try clear c40b1
                        try clear c41
                        try clear c41b0
                        try clear c42
                        try clear c47
                        try clear hcz13_0
                        try clear hcz13_1
                        try clear hcz13_2
                        try clear hcz18_0
                        try clear hcz18_1
                        try clear hcz18_2
                        try clear hcz21_0
                        try clear hcz21_1
                        try clear hcz21_2
                        try clear hcz27_0
                        try clear hcz27_1
                        try clear hcz27_2
                        try clear hcz32_0
                        try clear hcz32_1
                        try clear hcz32_2
                        try clear hcz35_0
                        try clear hcz35_1
                        try clear hcz35_2
                        try clear hcz37_0
                        try clear hcz37_1
                        try clear hcz37_2
                        try clear hcz43_0
                        try clear hcz43_1
                        try clear hcz43_2
                        try clear hcz44_0
                        try clear hcz44_1
                        try clear hcz44_2
                        try clear hcz48_0
                        try clear hcz48_1
                        try clear hcz48_2
                        try clear hcz49_0
                        try clear hcz49_1
                        try clear hcz49_2
                        try clear hfz13_0
                        try clear hfz13_1
                        try clear hfz13_2
                        try clear hfz18_0
                        try clear hfz18_1
                        try clear hfz18_2
                        try clear hfz21_0
                        try clear hfz21_1
                        try clear hfz21_2
                        try clear hfz27_0
                        try clear hfz27_1
                        try clear hfz27_2
                        try clear hfz32_0
                        try clear hfz32_1
                        try clear hfz32_2
                        try clear hfz35_0
                        try clear hfz35_1
                        try clear hfz35_2
                        try clear hfz37_0
                        try clear hfz37_1
                        try clear hfz37_2
                        try clear hfz43_0
                        try clear hfz43_1
                        try clear hfz43_2
                        try clear hfz44_0
                        try clear hfz44_1
                        try clear hfz44_2
                        try clear hfz48_0
                        try clear hfz48_1
                        try clear hfz48_2
                        try clear hfz49_0
                        try clear hfz49_1
                        try clear hfz49_2
                        try clear p2
                        try clear p6
                        obtain ⟨kq, x67_38, rfl, HA, HJ38, BK208, BK216, HB⟩ := hcut
                        cases kq with
                        | zero => exact absurd HA.out (by simp [florinlaw02_DecReads.j2])
                        | succ kj38 =>
                          have H := HA.out
                          clear HA
                          simp only [florinlaw02_DecReads.j2] at H
                          by_cases c51 : x67_38 = true
                          · subst c51
                            have H1 : (some false) = some r := by rw [if_pos rfl] at H; exact H
                            clear H
                            have H := H1
                            clear H1
                            obtain rfl := Option.some.inj H
                            go_wp2
                            go_ret
                            exact ⟨by first | rfl | (simp [errW_none, errW_some] <;> rfl) | (simp [*, errW_none, errW_some] <;> first | rfl | exact given_isEmpty _ | exact (given_isEmpty _).symm), by repeat (first | (with_reducible first | exact HB.out | apply below_alloc | apply pw_below_drewN | apply below_drew1 | refine below_set ?_ GE208.out | refine below_set ?_ GE216.out) | exact HB.out)⟩
                          · replace c51 := Bool.eq_false_iff.mpr c51
                            subst c51
                            have H1 : ((dec_Dec_Plain.f kj38 t204 t205 t206).bind fun t219 => (if (t219.size : Int) > 900 then (some true) else ((dec_Dec_Plain.f kj38 t204 t205 t206).bind fun t220 => ((dec_Parse.f kj38 t220).bind fun bt221 => (if bt221.2.2.2 = 0 then (some (bt221.1 == t204 && (bt221.2.1.toList == t205.toList && (bt221.2.2.1 == t206)))) else (some false)))))) = some r := by rw [if_neg (show ¬ (false = true) by decide)] at H; exact H
                            clear H
                            have H := H1
                            clear H1
                            replace H := Option.bind_eq_some_iff.mp H
                            obtain ⟨t219, A520, H⟩ := H
                            replace H : (if (t219.size : Int) > 900 then (some true) else ((dec_Dec_Plain.f kj38 t204 t205 t206).bind fun t220 => ((dec_Parse.f kj38 t220).bind fun bt221 => (if bt221.2.2.2 = 0 then (some (bt221.1 == t204 && (bt221.2.1.toList == t205.toList && (bt221.2.2.1 == t206)))) else (some false))))) = some r := H
                            have A52 := Aside0.mk A520
                            clear A520
                            by_cases c53 : (t219.size : Int) > 900
                            · rw [if_pos c53] at H
                              have c53b0 : decide (900 < (t219.size : Int)) = true := decide_eq_true c53
                              have c53b1 : decide (900 < t219.size) = true := decide_eq_true (by omega)
                              clear c53
                              obtain rfl := Option.some.inj H
                              have hnb54 := NB208_216.out
                              have hnc54 := NB216_208.out
                              have hcz55_0 : wc.cell? ⟨gb208, 0, none⟩ = some (.bool t204) := (blk_cell BK208.out 0).trans rfl
                              have hcz55_1 : wc.cell? ⟨gb208, 1, none⟩ = some (.string t205) := (blk_cell BK208.out 1).trans rfl
                              have hcz55_2 : wc.cell? ⟨gb208, 2, none⟩ = some (.int .i64 t206) := (blk_cell BK208.out 2).trans rfl
                              have hfz55_0 := blk_frozen BK208.out 0
                              have hfz55_1 := blk_frozen BK208.out 1
                              have hfz55_2 := blk_frozen BK208.out 2
                              go_wp2_with (first | ((with_reducible refine gate_callee (f := 16) rfl ?_); refine goesL_ (some 69) rfl rfl Tryd.func16 (by kernel_rfl) rfl #[.agg #[.bool t204, .string t205, .int .i64 t206]] rfl (by (try simp only [List.map_toArray, List.map_cons, List.map_nil]); first | done | rfl | (simp only [List.length_drop, List.length_take]; rfl) | (have z_ : ∀ s_ : ByteArray, s_.size ≤ 9223372036854775807 → -(s_.size : Int) = wrap64 (-(s_.size : Int)) := (fun s_ h_ => by unfold wrap64; omega); rw [← z_ _ (by omega)]; rfl)) ?_; (with_reducible refine (dec_Dec_Plain.calls kj38 t204 t205 t206 t219 _ A52.out).mono ?_); rintro e w56 ⟨rfl, hb⟩; refine ⟨_, rfl, ?_⟩; have n0_ := bb_ BK208 hb; have n1_ := bb_ BK216 hb; have n2_ := Aside0.mk (below_step (bl_ HB).out hb); clear BK208; clear BK216; clear HB; have BK208 := n0_; have BK216 := n1_; have HB := n2_; clear n0_ n1_ n2_; (try clear hb); (try clear hb2); (try clear hk); (try clear hi)))
                              go_ret
                              exact ⟨by first | rfl | (simp [errW_none, errW_some] <;> rfl) | (simp [*, errW_none, errW_some] <;> first | rfl | exact given_isEmpty _ | exact (given_isEmpty _).symm), by repeat (first | (with_reducible first | exact HB.out | apply below_alloc | apply pw_below_drewN | apply below_drew1 | refine below_set ?_ GE208.out | refine below_set ?_ GE216.out) | exact HB.out)⟩
                            · rw [if_neg c53] at H
                              have c53b0 : decide (900 < (t219.size : Int)) = false := decide_eq_false c53
                              have c53b1 : decide (900 < t219.size) = false := decide_eq_false (by omega)
                              clear c53
                              replace H := Option.bind_eq_some_iff.mp H
                              obtain ⟨t220, A570, H⟩ := H
                              replace H : ((dec_Parse.f kj38 t220).bind fun bt221 => (if bt221.2.2.2 = 0 then (some (bt221.1 == t204 && (bt221.2.1.toList == t205.toList && (bt221.2.2.1 == t206)))) else (some false))) = some r := H
                              have A57 := Aside0.mk A570
                              clear A570
                              replace H := Option.bind_eq_some_iff.mp H
                              obtain ⟨⟨t221, t222, t223, t224⟩, A580, H⟩ := H
                              replace H : (if t224 = 0 then (some (t221 == t204 && (t222.toList == t205.toList && (t223 == t206)))) else (some false)) = some r := H
                              have A58 := Aside0.mk A580
                              clear A580
                              by_cases c59 : t224 = 0
                              · rw [if_pos c59] at H
                                have c59b0 : (t224 == 0) = true := beq_iff_eq.mpr c59
                                have c59b1 : (t224 != 0) = false := bne_eq_false_iff_eq.mpr c59
                                clear c59
                                obtain rfl := Option.some.inj H
                                have hnb60 := NB208_216.out
                                have hnc60 := NB216_208.out
                                have hcz61_0 : wc.cell? ⟨gb208, 0, none⟩ = some (.bool t204) := (blk_cell BK208.out 0).trans rfl
                                have hcz61_1 : wc.cell? ⟨gb208, 1, none⟩ = some (.string t205) := (blk_cell BK208.out 1).trans rfl
                                have hcz61_2 : wc.cell? ⟨gb208, 2, none⟩ = some (.int .i64 t206) := (blk_cell BK208.out 2).trans rfl
                                have hfz61_0 := blk_frozen BK208.out 0
                                have hfz61_1 := blk_frozen BK208.out 1
                                have hfz61_2 := blk_frozen BK208.out 2
                                go_wp2_with (first | ((with_reducible refine gate_callee (f := 16) rfl ?_); refine goesL_ (some 69) rfl rfl Tryd.func16 (by kernel_rfl) rfl #[.agg #[.bool t204, .string t205, .int .i64 t206]] rfl (by (try simp only [List.map_toArray, List.map_cons, List.map_nil]); first | done | rfl | (simp only [List.length_drop, List.length_take]; rfl) | (have z_ : ∀ s_ : ByteArray, s_.size ≤ 9223372036854775807 → -(s_.size : Int) = wrap64 (-(s_.size : Int)) := (fun s_ h_ => by unfold wrap64; omega); rw [← z_ _ (by omega)]; rfl)) ?_; (with_reducible refine (dec_Dec_Plain.calls kj38 t204 t205 t206 t219 _ A52.out).mono ?_); rintro e w62 ⟨rfl, hb⟩; refine ⟨_, rfl, ?_⟩; have n0_ := bb_ BK208 hb; have n1_ := bb_ BK216 hb; have n2_ := Aside0.mk (below_step (bl_ HB).out hb); clear BK208; clear BK216; clear HB; have BK208 := n0_; have BK216 := n1_; have HB := n2_; clear n0_ n1_ n2_; (try clear hb); (try clear hb2); (try clear hk); (try clear hi); have hcz63_0 : w62.cell? ⟨gb208, 0, none⟩ = some (.bool t204) := (blk_cell BK208.out 0).trans rfl; have hcz63_1 : w62.cell? ⟨gb208, 1, none⟩ = some (.string t205) := (blk_cell BK208.out 1).trans rfl; have hcz63_2 : w62.cell? ⟨gb208, 2, none⟩ = some (.int .i64 t206) := (blk_cell BK208.out 2).trans rfl; have hfz63_0 := blk_frozen BK208.out 0; have hfz63_1 := blk_frozen BK208.out 1; have hfz63_2 := blk_frozen BK208.out 2) | ((with_reducible refine gate_callee (f := 16) rfl ?_); refine goesL_ (some 74) rfl rfl Tryd.func16 (by kernel_rfl) rfl #[.agg #[.bool t204, .string t205, .int .i64 t206]] rfl (by (try simp only [List.map_toArray, List.map_cons, List.map_nil]); first | done | rfl | (simp only [List.length_drop, List.length_take]; rfl) | (have z_ : ∀ s_ : ByteArray, s_.size ≤ 9223372036854775807 → -(s_.size : Int) = wrap64 (-(s_.size : Int)) := (fun s_ h_ => by unfold wrap64; omega); rw [← z_ _ (by omega)]; rfl)) ?_; (with_reducible refine (dec_Dec_Plain.calls kj38 t204 t205 t206 t220 _ A57.out).mono ?_); rintro e w64 ⟨rfl, hb⟩; refine ⟨_, rfl, ?_⟩; have n0_ := bb_ BK208 hb; have n1_ := bb_ BK216 hb; have n2_ := Aside0.mk (below_step (bl_ HB).out hb); clear BK208; clear BK216; clear HB; have BK208 := n0_; have BK216 := n1_; have HB := n2_; clear n0_ n1_ n2_; (try clear hb); (try clear hb2); (try clear hk); (try clear hi)) | ((with_reducible refine gate_callee (f := 12) rfl ?_); refine goesL_ (some 75) rfl rfl Tryd.func12 (by kernel_rfl) rfl #[.string t220] rfl (by (try simp only [List.map_toArray, List.map_cons, List.map_nil]); first | done | rfl | (simp only [List.length_drop, List.length_take]; rfl) | (have z_ : ∀ s_ : ByteArray, s_.size ≤ 9223372036854775807 → -(s_.size : Int) = wrap64 (-(s_.size : Int)) := (fun s_ h_ => by unfold wrap64; omega); rw [← z_ _ (by omega)]; rfl)) ?_; (with_reducible refine (dec_Parse.calls kj38 t220 t221 t222 t223 t224 _ A58.out).mono ?_); rintro e w65 ⟨rfl, hb⟩; refine ⟨_, rfl, ?_⟩; have n0_ := bb_ BK208 hb; have n1_ := bb_ BK216 hb; have n2_ := Aside0.mk (below_step (bl_ HB).out hb); clear BK208; clear BK216; clear HB; have BK208 := n0_; have BK216 := n1_; have HB := n2_; clear n0_ n1_ n2_; (try clear hb); (try clear hb2); (try clear hk); (try clear hi)) | ((with_reducible refine gate_dst (N := 7) rfl ?_); refine box_event ?hg (N := 7) ?hd (cs := #[.bool false, .string (⟨#[]⟩ : ByteArray), .int .i64 0]) (t := 24) ?hr ?_; (case hd => rfl); (case hg => rfl); (case hr => first | (go_simp; done) | (go_simp; rfl)); intro gb225 hg w66 hbox hb; have n0_ := bb_ BK208 hb; have n1_ := bb_ BK216 hb; have n2_ := Aside0.mk (below_step (bl_ HB).out hb); have n3_ := Aside0.mk (hbox); have n4_ := Aside0.mk ((by rw [hg]; exact (below_size (bl_ HB).out) : w.heap.size ≤ gb225)); have n5_ := Aside0.mk ((by rw [hg]; exact (below_size (bl_ HB).out) : w.heap.size ≤ gb225)); have n6_ := Aside0.mk ((by rw [hg]; exact Nat.ne_of_lt (blk_lt (g := gb208) (o := .cells #[.bool t204, .string t205, .int .i64 t206] 24 (0, 0)) (by (with_reducible repeat (first | refine blk_drewN ?_ _ | refine blk_drew ?_ | refine blk_alloc ?_ _)); exact BK208.out)) : gb208 ≠ gb225)); have n7_ := Aside0.mk ((by rw [hg]; exact Nat.ne_of_gt (blk_lt (g := gb208) (o := .cells #[.bool t204, .string t205, .int .i64 t206] 24 (0, 0)) (by (with_reducible repeat (first | refine blk_drewN ?_ _ | refine blk_drew ?_ | refine blk_alloc ?_ _)); exact BK208.out)) : gb225 ≠ gb208)); have n8_ := Aside0.mk ((by rw [hg]; exact Nat.ne_of_lt (blk_lt (g := gb216) (o := .cells #[.bool t212, .string t213, .int .i64 t214] 24 (0, 0)) (by (with_reducible repeat (first | refine blk_drewN ?_ _ | refine blk_drew ?_ | refine blk_alloc ?_ _)); exact BK216.out)) : gb216 ≠ gb225)); have n9_ := Aside0.mk ((by rw [hg]; exact Nat.ne_of_gt (blk_lt (g := gb216) (o := .cells #[.bool t212, .string t213, .int .i64 t214] 24 (0, 0)) (by (with_reducible repeat (first | refine blk_drewN ?_ _ | refine blk_drew ?_ | refine blk_alloc ?_ _)); exact BK216.out)) : gb225 ≠ gb216)); clear BK208; clear BK216; clear HB; have BK208 := n0_; have BK216 := n1_; have HB := n2_; have BK225 := n3_; have GW225 := n4_; have GE225 := n5_; have NB208_225 := n6_; have NB225_208 := n7_; have NB216_225 := n8_; have NB225_216 := n9_; clear n0_ n1_ n2_ n3_ n4_ n5_ n6_ n7_ n8_ n9_; clear hb hbox hg; have hnb67 := NB225_208.out; have hnc67 := NB208_225.out; have hnb68 := NB225_216.out; have hnc68 := NB216_225.out; have hcz69_0 : w66.cell? ⟨gb225, 0, none⟩ = some (.bool false) := (blk_cell BK225.out 0).trans rfl; have hcz69_1 : w66.cell? ⟨gb225, 1, none⟩ = some (.string (⟨#[]⟩ : ByteArray)) := (blk_cell BK225.out 1).trans rfl; have hcz69_2 : w66.cell? ⟨gb225, 2, none⟩ = some (.int .i64 0) := (blk_cell BK225.out 2).trans rfl; have hfz69_0 := blk_frozen BK225.out 0; have hfz69_1 := blk_frozen BK225.out 1; have hfz69_2 := blk_frozen BK225.out 2; have hcz70_0 : w66.cell? ⟨gb208, 0, none⟩ = some (.bool t204) := (blk_cell BK208.out 0).trans rfl; have hcz70_1 : w66.cell? ⟨gb208, 1, none⟩ = some (.string t205) := (blk_cell BK208.out 1).trans rfl; have hcz70_2 : w66.cell? ⟨gb208, 2, none⟩ = some (.int .i64 t206) := (blk_cell BK208.out 2).trans rfl; have hfz70_0 := blk_frozen BK208.out 0; have hfz70_1 := blk_frozen BK208.out 1; have hfz70_2 := blk_frozen BK208.out 2))
                                go_ret
                                exact ⟨by first | rfl | (simp [errW_none, errW_some] <;> rfl) | (simp [*, errW_none, errW_some] <;> first | rfl | exact given_isEmpty _ | exact (given_isEmpty _).symm), by repeat (first | (with_reducible first | exact HB.out | apply below_alloc | apply pw_below_drewN | apply below_drew1 | refine below_set ?_ GE208.out | refine below_set ?_ GE216.out | refine below_set ?_ GE225.out) | exact HB.out)⟩
                              · rw [if_neg c59] at H
                                have c59b0 : (t224 == 0) = false := beq_eq_false_iff_ne.mpr c59
                                have c59b1 : (t224 != 0) = true := bne_iff_ne.mpr c59
                                obtain rfl := Option.some.inj H
                                have hnb71 := NB208_216.out
                                have hnc71 := NB216_208.out
                                have hcz72_0 : wc.cell? ⟨gb208, 0, none⟩ = some (.bool t204) := (blk_cell BK208.out 0).trans rfl
                                have hcz72_1 : wc.cell? ⟨gb208, 1, none⟩ = some (.string t205) := (blk_cell BK208.out 1).trans rfl
                                have hcz72_2 : wc.cell? ⟨gb208, 2, none⟩ = some (.int .i64 t206) := (blk_cell BK208.out 2).trans rfl
                                have hfz72_0 := blk_frozen BK208.out 0
                                have hfz72_1 := blk_frozen BK208.out 1
                                have hfz72_2 := blk_frozen BK208.out 2
                                go_wp2_with (first | ((with_reducible refine gate_callee (f := 16) rfl ?_); refine goesL_ (some 69) rfl rfl Tryd.func16 (by kernel_rfl) rfl #[.agg #[.bool t204, .string t205, .int .i64 t206]] rfl (by (try simp only [List.map_toArray, List.map_cons, List.map_nil]); first | done | rfl | (simp only [List.length_drop, List.length_take]; rfl) | (have z_ : ∀ s_ : ByteArray, s_.size ≤ 9223372036854775807 → -(s_.size : Int) = wrap64 (-(s_.size : Int)) := (fun s_ h_ => by unfold wrap64; omega); rw [← z_ _ (by omega)]; rfl)) ?_; (with_reducible refine (dec_Dec_Plain.calls kj38 t204 t205 t206 t219 _ A52.out).mono ?_); rintro e w73 ⟨rfl, hb⟩; refine ⟨_, rfl, ?_⟩; have n0_ := bb_ BK208 hb; have n1_ := bb_ BK216 hb; have n2_ := Aside0.mk (below_step (bl_ HB).out hb); clear BK208; clear BK216; clear HB; have BK208 := n0_; have BK216 := n1_; have HB := n2_; clear n0_ n1_ n2_; (try clear hb); (try clear hb2); (try clear hk); (try clear hi); have hcz74_0 : w73.cell? ⟨gb208, 0, none⟩ = some (.bool t204) := (blk_cell BK208.out 0).trans rfl; have hcz74_1 : w73.cell? ⟨gb208, 1, none⟩ = some (.string t205) := (blk_cell BK208.out 1).trans rfl; have hcz74_2 : w73.cell? ⟨gb208, 2, none⟩ = some (.int .i64 t206) := (blk_cell BK208.out 2).trans rfl; have hfz74_0 := blk_frozen BK208.out 0; have hfz74_1 := blk_frozen BK208.out 1; have hfz74_2 := blk_frozen BK208.out 2) | ((with_reducible refine gate_callee (f := 16) rfl ?_); refine goesL_ (some 74) rfl rfl Tryd.func16 (by kernel_rfl) rfl #[.agg #[.bool t204, .string t205, .int .i64 t206]] rfl (by (try simp only [List.map_toArray, List.map_cons, List.map_nil]); first | done | rfl | (simp only [List.length_drop, List.length_take]; rfl) | (have z_ : ∀ s_ : ByteArray, s_.size ≤ 9223372036854775807 → -(s_.size : Int) = wrap64 (-(s_.size : Int)) := (fun s_ h_ => by unfold wrap64; omega); rw [← z_ _ (by omega)]; rfl)) ?_; (with_reducible refine (dec_Dec_Plain.calls kj38 t204 t205 t206 t220 _ A57.out).mono ?_); rintro e w75 ⟨rfl, hb⟩; refine ⟨_, rfl, ?_⟩; have n0_ := bb_ BK208 hb; have n1_ := bb_ BK216 hb; have n2_ := Aside0.mk (below_step (bl_ HB).out hb); clear BK208; clear BK216; clear HB; have BK208 := n0_; have BK216 := n1_; have HB := n2_; clear n0_ n1_ n2_; (try clear hb); (try clear hb2); (try clear hk); (try clear hi)) | ((with_reducible refine gate_callee (f := 12) rfl ?_); refine goesL_ (some 75) rfl rfl Tryd.func12 (by kernel_rfl) rfl #[.string t220] rfl (by (try simp only [List.map_toArray, List.map_cons, List.map_nil]); first | done | rfl | (simp only [List.length_drop, List.length_take]; rfl) | (have z_ : ∀ s_ : ByteArray, s_.size ≤ 9223372036854775807 → -(s_.size : Int) = wrap64 (-(s_.size : Int)) := (fun s_ h_ => by unfold wrap64; omega); rw [← z_ _ (by omega)]; rfl)) ?_; (with_reducible refine (dec_Parse.calls kj38 t220 t221 t222 t223 t224 _ A58.out).mono ?_); rintro e w76 ⟨rfl, hb⟩; refine ⟨_, rfl, ?_⟩; have n0_ := bb_ BK208 hb; have n1_ := bb_ BK216 hb; have n2_ := Aside0.mk (below_step (bl_ HB).out hb); clear BK208; clear BK216; clear HB; have BK208 := n0_; have BK216 := n1_; have HB := n2_; clear n0_ n1_ n2_; (try clear hb); (try clear hb2); (try clear hk); (try clear hi)) | ((with_reducible refine gate_dst (N := 7) rfl ?_); refine box_event ?hg (N := 7) ?hd (cs := #[.bool false, .string (⟨#[]⟩ : ByteArray), .int .i64 0]) (t := 24) ?hr ?_; (case hd => rfl); (case hg => rfl); (case hr => first | (go_simp; done) | (go_simp; rfl)); intro gb225 hg w77 hbox hb; have n0_ := bb_ BK208 hb; have n1_ := bb_ BK216 hb; have n2_ := Aside0.mk (below_step (bl_ HB).out hb); have n3_ := Aside0.mk (hbox); have n4_ := Aside0.mk ((by rw [hg]; exact (below_size (bl_ HB).out) : w.heap.size ≤ gb225)); have n5_ := Aside0.mk ((by rw [hg]; exact (below_size (bl_ HB).out) : w.heap.size ≤ gb225)); have n6_ := Aside0.mk ((by rw [hg]; exact Nat.ne_of_lt (blk_lt (g := gb208) (o := .cells #[.bool t204, .string t205, .int .i64 t206] 24 (0, 0)) (by (with_reducible repeat (first | refine blk_drewN ?_ _ | refine blk_drew ?_ | refine blk_alloc ?_ _)); exact BK208.out)) : gb208 ≠ gb225)); have n7_ := Aside0.mk ((by rw [hg]; exact Nat.ne_of_gt (blk_lt (g := gb208) (o := .cells #[.bool t204, .string t205, .int .i64 t206] 24 (0, 0)) (by (with_reducible repeat (first | refine blk_drewN ?_ _ | refine blk_drew ?_ | refine blk_alloc ?_ _)); exact BK208.out)) : gb225 ≠ gb208)); have n8_ := Aside0.mk ((by rw [hg]; exact Nat.ne_of_lt (blk_lt (g := gb216) (o := .cells #[.bool t212, .string t213, .int .i64 t214] 24 (0, 0)) (by (with_reducible repeat (first | refine blk_drewN ?_ _ | refine blk_drew ?_ | refine blk_alloc ?_ _)); exact BK216.out)) : gb216 ≠ gb225)); have n9_ := Aside0.mk ((by rw [hg]; exact Nat.ne_of_gt (blk_lt (g := gb216) (o := .cells #[.bool t212, .string t213, .int .i64 t214] 24 (0, 0)) (by (with_reducible repeat (first | refine blk_drewN ?_ _ | refine blk_drew ?_ | refine blk_alloc ?_ _)); exact BK216.out)) : gb225 ≠ gb216)); clear BK208; clear BK216; clear HB; have BK208 := n0_; have BK216 := n1_; have HB := n2_; have BK225 := n3_; have GW225 := n4_; have GE225 := n5_; have NB208_225 := n6_; have NB225_208 := n7_; have NB216_225 := n8_; have NB225_216 := n9_; clear n0_ n1_ n2_ n3_ n4_ n5_ n6_ n7_ n8_ n9_; clear hb hbox hg; have hnb78 := NB225_208.out; have hnc78 := NB208_225.out; have hnb79 := NB225_216.out; have hnc79 := NB216_225.out; have hcz80_0 : w77.cell? ⟨gb225, 0, none⟩ = some (.bool false) := (blk_cell BK225.out 0).trans rfl; have hcz80_1 : w77.cell? ⟨gb225, 1, none⟩ = some (.string (⟨#[]⟩ : ByteArray)) := (blk_cell BK225.out 1).trans rfl; have hcz80_2 : w77.cell? ⟨gb225, 2, none⟩ = some (.int .i64 0) := (blk_cell BK225.out 2).trans rfl; have hfz80_0 := blk_frozen BK225.out 0; have hfz80_1 := blk_frozen BK225.out 1; have hfz80_2 := blk_frozen BK225.out 2))
                                go_ret
                                exact ⟨by first | rfl | (simp [errW_none, errW_some] <;> rfl) | (simp [*, errW_none, errW_some] <;> first | rfl | exact given_isEmpty _ | exact (given_isEmpty _).symm), by repeat (first | (with_reducible first | exact HB.out | apply below_alloc | apply pw_below_drewN | apply below_drew1 | refine below_set ?_ GE208.out | refine below_set ?_ GE216.out | refine below_set ?_ GE225.out) | exact HB.out)⟩
      · replace c8 := Bool.eq_false_iff.mpr c8
        subst c8
        have H1 : (if t207 = 1 then (some (!t204 && (t205.toList == ([] : List UInt8) && (t206 == 0)))) else (some false)) = some r := by rw [if_neg (show ¬ (false = true) by decide)] at H; exact H
        clear H
        have H := H1
        clear H1
        by_cases c81 : t207 = 1
        · rw [if_pos c81] at H
          have c81b0 : (t207 == 1) = true := beq_iff_eq.mpr c81
          have c81b1 : (t207 != 1) = false := bne_eq_false_iff_eq.mpr c81
          clear c81
          obtain rfl := Option.some.inj H
          go_enter Tryd.func3, Tryd.ntmps3
          go_wp2_with (first | ((with_reducible refine gate_callee (f := 11) rfl ?_); refine goesL_ (some 9) rfl rfl Tryd.func11 (by kernel_rfl) rfl #[] rfl (by (try simp only [List.map_toArray, List.map_cons, List.map_nil]); first | done | rfl | (simp only [List.length_drop, List.length_take]; rfl) | (have z_ : ∀ s_ : ByteArray, s_.size ≤ 9223372036854775807 → -(s_.size : Int) = wrap64 (-(s_.size : Int)) := (fun s_ h_ => by unfold wrap64; omega); rw [← z_ _ (by omega)]; rfl)) ?_; (with_reducible refine (florinlaw02_head.calls k  true _ A2.out).mono ?_); rintro e w82 ⟨rfl, hb⟩; refine ⟨_, rfl, ?_⟩; have n0_ := Aside0.mk (below_step (bl_ HB).out hb); clear HB; have HB := n0_; clear n0_; (try clear hb); (try clear hb2); (try clear hk); (try clear hi)) | ((with_reducible refine gate_callee (f := 12) rfl ?_); refine goesL_ (some 16) rfl rfl Tryd.func12 (by kernel_rfl) rfl #[.string a0] rfl (by (try simp only [List.map_toArray, List.map_cons, List.map_nil]); first | done | rfl | (simp only [List.length_drop, List.length_take]; rfl) | (have z_ : ∀ s_ : ByteArray, s_.size ≤ 9223372036854775807 → -(s_.size : Int) = wrap64 (-(s_.size : Int)) := (fun s_ h_ => by unfold wrap64; omega); rw [← z_ _ (by omega)]; rfl)) ?_; (with_reducible refine (dec_Parse.calls k a0 t204 t205 t206 t207 _ A6.out).mono ?_); rintro e w83 ⟨rfl, hb⟩; refine ⟨_, rfl, ?_⟩; have n0_ := Aside0.mk (below_step (bl_ HB).out hb); clear HB; have HB := n0_; clear n0_; (try clear hb); (try clear hb2); (try clear hk); (try clear hi)) | ((with_reducible refine gate_dst (N := 3) rfl ?_); refine box_event ?hg (N := 3) ?hd (cs := #[.bool false, .string (⟨#[]⟩ : ByteArray), .int .i64 0]) (t := 24) ?hr ?_; (case hd => rfl); (case hg => rfl); (case hr => first | (go_simp; done) | (go_simp; rfl)); intro gb208 hg w84 hbox hb; have n0_ := Aside0.mk (below_step (bl_ HB).out hb); have n1_ := Aside0.mk (hbox); have n2_ := Aside0.mk ((by rw [hg]; exact (below_size (bl_ HB).out) : w.heap.size ≤ gb208)); have n3_ := Aside0.mk ((by rw [hg]; exact (below_size (bl_ HB).out) : w.heap.size ≤ gb208)); clear HB; have HB := n0_; have BK208 := n1_; have GW208 := n2_; have GE208 := n3_; clear n0_ n1_ n2_ n3_; clear hb hbox hg; have hcz85_0 : w84.cell? ⟨gb208, 0, none⟩ = some (.bool false) := (blk_cell BK208.out 0).trans rfl; have hcz85_1 : w84.cell? ⟨gb208, 1, none⟩ = some (.string (⟨#[]⟩ : ByteArray)) := (blk_cell BK208.out 1).trans rfl; have hcz85_2 : w84.cell? ⟨gb208, 2, none⟩ = some (.int .i64 0) := (blk_cell BK208.out 2).trans rfl; have hfz85_0 := blk_frozen BK208.out 0; have hfz85_1 := blk_frozen BK208.out 1; have hfz85_2 := blk_frozen BK208.out 2) | ((with_reducible refine gate_callee (f := 13) rfl ?_); refine goesL_ (some 20) rfl rfl Tryd.func13 (by kernel_rfl) rfl #[.string a0] rfl (by (try simp only [List.map_toArray, List.map_cons, List.map_nil]); first | done | rfl | (simp only [List.length_drop, List.length_take]; rfl) | (have z_ : ∀ s_ : ByteArray, s_.size ≤ 9223372036854775807 → -(s_.size : Int) = wrap64 (-(s_.size : Int)) := (fun s_ h_ => by unfold wrap64; omega); rw [← z_ _ (by omega)]; rfl)) ?_; (with_reducible refine (florinlaw02_form.calls k a0 false _ A7.out).mono ?_); rintro e w' ⟨rfl, ⟨nd, rfl⟩⟩; refine ⟨_, rfl, ?_⟩))
          go_ret
          exact ⟨by first | rfl | (simp [errW_none, errW_some] <;> rfl) | (simp [*, errW_none, errW_some] <;> first | rfl | exact given_isEmpty _ | exact (given_isEmpty _).symm), by repeat (first | (with_reducible first | exact HB.out | apply below_alloc | apply pw_below_drewN | apply below_drew1 | refine below_set ?_ GE208.out) | exact HB.out)⟩
        · rw [if_neg c81] at H
          have c81b0 : (t207 == 1) = false := beq_eq_false_iff_ne.mpr c81
          have c81b1 : (t207 != 1) = true := bne_iff_ne.mpr c81
          obtain rfl := Option.some.inj H
          go_enter Tryd.func3, Tryd.ntmps3
          go_wp2_with (first | ((with_reducible refine gate_callee (f := 11) rfl ?_); refine goesL_ (some 9) rfl rfl Tryd.func11 (by kernel_rfl) rfl #[] rfl (by (try simp only [List.map_toArray, List.map_cons, List.map_nil]); first | done | rfl | (simp only [List.length_drop, List.length_take]; rfl) | (have z_ : ∀ s_ : ByteArray, s_.size ≤ 9223372036854775807 → -(s_.size : Int) = wrap64 (-(s_.size : Int)) := (fun s_ h_ => by unfold wrap64; omega); rw [← z_ _ (by omega)]; rfl)) ?_; (with_reducible refine (florinlaw02_head.calls k  true _ A2.out).mono ?_); rintro e w86 ⟨rfl, hb⟩; refine ⟨_, rfl, ?_⟩; have n0_ := Aside0.mk (below_step (bl_ HB).out hb); clear HB; have HB := n0_; clear n0_; (try clear hb); (try clear hb2); (try clear hk); (try clear hi)) | ((with_reducible refine gate_callee (f := 12) rfl ?_); refine goesL_ (some 16) rfl rfl Tryd.func12 (by kernel_rfl) rfl #[.string a0] rfl (by (try simp only [List.map_toArray, List.map_cons, List.map_nil]); first | done | rfl | (simp only [List.length_drop, List.length_take]; rfl) | (have z_ : ∀ s_ : ByteArray, s_.size ≤ 9223372036854775807 → -(s_.size : Int) = wrap64 (-(s_.size : Int)) := (fun s_ h_ => by unfold wrap64; omega); rw [← z_ _ (by omega)]; rfl)) ?_; (with_reducible refine (dec_Parse.calls k a0 t204 t205 t206 t207 _ A6.out).mono ?_); rintro e w87 ⟨rfl, hb⟩; refine ⟨_, rfl, ?_⟩; have n0_ := Aside0.mk (below_step (bl_ HB).out hb); clear HB; have HB := n0_; clear n0_; (try clear hb); (try clear hb2); (try clear hk); (try clear hi)) | ((with_reducible refine gate_dst (N := 3) rfl ?_); refine box_event ?hg (N := 3) ?hd (cs := #[.bool false, .string (⟨#[]⟩ : ByteArray), .int .i64 0]) (t := 24) ?hr ?_; (case hd => rfl); (case hg => rfl); (case hr => first | (go_simp; done) | (go_simp; rfl)); intro gb208 hg w88 hbox hb; have n0_ := Aside0.mk (below_step (bl_ HB).out hb); have n1_ := Aside0.mk (hbox); have n2_ := Aside0.mk ((by rw [hg]; exact (below_size (bl_ HB).out) : w.heap.size ≤ gb208)); have n3_ := Aside0.mk ((by rw [hg]; exact (below_size (bl_ HB).out) : w.heap.size ≤ gb208)); clear HB; have HB := n0_; have BK208 := n1_; have GW208 := n2_; have GE208 := n3_; clear n0_ n1_ n2_ n3_; clear hb hbox hg; have hcz89_0 : w88.cell? ⟨gb208, 0, none⟩ = some (.bool false) := (blk_cell BK208.out 0).trans rfl; have hcz89_1 : w88.cell? ⟨gb208, 1, none⟩ = some (.string (⟨#[]⟩ : ByteArray)) := (blk_cell BK208.out 1).trans rfl; have hcz89_2 : w88.cell? ⟨gb208, 2, none⟩ = some (.int .i64 0) := (blk_cell BK208.out 2).trans rfl; have hfz89_0 := blk_frozen BK208.out 0; have hfz89_1 := blk_frozen BK208.out 1; have hfz89_2 := blk_frozen BK208.out 2) | ((with_reducible refine gate_callee (f := 13) rfl ?_); refine goesL_ (some 20) rfl rfl Tryd.func13 (by kernel_rfl) rfl #[.string a0] rfl (by (try simp only [List.map_toArray, List.map_cons, List.map_nil]); first | done | rfl | (simp only [List.length_drop, List.length_take]; rfl) | (have z_ : ∀ s_ : ByteArray, s_.size ≤ 9223372036854775807 → -(s_.size : Int) = wrap64 (-(s_.size : Int)) := (fun s_ h_ => by unfold wrap64; omega); rw [← z_ _ (by omega)]; rfl)) ?_; (with_reducible refine (florinlaw02_form.calls k a0 false _ A7.out).mono ?_); rintro e w' ⟨rfl, ⟨nd, rfl⟩⟩; refine ⟨_, rfl, ?_⟩))
          go_ret
          exact ⟨by first | rfl | (simp [errW_none, errW_some] <;> rfl) | (simp [*, errW_none, errW_some] <;> first | rfl | exact given_isEmpty _ | exact (given_isEmpty _).symm), by repeat (first | (with_reducible first | exact HB.out | apply below_alloc | apply pw_below_drewN | apply below_drew1 | refine below_set ?_ GE208.out) | exact HB.out)⟩
  · replace c3 := Bool.eq_false_iff.mpr c3
    subst c3
    have H1 : (some false) = some r := by rw [if_neg (show ¬ (false = true) by decide)] at H; exact H
    clear H
    have H := H1
    clear H1
    obtain rfl := Option.some.inj H
    go_enter Tryd.func3, Tryd.ntmps3
    go_wp2_with (first | ((with_reducible refine gate_callee (f := 11) rfl ?_); refine goesL_ (some 9) rfl rfl Tryd.func11 (by kernel_rfl) rfl #[] rfl (by (try simp only [List.map_toArray, List.map_cons, List.map_nil]); first | done | rfl | (simp only [List.length_drop, List.length_take]; rfl) | (have z_ : ∀ s_ : ByteArray, s_.size ≤ 9223372036854775807 → -(s_.size : Int) = wrap64 (-(s_.size : Int)) := (fun s_ h_ => by unfold wrap64; omega); rw [← z_ _ (by omega)]; rfl)) ?_; (with_reducible refine (florinlaw02_head.calls k  false _ A2.out).mono ?_); rintro e w90 ⟨rfl, hb⟩; refine ⟨_, rfl, ?_⟩; have n0_ := Aside0.mk (below_step (bl_ HB).out hb); clear HB; have HB := n0_; clear n0_; (try clear hb); (try clear hb2); (try clear hk); (try clear hi)))
    go_ret
    exact ⟨by first | rfl | (simp [errW_none, errW_some] <;> rfl) | (simp [*, errW_none, errW_some] <;> first | rfl | exact given_isEmpty _ | exact (given_isEmpty _).symm), by repeat (first | (with_reducible first | exact HB.out | apply below_alloc | apply pw_below_drewN | apply below_drew1) | exact HB.out)⟩

/-- THE ONE PURE STATEMENT of florinlaw02_DecReads: yours. -/
def florinlaw02_DecReads.Pure : Prop := ∀ (a0 : ByteArray), a0.size ≤ 140737488351232 → ∃ k, florinlaw02_DecReads.f k a0 = some true
theorem florinlaw02_DecReads.walk (P : florinlaw02_DecReads.Pure) (a0 : ByteArray) (w : World) (w0 : a0.size ≤ 140737488351232) (ht : Lib.TabIs Tryd.prog w "internal/strconv.uint64pow10" .u64 Lib.pow10Tab) :
    Calls Tryd.prog 3 #[.string a0] w fun e w' => e = .returned (.bool true) ∧ Below w.heap.size w w' := by
  obtain ⟨k, h⟩ := P a0 w0
  refine (florinlaw02_DecReads.calls k a0 true w h).mono ?_
  rintro e w' ⟨rfl, hd⟩
  exact ⟨rfl, hd⟩

end Go.Proofs.YtlkiaeipbekpkaaDoor.P
