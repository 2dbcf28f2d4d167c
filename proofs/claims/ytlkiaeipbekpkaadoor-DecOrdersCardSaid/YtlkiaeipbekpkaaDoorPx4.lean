-- written by a program of this session (wip/p2)
import Derived.Test.YtlkiaeipbekpkaaDoorPx0
import Derived.Test.YtlkiaeipbekpkaaDoorPx1
import Derived.Test.YtlkiaeipbekpkaaDoorPx2
import Derived.Test.YtlkiaeipbekpkaaDoorPx3
namespace Go.Proofs.YtlkiaeipbekpkaaDoor.P
open Go.RowKit Go.Proofs.YtlkiaeipbekpkaaDoorW.PrintWords Go.Proofs.YtlkiaeipbekpkaaDoorW.PrintLast Go.Proofs.YtlkiaeipbekpkaaDoorW.PrintMore
attribute [local go_sem] max2_int min2_int max_two min_two max_three min_three max_four min_four   -- for this text's walks alone
set_option linter.unusedVariables false
set_option linter.unusedSimpArgs false

attribute [local go_sem high] eqA24
/-! ### dec_Dec_String: function 15 -/
def dec_Dec_String.f (k : Nat) (a0_0 : Bool) (a0_1 : ByteArray) (a0_2 : Int) : Option (ByteArray) := (dec_Dec_Norm.f k a0_0 a0_1 a0_2).bind fun bt165 => ((dec_Dec_Zero.f k bt165.1 bt165.2.1 bt165.2.2).bind fun t168 => (if t168 = true then (some (⟨#[48]⟩ : ByteArray)) else (if bt165.2.2 = 0 then ((dec_Dec_sign.f bt165.1 bt165.2.1 bt165.2.2).bind fun t169 => (if t169.size + bt165.2.1.size ≤ 9223372036854775807 then (some (t169 ++ bt165.2.1)) else (none))) else ((dec_Dec_sign.f bt165.1 bt165.2.1 bt165.2.2).bind fun t170 => (if t170.size + bt165.2.1.size ≤ 9223372036854775807 then (if (t170 ++ bt165.2.1).size + 1 ≤ 9223372036854775807 then ((strconv_Itoa.f bt165.2.2).bind fun t171 => (if ((t170 ++ bt165.2.1) ++ (⟨#[101]⟩ : ByteArray)).size + t171.size ≤ 9223372036854775807 then (some (((t170 ++ bt165.2.1) ++ (⟨#[101]⟩ : ByteArray)) ++ t171)) else (none))) else (none)) else (none))))))
theorem dec_Dec_String.mono : ∀ a0 a1 a2 k, LeO (dec_Dec_String.f k a0 a1 a2) (dec_Dec_String.f (k + 1) a0 a1 a2) := by
  intro a0 a1 a2 k
  unfold dec_Dec_String.f
  repeat' first
      | (with_reducible exact dec_Dec_Norm.mono _ _ _ _)
      | (with_reducible exact dec_Dec_Zero.mono _ _ _ _)
      | (with_reducible exact LeO.refl _)
      | (with_reducible exact LeO.none _)
      | (with_reducible refine LeO.ite ?_ ?_)
      | (with_reducible refine LeO.bind ?_ (fun _ => ?_))
      | exact dec_Dec_Norm.mono _ _ _ _
      | exact dec_Dec_Zero.mono _ _ _ _
      | exact LeO.none _
      | refine LeO.ite ?_ ?_
      | refine LeO.bind ?_ (fun _ => ?_)
def dec_Dec_String.T6 : Bool × List (List Nat × List Nat) := (true, [([], []), ([0], [0]), ([], []), ([2], [2]), ([1, 3], [1, 3]), ([4], [4]), ([], []), ([6], [6]), ([7, 1], [7]), ([5, 8], [5, 8]), ([9, 8, 0, 1, 2, 3, 4, 5, 6, 7, 8, 9], [9])])
def dec_Dec_String.B6 : List Nat := [0, 1, 0, 4, 15, 31, 0, 64, 195, 511, 1023]
theorem dec_Dec_String.tab6 : rtab .any (opsOf Tryd.f15 6) = dec_Dec_String.T6 := by kernel_rfl
theorem dec_Dec_String.bits6 : waitsOk dec_Dec_String.T6.2 dec_Dec_String.B6 = true := by kernel_rfl
set_option maxHeartbeats 8000000 in
set_option maxRecDepth 100000 in
theorem dec_Dec_String.calls (k : Nat) (a0_0 : Bool) (a0_1 : ByteArray) (a0_2 : Int) (r : ByteArray) (w : World) (h : dec_Dec_String.f k a0_0 a0_1 a0_2 = some r) (ht : Lib.TabIs Tryd.prog w "internal/strconv.uint64pow10" .u64 Lib.pow10Tab := by first | assumption | exact tb_ (by assumption) (bl_ (by assumption)).out) :
    Calls Tryd.prog 15 #[.agg #[.bool a0_0, .string a0_1, .int .i64 a0_2]] w fun e w' => e = .returned (.string r) ∧ Below w.heap.size w w' := by
  have hu24 := Tryd.underlying24
  have HB := Aside0.mk (Below.refl w.heap.size w)
  have H : ((dec_Dec_Norm.f k a0_0 a0_1 a0_2).bind fun bt165 => ((dec_Dec_Zero.f k bt165.1 bt165.2.1 bt165.2.2).bind fun t168 => (if t168 = true then (some (⟨#[48]⟩ : ByteArray)) else (if bt165.2.2 = 0 then ((dec_Dec_sign.f bt165.1 bt165.2.1 bt165.2.2).bind fun t169 => (if t169.size + bt165.2.1.size ≤ 9223372036854775807 then (some (t169 ++ bt165.2.1)) else (none))) else ((dec_Dec_sign.f bt165.1 bt165.2.1 bt165.2.2).bind fun t170 => (if t170.size + bt165.2.1.size ≤ 9223372036854775807 then (if (t170 ++ bt165.2.1).size + 1 ≤ 9223372036854775807 then ((strconv_Itoa.f bt165.2.2).bind fun t171 => (if ((t170 ++ bt165.2.1) ++ (⟨#[101]⟩ : ByteArray)).size + t171.size ≤ 9223372036854775807 then (some (((t170 ++ bt165.2.1) ++ (⟨#[101]⟩ : ByteArray)) ++ t171)) else (none))) else (none)) else (none))))))) = some r := h
  clear h
  replace H := Option.bind_eq_some_iff.mp H
  obtain ⟨⟨t165, t166, t167⟩, A20, H⟩ := H
  replace H : ((dec_Dec_Zero.f k t165 t166 t167).bind fun t168 => (if t168 = true then (some (⟨#[48]⟩ : ByteArray)) else (if t167 = 0 then ((dec_Dec_sign.f t165 t166 t167).bind fun t169 => (if t169.size + t166.size ≤ 9223372036854775807 then (some (t169 ++ t166)) else (none))) else ((dec_Dec_sign.f t165 t166 t167).bind fun t170 => (if t170.size + t166.size ≤ 9223372036854775807 then (if (t170 ++ t166).size + 1 ≤ 9223372036854775807 then ((strconv_Itoa.f t167).bind fun t171 => (if ((t170 ++ t166) ++ (⟨#[101]⟩ : ByteArray)).size + t171.size ≤ 9223372036854775807 then (some (((t170 ++ t166) ++ (⟨#[101]⟩ : ByteArray)) ++ t171)) else (none))) else (none)) else (none)))))) = some r := H
  have A2 := Aside0.mk A20
  clear A20
  replace H := Option.bind_eq_some_iff.mp H
  obtain ⟨t168, A30, H⟩ := H
  replace H : (if t168 = true then (some (⟨#[48]⟩ : ByteArray)) else (if t167 = 0 then ((dec_Dec_sign.f t165 t166 t167).bind fun t169 => (if t169.size + t166.size ≤ 9223372036854775807 then (some (t169 ++ t166)) else (none))) else ((dec_Dec_sign.f t165 t166 t167).bind fun t170 => (if t170.size + t166.size ≤ 9223372036854775807 then (if (t170 ++ t166).size + 1 ≤ 9223372036854775807 then ((strconv_Itoa.f t167).bind fun t171 => (if ((t170 ++ t166) ++ (⟨#[101]⟩ : ByteArray)).size + t171.size ≤ 9223372036854775807 then (some (((t170 ++ t166) ++ (⟨#[101]⟩ : ByteArray)) ++ t171)) else (none))) else (none)) else (none))))) = some r := H
  have A3 := Aside0.mk A30
  clear A30
  by_cases c4 : t168 = true
  · subst c4
    have H1 : (some (⟨#[48]⟩ : ByteArray)) = some r := by rw [if_pos rfl] at H; exact H
    clear H
    have H := H1
    clear H1
    obtain rfl := Option.some.inj H
    go_enter Tryd.func15, Tryd.ntmps15
    go_wp2_with (first | ((with_reducible refine gate_dst (N := 1) rfl ?_); refine box_event ?hg (N := 1) ?hd (cs := #[.bool a0_0, .string a0_1, .int .i64 a0_2]) (t := 24) ?hr ?_; (case hd => rfl); (case hg => rfl); (case hr => first | (go_simp; done) | (go_simp; rfl)); intro gb164 hg w5 hbox hb; have n0_ := Aside0.mk (below_step (bl_ HB).out hb); have n1_ := Aside0.mk (hbox); have n2_ := Aside0.mk ((by rw [hg]; exact (below_size (bl_ HB).out) : w.heap.size ≤ gb164)); have n3_ := Aside0.mk ((by rw [hg]; exact (below_size (bl_ HB).out) : w.heap.size ≤ gb164)); clear HB; have HB := n0_; have BK164 := n1_; have GW164 := n2_; have GE164 := n3_; clear n0_ n1_ n2_ n3_; clear hb hbox hg; have hcz6_0 : w5.cell? ⟨gb164, 0, none⟩ = some (.bool a0_0) := (blk_cell BK164.out 0).trans rfl; have hcz6_1 : w5.cell? ⟨gb164, 1, none⟩ = some (.string a0_1) := (blk_cell BK164.out 1).trans rfl; have hcz6_2 : w5.cell? ⟨gb164, 2, none⟩ = some (.int .i64 a0_2) := (blk_cell BK164.out 2).trans rfl; have hfz6_0 := blk_frozen BK164.out 0; have hfz6_1 := blk_frozen BK164.out 1; have hfz6_2 := blk_frozen BK164.out 2) | ((with_reducible refine gate_callee (f := 19) rfl ?_); refine goesL_ (some 4) rfl rfl Tryd.func19 (by kernel_rfl) rfl #[.agg #[.bool a0_0, .string a0_1, .int .i64 a0_2]] rfl (by (try simp only [List.map_toArray, List.map_cons, List.map_nil]); first | done | rfl | (simp only [List.length_drop, List.length_take]; rfl) | (have z_ : ∀ s_ : ByteArray, s_.size ≤ 9223372036854775807 → -(s_.size : Int) = wrap64 (-(s_.size : Int)) := (fun s_ h_ => by unfold wrap64; omega); rw [← z_ _ (by omega)]; rfl)) ?_; (with_reducible refine (dec_Dec_Norm.calls k a0_0 a0_1 a0_2 t165 t166 t167 _ A2.out).mono ?_); rintro e w7 ⟨rfl, hb⟩; refine ⟨_, rfl, ?_⟩; have n0_ := bb_ BK164 hb; have n1_ := Aside0.mk (below_step (bl_ HB).out hb); clear BK164; clear HB; have BK164 := n0_; have HB := n1_; clear n0_ n1_; (try clear hb); (try clear hb2); (try clear hk); (try clear hi); have hcz8_0 : w7.cell? ⟨gb164, 0, none⟩ = some (.bool a0_0) := (blk_cell BK164.out 0).trans rfl; have hcz8_1 : w7.cell? ⟨gb164, 1, none⟩ = some (.string a0_1) := (blk_cell BK164.out 1).trans rfl; have hcz8_2 : w7.cell? ⟨gb164, 2, none⟩ = some (.int .i64 a0_2) := (blk_cell BK164.out 2).trans rfl; have hfz8_0 := blk_frozen BK164.out 0; have hfz8_1 := blk_frozen BK164.out 1; have hfz8_2 := blk_frozen BK164.out 2) | ((with_reducible refine gate_callee (f := 24) rfl ?_); refine goesL_ (some 7) rfl rfl Tryd.func24 (by kernel_rfl) rfl #[.agg #[.bool t165, .string t166, .int .i64 t167]] rfl (by (try simp only [List.map_toArray, List.map_cons, List.map_nil]); first | done | rfl | (simp only [List.length_drop, List.length_take]; rfl) | (have z_ : ∀ s_ : ByteArray, s_.size ≤ 9223372036854775807 → -(s_.size : Int) = wrap64 (-(s_.size : Int)) := (fun s_ h_ => by unfold wrap64; omega); rw [← z_ _ (by omega)]; rfl)) ?_; (with_reducible refine (dec_Dec_Zero.calls k t165 t166 t167 true _ A3.out).mono ?_); rintro e w9 ⟨rfl, hb⟩; refine ⟨_, rfl, ?_⟩; have n0_ := Aside0.mk (blk_below (g := gb164) (o := .cells #[.bool t165, .string t166, .int .i64 t167] 24 (0, 0)) (by (with_reducible repeat (first | refine blk_drewN ?_ _ | refine blk_drew ?_ | refine blk_alloc ?_ _)); refine blk_put (cs := #[.bool t165, .string t166, .int .i64 a0_2]) ?_ 2 _ rfl; (with_reducible repeat (first | refine blk_drewN ?_ _ | refine blk_drew ?_ | refine blk_alloc ?_ _)); refine blk_put (cs := #[.bool t165, .string a0_1, .int .i64 a0_2]) ?_ 1 _ rfl; (with_reducible repeat (first | refine blk_drewN ?_ _ | refine blk_drew ?_ | refine blk_alloc ?_ _)); refine blk_put (cs := #[.bool a0_0, .string a0_1, .int .i64 a0_2]) ?_ 0 _ rfl; (with_reducible repeat (first | refine blk_drewN ?_ _ | refine blk_drew ?_ | refine blk_alloc ?_ _)); exact BK164.out) hb); have n1_ := Aside0.mk (below_step (bl_ HB).out hb); clear BK164; clear HB; have BK164 := n0_; have HB := n1_; clear n0_ n1_; (try clear hb); (try clear hb2); (try clear hk); (try clear hi)))
    go_ret
    exact ⟨by first | rfl | (simp [errW_none, errW_some] <;> rfl) | (simp [*, errW_none, errW_some] <;> first | rfl | exact given_isEmpty _ | exact (given_isEmpty _).symm), by repeat (first | (with_reducible first | exact HB.out | apply below_alloc | apply pw_below_drewN | apply below_drew1 | refine below_set ?_ GE164.out) | exact HB.out)⟩
  · replace c4 := Bool.eq_false_iff.mpr c4
    subst c4
    have H1 : (if t167 = 0 then ((dec_Dec_sign.f t165 t166 t167).bind fun t169 => (if t169.size + t166.size ≤ 9223372036854775807 then (some (t169 ++ t166)) else (none))) else ((dec_Dec_sign.f t165 t166 t167).bind fun t170 => (if t170.size + t166.size ≤ 9223372036854775807 then (if (t170 ++ t166).size + 1 ≤ 9223372036854775807 then ((strconv_Itoa.f t167).bind fun t171 => (if ((t170 ++ t166) ++ (⟨#[101]⟩ : ByteArray)).size + t171.size ≤ 9223372036854775807 then (some (((t170 ++ t166) ++ (⟨#[101]⟩ : ByteArray)) ++ t171)) else (none))) else (none)) else (none)))) = some r := by rw [if_neg (show ¬ (false = true) by decide)] at H; exact H
    clear H
    have H := H1
    clear H1
    by_cases c10 : t167 = 0
    · rw [if_pos c10] at H
      have c10b0 : (t167 == 0) = true := beq_iff_eq.mpr c10
      have c10b1 : (t167 != 0) = false := bne_eq_false_iff_eq.mpr c10
      clear c10
      replace H := Option.bind_eq_some_iff.mp H
      obtain ⟨t169, A110, H⟩ := H
      replace H : (if t169.size + t166.size ≤ 9223372036854775807 then (some (t169 ++ t166)) else (none)) = some r := H
      have A11 := Aside0.mk A110
      clear A110
      by_cases c12 : t169.size + t166.size ≤ 9223372036854775807
      · rw [if_pos c12] at H
        have c12b0 := eq_true c12
        have c12b1 : decide (t169.size + t166.size ≤ 9223372036854775807) = true := decide_eq_true c12
        try have c12b2 : (9223372036854775807 < t169.size + t166.size) = False := eq_false (Nat.not_lt.2 c12)
        obtain rfl := Option.some.inj H
        go_enter Tryd.func15, Tryd.ntmps15
        try go_wp2_with (first | ((with_reducible refine gate_dst (N := 1) rfl ?_); refine box_event ?hg (N := 1) ?hd (cs := #[.bool a0_0, .string a0_1, .int .i64 a0_2]) (t := 24) ?hr ?_; (case hd => rfl); (case hg => rfl); (case hr => first | (go_simp; done) | (go_simp; rfl)); intro gb164 hg w13 hbox hb; have n0_ := Aside0.mk (below_step (bl_ HB).out hb); have n1_ := Aside0.mk (hbox); have n2_ := Aside0.mk ((by rw [hg]; exact (below_size (bl_ HB).out) : w.heap.size ≤ gb164)); have n3_ := Aside0.mk ((by rw [hg]; exact (below_size (bl_ HB).out) : w.heap.size ≤ gb164)); clear HB; have HB := n0_; have BK164 := n1_; have GW164 := n2_; have GE164 := n3_; clear n0_ n1_ n2_ n3_; clear hb hbox hg; have hcz14_0 : w13.cell? ⟨gb164, 0, none⟩ = some (.bool a0_0) := (blk_cell BK164.out 0).trans rfl; have hcz14_1 : w13.cell? ⟨gb164, 1, none⟩ = some (.string a0_1) := (blk_cell BK164.out 1).trans rfl; have hcz14_2 : w13.cell? ⟨gb164, 2, none⟩ = some (.int .i64 a0_2) := (blk_cell BK164.out 2).trans rfl; have hfz14_0 := blk_frozen BK164.out 0; have hfz14_1 := blk_frozen BK164.out 1; have hfz14_2 := blk_frozen BK164.out 2) | ((with_reducible refine gate_callee (f := 19) rfl ?_); refine goesL_ (some 4) rfl rfl Tryd.func19 (by kernel_rfl) rfl #[.agg #[.bool a0_0, .string a0_1, .int .i64 a0_2]] rfl (by (try simp only [List.map_toArray, List.map_cons, List.map_nil]); first | done | rfl | (simp only [List.length_drop, List.length_take]; rfl) | (have z_ : ∀ s_ : ByteArray, s_.size ≤ 9223372036854775807 → -(s_.size : Int) = wrap64 (-(s_.size : Int)) := (fun s_ h_ => by unfold wrap64; omega); rw [← z_ _ (by omega)]; rfl)) ?_; (with_reducible refine (dec_Dec_Norm.calls k a0_0 a0_1 a0_2 t165 t166 t167 _ A2.out).mono ?_); rintro e w15 ⟨rfl, hb⟩; refine ⟨_, rfl, ?_⟩; have n0_ := bb_ BK164 hb; have n1_ := Aside0.mk (below_step (bl_ HB).out hb); clear BK164; clear HB; have BK164 := n0_; have HB := n1_; clear n0_ n1_; (try clear hb); (try clear hb2); (try clear hk); (try clear hi); have hcz16_0 : w15.cell? ⟨gb164, 0, none⟩ = some (.bool a0_0) := (blk_cell BK164.out 0).trans rfl; have hcz16_1 : w15.cell? ⟨gb164, 1, none⟩ = some (.string a0_1) := (blk_cell BK164.out 1).trans rfl; have hcz16_2 : w15.cell? ⟨gb164, 2, none⟩ = some (.int .i64 a0_2) := (blk_cell BK164.out 2).trans rfl; have hfz16_0 := blk_frozen BK164.out 0; have hfz16_1 := blk_frozen BK164.out 1; have hfz16_2 := blk_frozen BK164.out 2) | ((with_reducible refine gate_callee (f := 24) rfl ?_); refine goesL_ (some 7) rfl rfl Tryd.func24 (by kernel_rfl) rfl #[.agg #[.bool t165, .string t166, .int .i64 t167]] rfl (by (try simp only [List.map_toArray, List.map_cons, List.map_nil]); first | done | rfl | (simp only [List.length_drop, List.length_take]; rfl) | (have z_ : ∀ s_ : ByteArray, s_.size ≤ 9223372036854775807 → -(s_.size : Int) = wrap64 (-(s_.size : Int)) := (fun s_ h_ => by unfold wrap64; omega); rw [← z_ _ (by omega)]; rfl)) ?_; (with_reducible refine (dec_Dec_Zero.calls k t165 t166 t167 false _ A3.out).mono ?_); rintro e w17 ⟨rfl, hb⟩; refine ⟨_, rfl, ?_⟩; have n0_ := Aside0.mk (blk_below (g := gb164) (o := .cells #[.bool t165, .string t166, .int .i64 t167] 24 (0, 0)) (by (with_reducible repeat (first | refine blk_drewN ?_ _ | refine blk_drew ?_ | refine blk_alloc ?_ _)); refine blk_put (cs := #[.bool t165, .string t166, .int .i64 a0_2]) ?_ 2 _ rfl; (with_reducible repeat (first | refine blk_drewN ?_ _ | refine blk_drew ?_ | refine blk_alloc ?_ _)); refine blk_put (cs := #[.bool t165, .string a0_1, .int .i64 a0_2]) ?_ 1 _ rfl; (with_reducible repeat (first | refine blk_drewN ?_ _ | refine blk_drew ?_ | refine blk_alloc ?_ _)); refine blk_put (cs := #[.bool a0_0, .string a0_1, .int .i64 a0_2]) ?_ 0 _ rfl; (with_reducible repeat (first | refine blk_drewN ?_ _ | refine blk_drew ?_ | refine blk_alloc ?_ _)); exact BK164.out) hb); have n1_ := Aside0.mk (below_step (bl_ HB).out hb); clear BK164; clear HB; have BK164 := n0_; have HB := n1_; clear n0_ n1_; (try clear hb); (try clear hb2); (try clear hk); (try clear hi); have hcz18_0 : w17.cell? ⟨gb164, 0, none⟩ = some (.bool t165) := (blk_cell BK164.out 0).trans rfl; have hcz18_1 : w17.cell? ⟨gb164, 1, none⟩ = some (.string t166) := (blk_cell BK164.out 1).trans rfl; have hcz18_2 : w17.cell? ⟨gb164, 2, none⟩ = some (.int .i64 t167) := (blk_cell BK164.out 2).trans rfl; have hfz18_0 := blk_frozen BK164.out 0; have hfz18_1 := blk_frozen BK164.out 1; have hfz18_2 := blk_frozen BK164.out 2))
        have n0_ := Aside0.mk (blk_drew BK164.out)
        have n1_ := Aside0.mk (below_drew1 HB.out)
        clear BK164
        clear HB
        have BK164 := n0_
        have HB := n1_
        clear n0_ n1_
        refine start_ (n := 6) (S := fun w' => w'.cell? ⟨gb164, 0, none⟩ = some (.bool t165) ∧ w'.cell? ⟨gb164, 1, none⟩ = some (.string t166) ∧ w'.cell? ⟨gb164, 2, none⟩ = some (.int .i64 t167)) (ds := []) #[false, false, false, false, false, false] (by kernel_rfl) rfl rfl ⟨(blk_cell BK164.out 0).trans rfl, (blk_cell BK164.out 1).trans rfl, (blk_cell BK164.out 2).trans rfl⟩ (fun hHeld => ?_)
        generalize w17.drew = w19 at BK164 HB hHeld ⊢
        refine pure_ (i := 2) (N := some 14) (v := ?_) (a' := ?_) #[false, false, true, false, false, false] rfl rfl (by kernel_rfl) (fun _ _ _ h => h) (Or.inl ⟨by rfl, ?_⟩) ?_ ?_
        rotate_left
        · intro w'
          go_simp
          with_reducible rfl
        rotate_left
        · simp only [Act.put, List.setIfInBounds_toArray, List.set_cons_zero, List.set_cons_succ, i64_w, i32_w]
          rfl
        refine take_ (i := 0) (N := some 12) (v := ?_) (a' := ?_) #[true, false, true, false, false, false] rfl rfl (by kernel_rfl) (fun _ _ _ h => h) (Or.inl ⟨by rfl, ?_⟩) hHeld ?_ ?_
        rotate_left
        · rintro w' ⟨s0, s1, s2⟩
          go_simp
          with_reducible rfl
        rotate_left
        · simp only [Act.put, List.setIfInBounds_toArray, List.set_cons_zero, List.set_cons_succ, i64_w, i32_w]
          rfl
        refine take_ (i := 3) (N := some 15) (v := ?_) (a' := ?_) #[true, false, true, true, false, false] rfl rfl (by kernel_rfl) (fun _ _ _ h => h) (Or.inl ⟨by rfl, ?_⟩) hHeld ?_ ?_
        rotate_left
        · rintro w' ⟨s0, s1, s2⟩
          go_simp
          with_reducible rfl
        rotate_left
        · simp only [Act.put, List.setIfInBounds_toArray, List.set_cons_zero, List.set_cons_succ, i64_w, i32_w]
          rfl
        refine one_ (i := 1) (N := some 13) #[true, true, true, true, false, false] rfl rfl (by kernel_rfl) (by decide) (fun K hK => ?_)
        refine goes_ Tryd.func44 (by kernel_rfl) rfl #[.agg #[.bool t165, .string t166, .int .i64 t167]] (by rfl) rfl rfl (by (try simp only [List.map_toArray, List.map_cons, List.map_nil]); first | done | rfl | (simp only [List.length_drop, List.length_take]; rfl) | (have z_ : ∀ s_ : ByteArray, s_.size ≤ 9223372036854775807 → -(s_.size : Int) = wrap64 (-(s_.size : Int)) := (fun s_ h_ => by unfold wrap64; omega); rw [← z_ _ (by omega)]; rfl)) ?_
        with_reducible refine (dec_Dec_sign.calls t165 t166 t167 t169 _ A11.out).mono ?_
        rintro e w20 ⟨rfl, hb⟩
        refine ⟨_, rfl, ?_⟩
        have n0_ := bb_ BK164 hb
        have n1_ := Aside0.mk (below_step (bl_ HB).out hb)
        clear BK164
        clear HB
        have BK164 := n0_
        have HB := n1_
        clear n0_ n1_
        (try clear hb)
        (try clear hb2)
        (try clear hk)
        (try clear hi)
        refine hK.out _ _ ⟨(blk_cell BK164.out 0).trans rfl, (blk_cell BK164.out 1).trans rfl, (blk_cell BK164.out 2).trans rfl⟩ (fun hHeld => ?_)
        clear hK K
        refine norm_ (a' := ?_) ?_ ?_
        rotate_left
        · show Act.put _ (some 13) _ = _
          simp only [Act.put, List.setIfInBounds_toArray, List.set_cons_zero, List.set_cons_succ, i64_w, i32_w]
          rfl
        refine pure_ (i := 4) (N := some 16) (v := ?_) (a' := ?_) #[true, true, true, true, true, false] rfl rfl (by kernel_rfl) (fun _ _ _ h => h) (Or.inl ⟨by rfl, ?_⟩) ?_ ?_
        rotate_left
        · intro w'
          go_simp
          with_reducible rfl
        rotate_left
        · simp only [Act.put, List.setIfInBounds_toArray, List.set_cons_zero, List.set_cons_succ, i64_w, i32_w]
          rfl
        refine pure_ (i := 5) (N := some 2) (v := ?_) (a' := ?_) #[true, true, true, true, true, true] rfl rfl (by kernel_rfl) (fun _ _ _ h => h) (Or.inl ⟨by rfl, ?_⟩) ?_ ?_
        rotate_left
        · intro w'
          go_simp
          with_reducible rfl
        rotate_left
        · simp only [Act.put, List.setIfInBounds_toArray, List.set_cons_zero, List.set_cons_succ, i64_w, i32_w]
          rfl
        refine done_ (by kernel_rfl) ?_
        try go_wp2
        go_ret
        exact ⟨by first | rfl | (simp [errW_none, errW_some] <;> rfl) | (simp [*, errW_none, errW_some] <;> first | rfl | exact given_isEmpty _ | exact (given_isEmpty _).symm), by repeat (first | (with_reducible first | exact HB.out | apply below_alloc | apply pw_below_drewN | apply below_drew1 | refine below_set ?_ GE164.out) | exact HB.out)⟩
      · rw [if_neg c12] at H
        exact absurd H (by simp)
    · rw [if_neg c10] at H
      have c10b0 : (t167 == 0) = false := beq_eq_false_iff_ne.mpr c10
      have c10b1 : (t167 != 0) = true := bne_iff_ne.mpr c10
      replace H := Option.bind_eq_some_iff.mp H
      obtain ⟨t170, A210, H⟩ := H
      replace H : (if t170.size + t166.size ≤ 9223372036854775807 then (if (t170 ++ t166).size + 1 ≤ 9223372036854775807 then ((strconv_Itoa.f t167).bind fun t171 => (if ((t170 ++ t166) ++ (⟨#[101]⟩ : ByteArray)).size + t171.size ≤ 9223372036854775807 then (some (((t170 ++ t166) ++ (⟨#[101]⟩ : ByteArray)) ++ t171)) else (none))) else (none)) else (none)) = some r := H
      have A21 := Aside0.mk A210
      clear A210
      by_cases c22 : t170.size + t166.size ≤ 9223372036854775807
      · rw [if_pos c22] at H
        have c22b0 := eq_true c22
        have c22b1 : decide (t170.size + t166.size ≤ 9223372036854775807) = true := decide_eq_true c22
        try have c22b2 : (9223372036854775807 < t170.size + t166.size) = False := eq_false (Nat.not_lt.2 c22)
        by_cases c23 : (t170 ++ t166).size + 1 ≤ 9223372036854775807
        · rw [if_pos c23] at H
          have c23b0 := eq_true c23
          have c23b1 : decide ((t170 ++ t166).size + 1 ≤ 9223372036854775807) = true := decide_eq_true c23
          try (have c23b5 := c23b0; simp only [ByteArray.size_append, Int.natCast_add] at c23b5)
          try have c23b2 : (9223372036854775807 < (t170 ++ t166).size + 1) = False := eq_false (Nat.not_lt.2 c23)
          try have c23b3 : (9223372036854775807 < t170.size + t166.size + 1) = False := eq_false (Nat.not_lt.2 (by have h_ := c23; simp only [ByteArray.size_append] at h_; exact h_))
          try have c23b4 : (t170.size + t166.size + 1 ≤ 9223372036854775807) = True := eq_true (by have h_ := c23; simp only [ByteArray.size_append] at h_; exact h_)
          replace H := Option.bind_eq_some_iff.mp H
          obtain ⟨t171, A240, H⟩ := H
          replace H : (if ((t170 ++ t166) ++ (⟨#[101]⟩ : ByteArray)).size + t171.size ≤ 9223372036854775807 then (some (((t170 ++ t166) ++ (⟨#[101]⟩ : ByteArray)) ++ t171)) else (none)) = some r := H
          have A24 := Aside0.mk A240
          clear A240
          by_cases c25 : ((t170 ++ t166) ++ (⟨#[101]⟩ : ByteArray)).size + t171.size ≤ 9223372036854775807
          · rw [if_pos c25] at H
            have c25b0 := eq_true c25
            have c25b1 : decide (((t170 ++ t166) ++ (⟨#[101]⟩ : ByteArray)).size + t171.size ≤ 9223372036854775807) = true := decide_eq_true c25
            try (have c25b5 := c25b0; simp only [ByteArray.size_append, Int.natCast_add] at c25b5)
            try have c25b2 : (9223372036854775807 < ((t170 ++ t166) ++ (⟨#[101]⟩ : ByteArray)).size + t171.size) = False := eq_false (Nat.not_lt.2 c25)
            try have c25b3 : (9223372036854775807 < t170.size + t166.size + 1 + t171.size) = False := eq_false (Nat.not_lt.2 (by have h_ := c25; simp only [ByteArray.size_append] at h_; exact h_))
            try have c25b4 : (t170.size + t166.size + 1 + t171.size ≤ 9223372036854775807) = True := eq_true (by have h_ := c25; simp only [ByteArray.size_append] at h_; exact h_)
            obtain rfl := Option.some.inj H
            go_enter Tryd.func15, Tryd.ntmps15
            try go_wp2_with (first | ((with_reducible refine gate_dst (N := 1) rfl ?_); refine box_event ?hg (N := 1) ?hd (cs := #[.bool a0_0, .string a0_1, .int .i64 a0_2]) (t := 24) ?hr ?_; (case hd => rfl); (case hg => rfl); (case hr => first | (go_simp; done) | (go_simp; rfl)); intro gb164 hg w26 hbox hb; have n0_ := Aside0.mk (below_step (bl_ HB).out hb); have n1_ := Aside0.mk (hbox); have n2_ := Aside0.mk ((by rw [hg]; exact (below_size (bl_ HB).out) : w.heap.size ≤ gb164)); have n3_ := Aside0.mk ((by rw [hg]; exact (below_size (bl_ HB).out) : w.heap.size ≤ gb164)); clear HB; have HB := n0_; have BK164 := n1_; have GW164 := n2_; have GE164 := n3_; clear n0_ n1_ n2_ n3_; clear hb hbox hg; have hcz27_0 : w26.cell? ⟨gb164, 0, none⟩ = some (.bool a0_0) := (blk_cell BK164.out 0).trans rfl; have hcz27_1 : w26.cell? ⟨gb164, 1, none⟩ = some (.string a0_1) := (blk_cell BK164.out 1).trans rfl; have hcz27_2 : w26.cell? ⟨gb164, 2, none⟩ = some (.int .i64 a0_2) := (blk_cell BK164.out 2).trans rfl; have hfz27_0 := blk_frozen BK164.out 0; have hfz27_1 := blk_frozen BK164.out 1; have hfz27_2 := blk_frozen BK164.out 2) | ((with_reducible refine gate_callee (f := 19) rfl ?_); refine goesL_ (some 4) rfl rfl Tryd.func19 (by kernel_rfl) rfl #[.agg #[.bool a0_0, .string a0_1, .int .i64 a0_2]] rfl (by (try simp only [List.map_toArray, List.map_cons, List.map_nil]); first | done | rfl | (simp only [List.length_drop, List.length_take]; rfl) | (have z_ : ∀ s_ : ByteArray, s_.size ≤ 9223372036854775807 → -(s_.size : Int) = wrap64 (-(s_.size : Int)) := (fun s_ h_ => by unfold wrap64; omega); rw [← z_ _ (by omega)]; rfl)) ?_; (with_reducible refine (dec_Dec_Norm.calls k a0_0 a0_1 a0_2 t165 t166 t167 _ A2.out).mono ?_); rintro e w28 ⟨rfl, hb⟩; refine ⟨_, rfl, ?_⟩; have n0_ := bb_ BK164 hb; have n1_ := Aside0.mk (below_step (bl_ HB).out hb); clear BK164; clear HB; have BK164 := n0_; have HB := n1_; clear n0_ n1_; (try clear hb); (try clear hb2); (try clear hk); (try clear hi); have hcz29_0 : w28.cell? ⟨gb164, 0, none⟩ = some (.bool a0_0) := (blk_cell BK164.out 0).trans rfl; have hcz29_1 : w28.cell? ⟨gb164, 1, none⟩ = some (.string a0_1) := (blk_cell BK164.out 1).trans rfl; have hcz29_2 : w28.cell? ⟨gb164, 2, none⟩ = some (.int .i64 a0_2) := (blk_cell BK164.out 2).trans rfl; have hfz29_0 := blk_frozen BK164.out 0; have hfz29_1 := blk_frozen BK164.out 1; have hfz29_2 := blk_frozen BK164.out 2) | ((with_reducible refine gate_callee (f := 24) rfl ?_); refine goesL_ (some 7) rfl rfl Tryd.func24 (by kernel_rfl) rfl #[.agg #[.bool t165, .string t166, .int .i64 t167]] rfl (by (try simp only [List.map_toArray, List.map_cons, List.map_nil]); first | done | rfl | (simp only [List.length_drop, List.length_take]; rfl) | (have z_ : ∀ s_ : ByteArray, s_.size ≤ 9223372036854775807 → -(s_.size : Int) = wrap64 (-(s_.size : Int)) := (fun s_ h_ => by unfold wrap64; omega); rw [← z_ _ (by omega)]; rfl)) ?_; (with_reducible refine (dec_Dec_Zero.calls k t165 t166 t167 false _ A3.out).mono ?_); rintro e w30 ⟨rfl, hb⟩; refine ⟨_, rfl, ?_⟩; have n0_ := Aside0.mk (blk_below (g := gb164) (o := .cells #[.bool t165, .string t166, .int .i64 t167] 24 (0, 0)) (by (with_reducible repeat (first | refine blk_drewN ?_ _ | refine blk_drew ?_ | refine blk_alloc ?_ _)); refine blk_put (cs := #[.bool t165, .string t166, .int .i64 a0_2]) ?_ 2 _ rfl; (with_reducible repeat (first | refine blk_drewN ?_ _ | refine blk_drew ?_ | refine blk_alloc ?_ _)); refine blk_put (cs := #[.bool t165, .string a0_1, .int .i64 a0_2]) ?_ 1 _ rfl; (with_reducible repeat (first | refine blk_drewN ?_ _ | refine blk_drew ?_ | refine blk_alloc ?_ _)); refine blk_put (cs := #[.bool a0_0, .string a0_1, .int .i64 a0_2]) ?_ 0 _ rfl; (with_reducible repeat (first | refine blk_drewN ?_ _ | refine blk_drew ?_ | refine blk_alloc ?_ _)); exact BK164.out) hb); have n1_ := Aside0.mk (below_step (bl_ HB).out hb); clear BK164; clear HB; have BK164 := n0_; have HB := n1_; clear n0_ n1_; (try clear hb); (try clear hb2); (try clear hk); (try clear hi); have hcz31_0 : w30.cell? ⟨gb164, 0, none⟩ = some (.bool t165) := (blk_cell BK164.out 0).trans rfl; have hcz31_1 : w30.cell? ⟨gb164, 1, none⟩ = some (.string t166) := (blk_cell BK164.out 1).trans rfl; have hcz31_2 : w30.cell? ⟨gb164, 2, none⟩ = some (.int .i64 t167) := (blk_cell BK164.out 2).trans rfl; have hfz31_0 := blk_frozen BK164.out 0; have hfz31_1 := blk_frozen BK164.out 1; have hfz31_2 := blk_frozen BK164.out 2))
            have n0_ := Aside0.mk (blk_drew BK164.out)
            have n1_ := Aside0.mk (below_drew1 HB.out)
            clear BK164
            clear HB
            have BK164 := n0_
            have HB := n1_
            clear n0_ n1_
            refine start_ (n := 11) (S := fun w' => w'.cell? ⟨gb164, 0, none⟩ = some (.bool t165) ∧ w'.cell? ⟨gb164, 1, none⟩ = some (.string t166) ∧ w'.cell? ⟨gb164, 2, none⟩ = some (.int .i64 t167)) (ds := []) #[false, false, false, false, false, false, false, false, false, false, false] (by kernel_rfl) rfl rfl ⟨(blk_cell BK164.out 0).trans rfl, (blk_cell BK164.out 1).trans rfl, (blk_cell BK164.out 2).trans rfl⟩ (fun hHeld => ?_); refine with_tabW dec_Dec_String.tab6 dec_Dec_String.bits6 (fun HT_ HW_ => ?_)
            generalize w30.drew = w32 at BK164 HB hHeld ⊢
            refine pu_ 2 19 (bm_ 11 4) HT_ ?_
            refine pu_ 6 23 (bm_ 11 68) HT_ ?_
            refine tk_ 0 17 (bm_ 11 69) HT_ HW_ hHeld rfl (by rintro w' ⟨s0, s1, s2⟩; go_simp; with_reducible rfl) ?_
            refine tk_ 3 20 (bm_ 11 77) HT_ HW_ hHeld rfl (by rintro w' ⟨s0, s1, s2⟩; go_simp; with_reducible rfl) ?_
            refine tk_ 7 24 (bm_ 11 205) HT_ HW_ hHeld rfl (by rintro w' ⟨s0, s1, s2⟩; go_simp; with_reducible rfl) ?_
            refine one_ (i := 1) (N := some 18) (bm_ 11 207) rfl rfl (one_of HT_.out (by kernel_rfl)) (by decide) (fun K hK => ?_)
            refine goes_ Tryd.func44 (by kernel_rfl) rfl #[.agg #[.bool t165, .string t166, .int .i64 t167]] (by rfl) rfl rfl (by (try simp only [List.map_toArray, List.map_cons, List.map_nil]); first | done | rfl | (simp only [List.length_drop, List.length_take]; rfl) | (have z_ : ∀ s_ : ByteArray, s_.size ≤ 9223372036854775807 → -(s_.size : Int) = wrap64 (-(s_.size : Int)) := (fun s_ h_ => by unfold wrap64; omega); rw [← z_ _ (by omega)]; rfl)) ?_
            with_reducible refine (dec_Dec_sign.calls t165 t166 t167 t170 _ A21.out).mono ?_
            rintro e w33 ⟨rfl, hb⟩
            refine ⟨_, rfl, ?_⟩
            have n0_ := bb_ BK164 hb
            have n1_ := Aside0.mk (below_step (bl_ HB).out hb)
            clear BK164
            clear HB
            have BK164 := n0_
            have HB := n1_
            clear n0_ n1_
            (try clear hb)
            (try clear hb2)
            (try clear hk)
            (try clear hi)
            refine hK.out _ _ ⟨(blk_cell BK164.out 0).trans rfl, (blk_cell BK164.out 1).trans rfl, (blk_cell BK164.out 2).trans rfl⟩ (fun hHeld => ?_)
            clear hK K
            refine norm_ (a' := ?_) ?_ ?_
            rotate_left
            · show Act.put _ (some 18) _ = _
              simp only [Act.put, List.setIfInBounds_toArray, List.set_cons_zero, List.set_cons_succ, i64_w, i32_w]
              rfl
            refine pu_ 4 21 (bm_ 11 223) HT_ ?_
            refine pu_ 5 22 (bm_ 11 255) HT_ ?_
            refine one_ (i := 8) (N := some 25) (bm_ 11 511) rfl rfl (one_of HT_.out (by kernel_rfl)) (by decide) (fun K hK => ?_)
            refine goes_ Tryd.func45 (by kernel_rfl) rfl #[.int .i64 t167] (by rfl) rfl rfl (by (try simp only [List.map_toArray, List.map_cons, List.map_nil]); first | done | rfl | (simp only [List.length_drop, List.length_take]; rfl) | (have z_ : ∀ s_ : ByteArray, s_.size ≤ 9223372036854775807 → -(s_.size : Int) = wrap64 (-(s_.size : Int)) := (fun s_ h_ => by unfold wrap64; omega); rw [← z_ _ (by omega)]; rfl)) ?_
            with_reducible refine (strconv_Itoa.calls t167 t171 _ A24.out).mono ?_
            rintro e w34 ⟨rfl, hb⟩
            refine ⟨_, rfl, ?_⟩
            have n0_ := bb_ BK164 hb
            have n1_ := Aside0.mk (below_step (bl_ HB).out hb)
            clear BK164
            clear HB
            have BK164 := n0_
            have HB := n1_
            clear n0_ n1_
            (try clear hb)
            (try clear hb2)
            (try clear hk)
            (try clear hi)
            refine hK.out _ _ ⟨(blk_cell BK164.out 0).trans rfl, (blk_cell BK164.out 1).trans rfl, (blk_cell BK164.out 2).trans rfl⟩ (fun hHeld => ?_)
            clear hK K
            refine norm_ (a' := ?_) ?_ ?_
            rotate_left
            · show Act.put _ (some 25) _ = _
              simp only [Act.put, List.setIfInBounds_toArray, List.set_cons_zero, List.set_cons_succ, i64_w, i32_w]
              rfl
            refine pu_ 9 26 (bm_ 11 1023) HT_ ?_
            refine pu_ 10 2 (bm_ 11 2047) HT_ ?_
            refine done_ (done_of HT_.out (by kernel_rfl)) ?_
            try go_wp2
            go_ret
            exact ⟨by first | rfl | (simp [errW_none, errW_some] <;> rfl) | (simp [*, errW_none, errW_some] <;> first | rfl | exact given_isEmpty _ | exact (given_isEmpty _).symm), by repeat (first | (with_reducible first | exact HB.out | apply below_alloc | apply pw_below_drewN | apply below_drew1 | refine below_set ?_ GE164.out) | exact HB.out)⟩
          · rw [if_neg c25] at H
            exact absurd H (by simp)
        · rw [if_neg c23] at H
          exact absurd H (by simp)
      · rw [if_neg c22] at H
        exact absurd H (by simp)

/-! ### strings_Repeat: function 58 -/
def strings_Repeat.f (a : ByteArray) (n : Int) : Option ByteArray := if 0 ≤ n ∧ n ≤ 9223372036854775807 ∧ a.size * n.toNat ≤ 140737488355328 then some ⟨(Lib.repeatL a.data.toList n.toNat).toArray⟩ else none
theorem strings_Repeat.calls (a0 : ByteArray) (a1 : Int) (r : ByteArray) (w : World) (h : strings_Repeat.f a0 a1 = some r) :
    Calls Tryd.prog 58 #[.string a0, .int .i64 a1] w fun e w' => e = .returned (.string r) ∧ Below w.heap.size w w' := by
  unfold strings_Repeat.f at h
  split at h
  · rename_i hc
    obtain rfl := Option.some.inj h
    obtain ⟨n, rfl⟩ : ∃ n : Nat, a1 = n := ⟨a1.toNat, by omega⟩
    exact Tryd.strings_Repeat a0 n w (by omega) (by simpa using hc.2.2)
  · cases h

/-! ### num_Zeros: function 46 -/
def num_Zeros.f (a0 : Int) : Option (ByteArray) := (strings_Repeat.f (⟨#[48]⟩ : ByteArray) (mn (mx a0 0) 60000)).bind fun t172 => (some t172)
set_option maxHeartbeats 8000000 in
set_option maxRecDepth 100000 in
theorem num_Zeros.calls (a0 : Int) (r : ByteArray) (w : World) (h : num_Zeros.f a0 = some r) :
    Calls Tryd.prog 46 #[.int .i64 a0] w fun e w' => e = .returned (.string r) ∧ Below w.heap.size w w' := by
  have HB := Aside0.mk (Below.refl w.heap.size w)
  have H : ((strings_Repeat.f (⟨#[48]⟩ : ByteArray) (mn (mx a0 0) 60000)).bind fun t172 => (some t172)) = some r := h
  clear h
  obtain ⟨ji2, hji2⟩ : ∃ j_ : Int, (mx a0 0) = j_ := ⟨_, rfl⟩
  replace H : ((strings_Repeat.f (⟨#[48]⟩ : ByteArray) (mn (ji2) 60000)).bind fun t172 => (some t172)) = some r := by first | (rw [hji2] at H; exact H) | (simp only [hji2] at H ⊢; exact H)
  (try (have hji2l : 0 ≤ ji2 := by (rw [← hji2]; unfold mx; (repeat' split) <;> omega)))
  (try (have hji2m : 0 ≤ ji2 := by omega))
  have hji2_ : (if a0 < 0 then 0 else a0) = ji2 := hji2
  obtain ⟨ji3, hji3⟩ : ∃ j_ : Int, (mn (ji2) 60000) = j_ := ⟨_, rfl⟩
  replace H : ((strings_Repeat.f (⟨#[48]⟩ : ByteArray) (ji3)).bind fun t172 => (some t172)) = some r := by first | (rw [hji3] at H; exact H) | (simp only [hji3] at H ⊢; exact H)
  have hji3_ : (if 60000 < (ji2) then 60000 else (ji2)) = ji3 := hji3
  replace H := Option.bind_eq_some_iff.mp H
  obtain ⟨t172, A40, H⟩ := H
  replace H : (some t172) = some r := H
  have A4 := Aside0.mk A40
  clear A40
  obtain rfl := Option.some.inj H
  go_enter Tryd.func46, Tryd.ntmps46
  go_wp2_with (first | ((with_reducible refine gate_callee (f := 58) rfl ?_); refine goesL_ (some 6) rfl rfl Tryd.func58 (by kernel_rfl) rfl #[.string (⟨#[48]⟩ : ByteArray), .int .i64 ji3] rfl (by (try simp only [List.map_toArray, List.map_cons, List.map_nil]); first | done | (simp only [hji3]; rfl) | rfl | (simp only [List.length_drop, List.length_take]; rfl) | (have z_ : ∀ s_ : ByteArray, s_.size ≤ 9223372036854775807 → -(s_.size : Int) = wrap64 (-(s_.size : Int)) := (fun s_ h_ => by unfold wrap64; omega); rw [← z_ _ (by omega)]; rfl)) ?_; (with_reducible refine (strings_Repeat.calls (⟨#[48]⟩ : ByteArray) ji3 t172 _ A4.out).mono ?_); rintro e w5 ⟨rfl, hb⟩; refine ⟨_, rfl, ?_⟩; have n0_ := Aside0.mk (below_step (bl_ HB).out hb); clear HB; have HB := n0_; clear n0_; (try clear hb); (try clear hb2); (try clear hk); (try clear hi)))
  go_ret
  exact ⟨by first | rfl | (simp [errW_none, errW_some] <;> rfl) | (simp only [← hji2, ← hji3]; first | rfl | (simp [errW_none, errW_some] <;> rfl)) | (simp [*, errW_none, errW_some] <;> first | rfl | exact given_isEmpty _ | exact (given_isEmpty _).symm), by repeat (first | (with_reducible first | exact HB.out | apply below_alloc | apply pw_below_drewN | apply below_drew1) | exact HB.out)⟩

/-! ### dec_Dec_Parts: function 20 -/
def dec_Dec_Parts.f (k : Nat) (a0_0 : Bool) (a0_1 : ByteArray) (a0_2 : Int) : Option (ByteArray × ByteArray) := (dec_Dec_Norm.f k a0_0 a0_1 a0_2).bind fun bt174 => (if bt174.2.2 ≥ 0 then ((num_Zeros.f bt174.2.2).bind fun t177 => (if bt174.2.1.size + t177.size ≤ 9223372036854775807 then (some (bt174.2.1 ++ t177, (⟨#[]⟩ : ByteArray))) else (none))) else ((num_Zeros.f (wrap64 ((wrap64 (-bt174.2.2)) - (bt174.2.1.size : Int)))).bind fun t178 => (if t178.size + bt174.2.1.size ≤ 9223372036854775807 then (if 0 ≤ (wrap64 (((t178 ++ bt174.2.1).size : Int) + bt174.2.2)) then (if (wrap64 (((t178 ++ bt174.2.1).size : Int) + bt174.2.2)) ≤ ((t178 ++ bt174.2.1).size : Int) then ((num_Trim.f k ((t178 ++ bt174.2.1).extract 0 ((wrap64 (((t178 ++ bt174.2.1).size : Int) + bt174.2.2)) : Int).toNat)).bind fun t179 => (some (t179, (t178 ++ bt174.2.1).extract ((wrap64 (((t178 ++ bt174.2.1).size : Int) + bt174.2.2)) : Int).toNat (t178 ++ bt174.2.1).size))) else (none)) else (none)) else (none))))
theorem dec_Dec_Parts.mono : ∀ a0 a1 a2 k, LeO (dec_Dec_Parts.f k a0 a1 a2) (dec_Dec_Parts.f (k + 1) a0 a1 a2) := by
  intro a0 a1 a2 k
  unfold dec_Dec_Parts.f
  repeat' first
      | (with_reducible exact dec_Dec_Norm.mono _ _ _ _)
      | (with_reducible exact num_Trim.mono _ _)
      | (with_reducible exact LeO.refl _)
      | (with_reducible exact LeO.none _)
      | (with_reducible refine LeO.ite ?_ ?_)
      | (with_reducible refine LeO.bind ?_ (fun _ => ?_))
      | exact dec_Dec_Norm.mono _ _ _ _
      | exact num_Trim.mono _ _
      | exact LeO.none _
      | refine LeO.ite ?_ ?_
      | refine LeO.bind ?_ (fun _ => ?_)
def dec_Dec_Parts.T3 : Bool × List (List Nat × List Nat) := (true, [([], []), ([0], [0]), ([], []), ([2], [2]), ([3], [3]), ([1, 4], [1, 4]), ([5, 4, 0, 1, 2, 3, 4, 5], [5]), ([6, 0, 1, 2, 3, 4, 5, 6], [])])
def dec_Dec_Parts.B3 : List Nat := [0, 1, 0, 4, 12, 31, 63, 127]
theorem dec_Dec_Parts.tab3 : rtab .any (opsOf Tryd.f20 3) = dec_Dec_Parts.T3 := by kernel_rfl
theorem dec_Dec_Parts.bits3 : waitsOk dec_Dec_Parts.T3.2 dec_Dec_Parts.B3 = true := by kernel_rfl
def dec_Dec_Parts.T4 : Bool × List (List Nat × List Nat) := (true, [([], []), ([0], [0]), ([1], [1]), ([], []), ([3], [3]), ([4], [4]), ([2, 5], [2, 5]), ([6], [6]), ([], []), ([8], [8]), ([7, 9], [7, 9]), ([10, 7, 0, 1, 2, 3, 4, 5, 6, 7, 8, 9, 10], [10])])
def dec_Dec_Parts.B4 : List Nat := [0, 1, 3, 0, 8, 24, 63, 127, 0, 256, 1023, 2047]
theorem dec_Dec_Parts.tab4 : rtab .any (opsOf Tryd.f20 4) = dec_Dec_Parts.T4 := by kernel_rfl
theorem dec_Dec_Parts.bits4 : waitsOk dec_Dec_Parts.T4.2 dec_Dec_Parts.B4 = true := by kernel_rfl
def dec_Dec_Parts.T6 : Bool × List (List Nat × List Nat) := (true, [([], []), ([], []), ([0, 1], [0, 1]), ([2], [2]), ([], []), ([], []), ([4, 5], [4, 5]), ([3, 3, 0, 1, 2, 3], [3]), ([6, 7, 0, 1, 2, 3, 4, 5, 6, 7], [6])])
def dec_Dec_Parts.B6 : List Nat := [0, 0, 3, 7, 0, 0, 48, 15, 255]
theorem dec_Dec_Parts.tab6 : rtab .any (opsOf Tryd.f20 6) = dec_Dec_Parts.T6 := by kernel_rfl
theorem dec_Dec_Parts.bits6 : waitsOk dec_Dec_Parts.T6.2 dec_Dec_Parts.B6 = true := by kernel_rfl
set_option maxHeartbeats 8000000 in
set_option maxRecDepth 100000 in
theorem dec_Dec_Parts.calls (k : Nat) (a0_0 : Bool) (a0_1 : ByteArray) (a0_2 : Int) (r1 : ByteArray) (r2 : ByteArray) (w : World) (h : dec_Dec_Parts.f k a0_0 a0_1 a0_2 = some (r1, r2)) :
    Calls Tryd.prog 20 #[.agg #[.bool a0_0, .string a0_1, .int .i64 a0_2]] w fun e w' => e = .returned (.tuple #[.string r1, .string r2]) ∧ Below w.heap.size w w' := by
  have hu24 := Tryd.underlying24
  have HB := Aside0.mk (Below.refl w.heap.size w)
  have H : ((dec_Dec_Norm.f k a0_0 a0_1 a0_2).bind fun bt174 => (if bt174.2.2 ≥ 0 then ((num_Zeros.f bt174.2.2).bind fun t177 => (if bt174.2.1.size + t177.size ≤ 9223372036854775807 then (some (bt174.2.1 ++ t177, (⟨#[]⟩ : ByteArray))) else (none))) else ((num_Zeros.f (wrap64 ((wrap64 (-bt174.2.2)) - (bt174.2.1.size : Int)))).bind fun t178 => (if t178.size + bt174.2.1.size ≤ 9223372036854775807 then (if 0 ≤ (wrap64 (((t178 ++ bt174.2.1).size : Int) + bt174.2.2)) then (if (wrap64 (((t178 ++ bt174.2.1).size : Int) + bt174.2.2)) ≤ ((t178 ++ bt174.2.1).size : Int) then ((num_Trim.f k ((t178 ++ bt174.2.1).extract 0 ((wrap64 (((t178 ++ bt174.2.1).size : Int) + bt174.2.2)) : Int).toNat)).bind fun t179 => (some (t179, (t178 ++ bt174.2.1).extract ((wrap64 (((t178 ++ bt174.2.1).size : Int) + bt174.2.2)) : Int).toNat (t178 ++ bt174.2.1).size))) else (none)) else (none)) else (none))))) = some (r1, r2) := h
  clear h
  replace H := Option.bind_eq_some_iff.mp H
  obtain ⟨⟨t174, t175, t176⟩, A20, H⟩ := H
  replace H : (if t176 ≥ 0 then ((num_Zeros.f t176).bind fun t177 => (if t175.size + t177.size ≤ 9223372036854775807 then (some (t175 ++ t177, (⟨#[]⟩ : ByteArray))) else (none))) else ((num_Zeros.f (wrap64 ((wrap64 (-t176)) - (t175.size : Int)))).bind fun t178 => (if t178.size + t175.size ≤ 9223372036854775807 then (if 0 ≤ (wrap64 (((t178 ++ t175).size : Int) + t176)) then (if (wrap64 (((t178 ++ t175).size : Int) + t176)) ≤ ((t178 ++ t175).size : Int) then ((num_Trim.f k ((t178 ++ t175).extract 0 ((wrap64 (((t178 ++ t175).size : Int) + t176)) : Int).toNat)).bind fun t179 => (some (t179, (t178 ++ t175).extract ((wrap64 (((t178 ++ t175).size : Int) + t176)) : Int).toNat (t178 ++ t175).size))) else (none)) else (none)) else (none)))) = some (r1, r2) := H
  have A2 := Aside0.mk A20
  clear A20
  by_cases c3 : t176 ≥ 0
  · rw [if_pos c3] at H
    have c3b0 : decide (0 ≤ t176) = true := decide_eq_true c3
    clear c3
    replace H := Option.bind_eq_some_iff.mp H
    obtain ⟨t177, A40, H⟩ := H
    replace H : (if t175.size + t177.size ≤ 9223372036854775807 then (some (t175 ++ t177, (⟨#[]⟩ : ByteArray))) else (none)) = some (r1, r2) := H
    have A4 := Aside0.mk A40
    clear A40
    by_cases c5 : t175.size + t177.size ≤ 9223372036854775807
    · rw [if_pos c5] at H
      have c5b0 := eq_true c5
      have c5b1 : decide (t175.size + t177.size ≤ 9223372036854775807) = true := decide_eq_true c5
      try have c5b2 : (9223372036854775807 < t175.size + t177.size) = False := eq_false (Nat.not_lt.2 c5)
      simp only [Option.some.injEq, Prod.mk.injEq] at H
      obtain ⟨rfl, rfl⟩ := H
      go_enter Tryd.func20, Tryd.ntmps20
      try go_wp2_with (first | ((with_reducible refine gate_dst (N := 1) rfl ?_); refine box_event ?hg (N := 1) ?hd (cs := #[.bool a0_0, .string a0_1, .int .i64 a0_2]) (t := 24) ?hr ?_; (case hd => rfl); (case hg => rfl); (case hr => first | (go_simp; done) | (go_simp; rfl)); intro gb173 hg w6 hbox hb; have n0_ := Aside0.mk (below_step (bl_ HB).out hb); have n1_ := Aside0.mk (hbox); have n2_ := Aside0.mk ((by rw [hg]; exact (below_size (bl_ HB).out) : w.heap.size ≤ gb173)); have n3_ := Aside0.mk ((by rw [hg]; exact (below_size (bl_ HB).out) : w.heap.size ≤ gb173)); clear HB; have HB := n0_; have BK173 := n1_; have GW173 := n2_; have GE173 := n3_; clear n0_ n1_ n2_ n3_; clear hb hbox hg; have hcz7_0 : w6.cell? ⟨gb173, 0, none⟩ = some (.bool a0_0) := (blk_cell BK173.out 0).trans rfl; have hcz7_1 : w6.cell? ⟨gb173, 1, none⟩ = some (.string a0_1) := (blk_cell BK173.out 1).trans rfl; have hcz7_2 : w6.cell? ⟨gb173, 2, none⟩ = some (.int .i64 a0_2) := (blk_cell BK173.out 2).trans rfl; have hfz7_0 := blk_frozen BK173.out 0; have hfz7_1 := blk_frozen BK173.out 1; have hfz7_2 := blk_frozen BK173.out 2) | ((with_reducible refine gate_callee (f := 19) rfl ?_); refine goesL_ (some 7) rfl rfl Tryd.func19 (by kernel_rfl) rfl #[.agg #[.bool a0_0, .string a0_1, .int .i64 a0_2]] rfl (by (try simp only [List.map_toArray, List.map_cons, List.map_nil]); first | done | rfl | (simp only [List.length_drop, List.length_take]; rfl) | (have z_ : ∀ s_ : ByteArray, s_.size ≤ 9223372036854775807 → -(s_.size : Int) = wrap64 (-(s_.size : Int)) := (fun s_ h_ => by unfold wrap64; omega); rw [← z_ _ (by omega)]; rfl)) ?_; (with_reducible refine (dec_Dec_Norm.calls k a0_0 a0_1 a0_2 t174 t175 t176 _ A2.out).mono ?_); rintro e w8 ⟨rfl, hb⟩; refine ⟨_, rfl, ?_⟩; have n0_ := bb_ BK173 hb; have n1_ := Aside0.mk (below_step (bl_ HB).out hb); clear BK173; clear HB; have BK173 := n0_; have HB := n1_; clear n0_ n1_; (try clear hb); (try clear hb2); (try clear hk); (try clear hi); have hcz9_0 : w8.cell? ⟨gb173, 0, none⟩ = some (.bool a0_0) := (blk_cell BK173.out 0).trans rfl; have hcz9_1 : w8.cell? ⟨gb173, 1, none⟩ = some (.string a0_1) := (blk_cell BK173.out 1).trans rfl; have hcz9_2 : w8.cell? ⟨gb173, 2, none⟩ = some (.int .i64 a0_2) := (blk_cell BK173.out 2).trans rfl; have hfz9_0 := blk_frozen BK173.out 0; have hfz9_1 := blk_frozen BK173.out 1; have hfz9_2 := blk_frozen BK173.out 2))
      have n0_ : Aside0 ((((w8.setCell ⟨gb173, 0, none⟩ (.bool t174)).setCell ⟨gb173, 1, none⟩ (.string t175)).setCell ⟨gb173, 2, none⟩ (.int .i64 t176)).heap[gb173]? = some (.cells #[.bool t174, .string t175, .int .i64 t176] 24 (0, 0))) := ⟨by (with_reducible repeat (first | refine blk_drewN ?_ _ | refine blk_drew ?_ | refine blk_alloc ?_ _)); refine blk_put (cs := #[.bool t174, .string t175, .int .i64 a0_2]) ?_ 2 _ rfl; (with_reducible repeat (first | refine blk_drewN ?_ _ | refine blk_drew ?_ | refine blk_alloc ?_ _)); refine blk_put (cs := #[.bool t174, .string a0_1, .int .i64 a0_2]) ?_ 1 _ rfl; (with_reducible repeat (first | refine blk_drewN ?_ _ | refine blk_drew ?_ | refine blk_alloc ?_ _)); refine blk_put (cs := #[.bool a0_0, .string a0_1, .int .i64 a0_2]) ?_ 0 _ rfl; (with_reducible repeat (first | refine blk_drewN ?_ _ | refine blk_drew ?_ | refine blk_alloc ?_ _)); exact BK173.out⟩
      have n1_ : Aside0 (Below w.heap.size w (((w8.setCell ⟨gb173, 0, none⟩ (.bool t174)).setCell ⟨gb173, 1, none⟩ (.string t175)).setCell ⟨gb173, 2, none⟩ (.int .i64 t176))) := (bl_ HB)
      (try clear BK173)
      (try clear HB)
      generalize (((w8.setCell ⟨gb173, 0, none⟩ (.bool t174)).setCell ⟨gb173, 1, none⟩ (.string t175)).setCell ⟨gb173, 2, none⟩ (.int .i64 t176)) = w10 at n0_ n1_ ⊢
      have BK173 := n0_
      have HB := n1_
      clear n0_ n1_
      have n0_ := Aside0.mk (blk_drew BK173.out)
      have n1_ := Aside0.mk (below_drew1 HB.out)
      clear BK173
      clear HB
      have BK173 := n0_
      have HB := n1_
      clear n0_ n1_
      refine start_ (n := 8) (S := fun w' => w'.cell? ⟨gb173, 0, none⟩ = some (.bool t174) ∧ w'.cell? ⟨gb173, 1, none⟩ = some (.string t175) ∧ w'.cell? ⟨gb173, 2, none⟩ = some (.int .i64 t176)) (ds := []) #[false, false, false, false, false, false, false, false] (by kernel_rfl) rfl rfl ⟨(blk_cell BK173.out 0).trans rfl, (blk_cell BK173.out 1).trans rfl, (blk_cell BK173.out 2).trans rfl⟩ (fun hHeld => ?_); refine with_tabW dec_Dec_Parts.tab3 dec_Dec_Parts.bits3 (fun HT_ HW_ => ?_)
      generalize w10.drew = w11 at BK173 HB hHeld ⊢
      refine pu_ 0 11 #[true, false, false, false, false, false, false, false] HT_ ?_
      refine pu_ 2 13 #[true, false, true, false, false, false, false, false] HT_ ?_
      refine tk_ 1 12 #[true, true, true, false, false, false, false, false] HT_ HW_ hHeld rfl (by rintro w' ⟨s0, s1, s2⟩; go_simp; with_reducible rfl) ?_
      refine tk_ 3 14 #[true, true, true, true, false, false, false, false] HT_ HW_ hHeld rfl (by rintro w' ⟨s0, s1, s2⟩; go_simp; with_reducible rfl) ?_
      refine one_ (i := 4) (N := some 15) #[true, true, true, true, true, false, false, false] rfl rfl (one_of HT_.out (by kernel_rfl)) (by decide) (fun K hK => ?_)
      refine goes_ Tryd.func46 (by kernel_rfl) rfl #[.int .i64 t176] (by rfl) rfl rfl (by (try simp only [List.map_toArray, List.map_cons, List.map_nil]); first | done | rfl | (simp only [List.length_drop, List.length_take]; rfl) | (have z_ : ∀ s_ : ByteArray, s_.size ≤ 9223372036854775807 → -(s_.size : Int) = wrap64 (-(s_.size : Int)) := (fun s_ h_ => by unfold wrap64; omega); rw [← z_ _ (by omega)]; rfl)) ?_
      with_reducible refine (num_Zeros.calls t176 t177 _ A4.out).mono ?_
      rintro e w12 ⟨rfl, hb⟩
      refine ⟨_, rfl, ?_⟩
      have n0_ := bb_ BK173 hb
      have n1_ := Aside0.mk (below_step (bl_ HB).out hb)
      clear BK173
      clear HB
      have BK173 := n0_
      have HB := n1_
      clear n0_ n1_
      (try clear hb)
      (try clear hb2)
      (try clear hk)
      (try clear hi)
      refine hK.out _ _ ⟨(blk_cell BK173.out 0).trans rfl, (blk_cell BK173.out 1).trans rfl, (blk_cell BK173.out 2).trans rfl⟩ (fun hHeld => ?_)
      clear hK K
      refine norm_ (a' := ?_) ?_ ?_
      rotate_left
      · show Act.put _ (some 15) _ = _
        simp only [Act.put, List.setIfInBounds_toArray, List.set_cons_zero, List.set_cons_succ, i64_w, i32_w]
        rfl
      refine pu_ 5 16 #[true, true, true, true, true, true, false, false] HT_ ?_
      refine pu_ 6 2 #[true, true, true, true, true, true, true, false] HT_ ?_
      refine pu_ 7 3 #[true, true, true, true, true, true, true, true] HT_ ?_
      refine done_ (done_of HT_.out (by kernel_rfl)) ?_
      try go_wp2
      go_ret2
      exact ⟨by first | rfl | (simp [errW_none, errW_some] <;> rfl) | (simp [*, errW_none, errW_some] <;> first | rfl | exact given_isEmpty _ | exact (given_isEmpty _).symm), by repeat (first | (with_reducible first | exact HB.out | apply below_alloc | apply pw_below_drewN | apply below_drew1 | refine below_set ?_ GE173.out) | exact HB.out)⟩
    · rw [if_neg c5] at H
      exact absurd H (by simp)
  · rw [if_neg c3] at H
    have c3b0 : decide (0 ≤ t176) = false := decide_eq_false c3
    clear c3
    replace H := Option.bind_eq_some_iff.mp H
    obtain ⟨t178, A130, H⟩ := H
    replace H : (if t178.size + t175.size ≤ 9223372036854775807 then (if 0 ≤ (wrap64 (((t178 ++ t175).size : Int) + t176)) then (if (wrap64 (((t178 ++ t175).size : Int) + t176)) ≤ ((t178 ++ t175).size : Int) then ((num_Trim.f k ((t178 ++ t175).extract 0 ((wrap64 (((t178 ++ t175).size : Int) + t176)) : Int).toNat)).bind fun t179 => (some (t179, (t178 ++ t175).extract ((wrap64 (((t178 ++ t175).size : Int) + t176)) : Int).toNat (t178 ++ t175).size))) else (none)) else (none)) else (none)) = some (r1, r2) := H
    have A13 := Aside0.mk A130
    clear A130
    by_cases c14 : t178.size + t175.size ≤ 9223372036854775807
    · rw [if_pos c14] at H
      have c14b0 := eq_true c14
      have c14b1 : decide (t178.size + t175.size ≤ 9223372036854775807) = true := decide_eq_true c14
      try have c14b2 : (9223372036854775807 < t178.size + t175.size) = False := eq_false (Nat.not_lt.2 c14)
      obtain ⟨ji15, hji15⟩ : ∃ j_ : Int, (wrap64 (((t178 ++ t175).size : Int) + t176)) = j_ := ⟨_, rfl⟩
      replace H : (if 0 ≤ (ji15) then (if (ji15) ≤ ((t178 ++ t175).size : Int) then ((num_Trim.f k ((t178 ++ t175).extract 0 ((ji15) : Int).toNat)).bind fun t179 => (some (t179, (t178 ++ t175).extract ((ji15) : Int).toNat (t178 ++ t175).size))) else (none)) else (none)) = some (r1, r2) := by first | (rw [hji15] at H; exact H) | (simp only [hji15] at H ⊢; exact H)
      (try rw [hji15] at A2)
      (try rw [hji15] at A13)
      have hji15w : (IntKind.i64.wrap (((t178 ++ t175).size : Int) + t176)) = ji15 := (i64_w _).trans hji15
      try (have hji15s := hji15; simp only [ByteArray.size_append, Int.natCast_add] at hji15s)
      try (have hji15s := hji15; simp only [ByteArray.size_append, Int.natCast_add] at hji15s)
      by_cases c16 : 0 ≤ (ji15)
      · rw [if_pos c16] at H
        have c16b0 := eq_true c16
        have c16b1 : decide (0 ≤ (ji15)) = true := decide_eq_true c16
        clear c16
        by_cases c17 : (ji15) ≤ ((t178 ++ t175).size : Int)
        · rw [if_pos c17] at H
          have c17b0 := eq_true c17
          have c17b1 : decide ((ji15) ≤ ((t178 ++ t175).size : Int)) = true := decide_eq_true c17
          try (have c17b5 := c17b0; simp only [ByteArray.size_append, Int.natCast_add] at c17b5)
          replace H := Option.bind_eq_some_iff.mp H
          obtain ⟨t179, A180, H⟩ := H
          replace H : (some (t179, (t178 ++ t175).extract ((ji15) : Int).toNat (t178 ++ t175).size)) = some (r1, r2) := H
          have A18 := Aside0.mk A180
          clear A180
          have c19b0 := eq_true (of_decide_eq_true (by first | (with_reducible assumption) | assumption) : 0 ≤ (ji15))
          have c20b0 := eq_true (of_decide_eq_true (by first | (with_reducible assumption) | assumption) : (ji15) ≤ ((t178 ++ t175).size : Int))
          simp only [Option.some.injEq, Prod.mk.injEq] at H
          obtain ⟨rfl, rfl⟩ := H
          go_enter Tryd.func20, Tryd.ntmps20
          try go_wp2_with (first | ((with_reducible refine gate_dst (N := 1) rfl ?_); refine box_event ?hg (N := 1) ?hd (cs := #[.bool a0_0, .string a0_1, .int .i64 a0_2]) (t := 24) ?hr ?_; (case hd => rfl); (case hg => rfl); (case hr => first | (go_simp; done) | (go_simp; rfl)); intro gb173 hg w21 hbox hb; have n0_ := Aside0.mk (below_step (bl_ HB).out hb); have n1_ := Aside0.mk (hbox); have n2_ := Aside0.mk ((by rw [hg]; exact (below_size (bl_ HB).out) : w.heap.size ≤ gb173)); have n3_ := Aside0.mk ((by rw [hg]; exact (below_size (bl_ HB).out) : w.heap.size ≤ gb173)); clear HB; have HB := n0_; have BK173 := n1_; have GW173 := n2_; have GE173 := n3_; clear n0_ n1_ n2_ n3_; clear hb hbox hg; have hcz22_0 : w21.cell? ⟨gb173, 0, none⟩ = some (.bool a0_0) := (blk_cell BK173.out 0).trans rfl; have hcz22_1 : w21.cell? ⟨gb173, 1, none⟩ = some (.string a0_1) := (blk_cell BK173.out 1).trans rfl; have hcz22_2 : w21.cell? ⟨gb173, 2, none⟩ = some (.int .i64 a0_2) := (blk_cell BK173.out 2).trans rfl; have hfz22_0 := blk_frozen BK173.out 0; have hfz22_1 := blk_frozen BK173.out 1; have hfz22_2 := blk_frozen BK173.out 2) | ((with_reducible refine gate_callee (f := 19) rfl ?_); refine goesL_ (some 7) rfl rfl Tryd.func19 (by kernel_rfl) rfl #[.agg #[.bool a0_0, .string a0_1, .int .i64 a0_2]] rfl (by (try simp only [List.map_toArray, List.map_cons, List.map_nil]); first | done | rfl | (simp only [List.length_drop, List.length_take]; rfl) | (have z_ : ∀ s_ : ByteArray, s_.size ≤ 9223372036854775807 → -(s_.size : Int) = wrap64 (-(s_.size : Int)) := (fun s_ h_ => by unfold wrap64; omega); rw [← z_ _ (by omega)]; rfl)) ?_; (with_reducible refine (dec_Dec_Norm.calls k a0_0 a0_1 a0_2 t174 t175 t176 _ A2.out).mono ?_); rintro e w23 ⟨rfl, hb⟩; refine ⟨_, rfl, ?_⟩; have n0_ := bb_ BK173 hb; have n1_ := Aside0.mk (below_step (bl_ HB).out hb); clear BK173; clear HB; have BK173 := n0_; have HB := n1_; clear n0_ n1_; (try clear hb); (try clear hb2); (try clear hk); (try clear hi); have hcz24_0 : w23.cell? ⟨gb173, 0, none⟩ = some (.bool a0_0) := (blk_cell BK173.out 0).trans rfl; have hcz24_1 : w23.cell? ⟨gb173, 1, none⟩ = some (.string a0_1) := (blk_cell BK173.out 1).trans rfl; have hcz24_2 : w23.cell? ⟨gb173, 2, none⟩ = some (.int .i64 a0_2) := (blk_cell BK173.out 2).trans rfl; have hfz24_0 := blk_frozen BK173.out 0; have hfz24_1 := blk_frozen BK173.out 1; have hfz24_2 := blk_frozen BK173.out 2))
          have n0_ : Aside0 ((((w23.setCell ⟨gb173, 0, none⟩ (.bool t174)).setCell ⟨gb173, 1, none⟩ (.string t175)).setCell ⟨gb173, 2, none⟩ (.int .i64 t176)).heap[gb173]? = some (.cells #[.bool t174, .string t175, .int .i64 t176] 24 (0, 0))) := ⟨by (with_reducible repeat (first | refine blk_drewN ?_ _ | refine blk_drew ?_ | refine blk_alloc ?_ _)); refine blk_put (cs := #[.bool t174, .string t175, .int .i64 a0_2]) ?_ 2 _ rfl; (with_reducible repeat (first | refine blk_drewN ?_ _ | refine blk_drew ?_ | refine blk_alloc ?_ _)); refine blk_put (cs := #[.bool t174, .string a0_1, .int .i64 a0_2]) ?_ 1 _ rfl; (with_reducible repeat (first | refine blk_drewN ?_ _ | refine blk_drew ?_ | refine blk_alloc ?_ _)); refine blk_put (cs := #[.bool a0_0, .string a0_1, .int .i64 a0_2]) ?_ 0 _ rfl; (with_reducible repeat (first | refine blk_drewN ?_ _ | refine blk_drew ?_ | refine blk_alloc ?_ _)); exact BK173.out⟩
          have n1_ : Aside0 (Below w.heap.size w (((w23.setCell ⟨gb173, 0, none⟩ (.bool t174)).setCell ⟨gb173, 1, none⟩ (.string t175)).setCell ⟨gb173, 2, none⟩ (.int .i64 t176))) := (bl_ HB)
          (try clear BK173)
          (try clear HB)
          generalize (((w23.setCell ⟨gb173, 0, none⟩ (.bool t174)).setCell ⟨gb173, 1, none⟩ (.string t175)).setCell ⟨gb173, 2, none⟩ (.int .i64 t176)) = w25 at n0_ n1_ ⊢
          have BK173 := n0_
          have HB := n1_
          clear n0_ n1_
          have n0_ := Aside0.mk (blk_drew BK173.out)
          have n1_ := Aside0.mk (below_drew1 HB.out)
          clear BK173
          clear HB
          have BK173 := n0_
          have HB := n1_
          clear n0_ n1_
          refine start_ (n := 12) (S := fun w' => w'.cell? ⟨gb173, 0, none⟩ = some (.bool t174) ∧ w'.cell? ⟨gb173, 1, none⟩ = some (.string t175) ∧ w'.cell? ⟨gb173, 2, none⟩ = some (.int .i64 t176)) (ds := []) #[false, false, false, false, false, false, false, false, false, false, false, false] (by kernel_rfl) rfl rfl ⟨(blk_cell BK173.out 0).trans rfl, (blk_cell BK173.out 1).trans rfl, (blk_cell BK173.out 2).trans rfl⟩ (fun hHeld => ?_); refine with_tabW dec_Dec_Parts.tab4 dec_Dec_Parts.bits4 (fun HT_ HW_ => ?_)
          generalize w25.drew = w26 at BK173 HB hHeld ⊢
          refine pu_ 0 17 (bm_ 12 1) HT_ ?_
          refine pu_ 3 20 (bm_ 12 9) HT_ ?_
          refine pu_ 8 25 (bm_ 12 265) HT_ ?_
          refine tk_ 1 18 (bm_ 12 267) HT_ HW_ hHeld rfl (by rintro w' ⟨s0, s1, s2⟩; go_simp; with_reducible rfl) ?_
          refine pu_ 2 19 (bm_ 12 271) HT_ ?_
          refine tk_ 4 21 (bm_ 12 287) HT_ HW_ hHeld rfl (by rintro w' ⟨s0, s1, s2⟩; go_simp; with_reducible rfl) ?_
          refine pu_ 5 22 (bm_ 12 319) HT_ ?_
          refine pu_ 6 23 (bm_ 12 383) HT_ ?_
          refine tk_ 9 26 (bm_ 12 895) HT_ HW_ hHeld rfl (by rintro w' ⟨s0, s1, s2⟩; go_simp; with_reducible rfl) ?_
          refine one_ (i := 7) (N := some 24) (bm_ 12 1023) rfl rfl (one_of HT_.out (by kernel_rfl)) (by decide) (fun K hK => ?_)
          refine goes_ Tryd.func46 (by kernel_rfl) rfl #[.int .i64 (wrap64 ((wrap64 (-t176)) - (t175.size : Int)))] (by rfl) rfl rfl (by (try simp only [List.map_toArray, List.map_cons, List.map_nil]); first | done | rfl | (simp only [List.length_drop, List.length_take]; rfl) | (have z_ : ∀ s_ : ByteArray, s_.size ≤ 9223372036854775807 → -(s_.size : Int) = wrap64 (-(s_.size : Int)) := (fun s_ h_ => by unfold wrap64; omega); rw [← z_ _ (by omega)]; rfl)) ?_
          with_reducible refine (num_Zeros.calls (wrap64 ((wrap64 (-t176)) - (t175.size : Int))) t178 _ A13.out).mono ?_
          rintro e w27 ⟨rfl, hb⟩
          refine ⟨_, rfl, ?_⟩
          have n0_ := bb_ BK173 hb
          have n1_ := Aside0.mk (below_step (bl_ HB).out hb)
          clear BK173
          clear HB
          have BK173 := n0_
          have HB := n1_
          clear n0_ n1_
          (try clear hb)
          (try clear hb2)
          (try clear hk)
          (try clear hi)
          refine hK.out _ _ ⟨(blk_cell BK173.out 0).trans rfl, (blk_cell BK173.out 1).trans rfl, (blk_cell BK173.out 2).trans rfl⟩ (fun hHeld => ?_)
          clear hK K
          refine norm_ (a' := ?_) ?_ ?_
          rotate_left
          · show Act.put _ (some 24) _ = _
            simp only [Act.put, List.setIfInBounds_toArray, List.set_cons_zero, List.set_cons_succ, i64_w, i32_w]
            rfl
          refine pu_ 10 27 (bm_ 12 2047) HT_ ?_
          refine pu_ 11 4 (bm_ 12 4095) HT_ ?_
          refine done_ (done_of HT_.out (by kernel_rfl)) ?_
          have hcz28_0 : w27.cell? ⟨gb173, 0, none⟩ = some (.bool t174) := (blk_cell BK173.out 0).trans rfl
          have hcz28_1 : w27.cell? ⟨gb173, 1, none⟩ = some (.string t175) := (blk_cell BK173.out 1).trans rfl
          have hcz28_2 : w27.cell? ⟨gb173, 2, none⟩ = some (.int .i64 t176) := (blk_cell BK173.out 2).trans rfl
          have hfz28_0 := blk_frozen BK173.out 0
          have hfz28_1 := blk_frozen BK173.out 1
          have hfz28_2 := blk_frozen BK173.out 2
          try go_wp2
          have n0_ := Aside0.mk (blk_drew BK173.out)
          have n1_ := Aside0.mk (below_drew1 HB.out)
          clear BK173
          clear HB
          have BK173 := n0_
          have HB := n1_
          clear n0_ n1_
          refine start_ (n := 9) (S := fun w' => True) (ds := []) #[false, false, false, false, false, false, false, false, false] (by kernel_rfl) rfl rfl trivial (fun hHeld => ?_); refine with_tabW dec_Dec_Parts.tab6 dec_Dec_Parts.bits6 (fun HT_ HW_ => ?_)
          generalize w27.drew = w29 at BK173 HB hHeld ⊢
          refine pu_ 0 33 #[true, false, false, false, false, false, false, false, false] HT_ ?_
          refine pu_ 1 34 #[true, true, false, false, false, false, false, false, false] HT_ ?_
          refine pu_ 2 35 #[true, true, true, false, false, false, false, false, false] HT_ ?_
          refine pu_ 4 37 #[true, true, true, false, true, false, false, false, false] HT_ ?_
          refine pu_ 5 38 #[true, true, true, false, true, true, false, false, false] HT_ ?_
          refine pu_ 6 39 #[true, true, true, false, true, true, true, false, false] HT_ ?_
          refine one_ (i := 3) (N := some 36) #[true, true, true, true, true, true, true, false, false] rfl rfl (one_of HT_.out (by kernel_rfl)) (by decide) (fun K hK => ?_)
          refine goes_ Tryd.func21 (by kernel_rfl) rfl #[.string ((t178 ++ t175).extract 0 ((ji15) : Int).toNat)] (by rfl) rfl rfl (by (try simp only [List.map_toArray, List.map_cons, List.map_nil]); first | done | (simp only [hji15]; rfl) | rfl | (simp only [List.length_drop, List.length_take]; rfl) | (have z_ : ∀ s_ : ByteArray, s_.size ≤ 9223372036854775807 → -(s_.size : Int) = wrap64 (-(s_.size : Int)) := (fun s_ h_ => by unfold wrap64; omega); rw [← z_ _ (by omega)]; rfl)) ?_
          with_reducible refine (num_Trim.calls k ((t178 ++ t175).extract 0 ((ji15) : Int).toNat) t179 _ A18.out).mono ?_
          rintro e w' ⟨rfl, ⟨nd, rfl⟩⟩
          refine ⟨_, rfl, ?_⟩
          refine hK.out _ _ trivial (fun hHeld => ?_)
          clear hK K
          refine norm_ (a' := ?_) ?_ ?_
          rotate_left
          · show Act.put _ (some 36) _ = _
            simp only [Act.put, List.setIfInBounds_toArray, List.set_cons_zero, List.set_cons_succ, i64_w, i32_w]
            rfl
          refine pu_ 7 2 #[true, true, true, true, true, true, true, true, false] HT_ ?_
          refine pu_ 8 3 #[true, true, true, true, true, true, true, true, true] HT_ ?_
          refine done_ (done_of HT_.out (by kernel_rfl)) ?_
          try go_wp2
          go_ret2
          exact ⟨by first | rfl | (simp [errW_none, errW_some] <;> rfl) | (simp only [← hji15]; first | rfl | (simp [errW_none, errW_some] <;> rfl)) | (simp [*, errW_none, errW_some] <;> first | rfl | exact given_isEmpty _ | exact (given_isEmpty _).symm), by repeat (first | (with_reducible first | exact HB.out | apply below_alloc | apply pw_below_drewN | apply below_drew1 | refine below_set ?_ GE173.out) | exact HB.out)⟩
        · rw [if_neg c17] at H
          exact absurd H (by simp)
      · rw [if_neg c16] at H
        exact absurd H (by simp)
    · rw [if_neg c14] at H
      exact absurd H (by simp)

/-! ### dec_Dec_Plain: function 16 -/
def dec_Dec_Plain.f (k : Nat) (a0_0 : Bool) (a0_1 : ByteArray) (a0_2 : Int) : Option (ByteArray) := (dec_Dec_Norm.f k a0_0 a0_1 a0_2).bind fun bt181 => ((dec_Dec_Parts.f k bt181.1 bt181.2.1 bt181.2.2).bind fun bt184 => (if bt184.1.toList = ([] : List UInt8) then (if bt184.2.toList = ([] : List UInt8) then ((dec_Dec_sign.f bt181.1 bt181.2.1 bt181.2.2).bind fun t186 => (if t186.size + 1 ≤ 9223372036854775807 then (if (t186 ++ (⟨#[48]⟩ : ByteArray)).size + bt184.2.size ≤ 9223372036854775807 then (some ((t186 ++ (⟨#[48]⟩ : ByteArray)) ++ bt184.2)) else (none)) else (none))) else (if 1 + bt184.2.size ≤ 9223372036854775807 then ((dec_Dec_sign.f bt181.1 bt181.2.1 bt181.2.2).bind fun t187 => (if t187.size + 1 ≤ 9223372036854775807 then (if (t187 ++ (⟨#[48]⟩ : ByteArray)).size + ((⟨#[46]⟩ : ByteArray) ++ bt184.2).size ≤ 9223372036854775807 then (some ((t187 ++ (⟨#[48]⟩ : ByteArray)) ++ ((⟨#[46]⟩ : ByteArray) ++ bt184.2))) else (none)) else (none))) else (none))) else (if bt184.2.toList = ([] : List UInt8) then ((dec_Dec_sign.f bt181.1 bt181.2.1 bt181.2.2).bind fun t188 => (if t188.size + bt184.1.size ≤ 9223372036854775807 then (if (t188 ++ bt184.1).size + bt184.2.size ≤ 9223372036854775807 then (some ((t188 ++ bt184.1) ++ bt184.2)) else (none)) else (none))) else (if 1 + bt184.2.size ≤ 9223372036854775807 then ((dec_Dec_sign.f bt181.1 bt181.2.1 bt181.2.2).bind fun t189 => (if t189.size + bt184.1.size ≤ 9223372036854775807 then (if (t189 ++ bt184.1).size + ((⟨#[46]⟩ : ByteArray) ++ bt184.2).size ≤ 9223372036854775807 then (some ((t189 ++ bt184.1) ++ ((⟨#[46]⟩ : ByteArray) ++ bt184.2))) else (none)) else (none))) else (none)))))
theorem dec_Dec_Plain.mono : ∀ a0 a1 a2 k, LeO (dec_Dec_Plain.f k a0 a1 a2) (dec_Dec_Plain.f (k + 1) a0 a1 a2) := by
  intro a0 a1 a2 k
  unfold dec_Dec_Plain.f
  repeat' first
      | (with_reducible exact dec_Dec_Norm.mono _ _ _ _)
      | (with_reducible exact dec_Dec_Parts.mono _ _ _ _)
      | (with_reducible exact LeO.refl _)
      | (with_reducible exact LeO.none _)
      | (with_reducible refine LeO.ite ?_ ?_)
      | (with_reducible refine LeO.bind ?_ (fun _ => ?_))
      | exact dec_Dec_Norm.mono _ _ _ _
      | exact dec_Dec_Parts.mono _ _ _ _
      | exact LeO.none _
      | refine LeO.ite ?_ ?_
      | refine LeO.bind ?_ (fun _ => ?_)
set_option maxHeartbeats 8000000 in
set_option maxRecDepth 100000 in
theorem dec_Dec_Plain.calls (k : Nat) (a0_0 : Bool) (a0_1 : ByteArray) (a0_2 : Int) (r : ByteArray) (w : World) (h : dec_Dec_Plain.f k a0_0 a0_1 a0_2 = some r) :
    Calls Tryd.prog 16 #[.agg #[.bool a0_0, .string a0_1, .int .i64 a0_2]] w fun e w' => e = .returned (.string r) ∧ Below w.heap.size w w' := by
  have hu24 := Tryd.underlying24
  have HB := Aside0.mk (Below.refl w.heap.size w)
  have H : ((dec_Dec_Norm.f k a0_0 a0_1 a0_2).bind fun bt181 => ((dec_Dec_Parts.f k bt181.1 bt181.2.1 bt181.2.2).bind fun bt184 => (if bt184.1.toList = ([] : List UInt8) then (if bt184.2.toList = ([] : List UInt8) then ((dec_Dec_sign.f bt181.1 bt181.2.1 bt181.2.2).bind fun t186 => (if t186.size + 1 ≤ 9223372036854775807 then (if (t186 ++ (⟨#[48]⟩ : ByteArray)).size + bt184.2.size ≤ 9223372036854775807 then (some ((t186 ++ (⟨#[48]⟩ : ByteArray)) ++ bt184.2)) else (none)) else (none))) else (if 1 + bt184.2.size ≤ 9223372036854775807 then ((dec_Dec_sign.f bt181.1 bt181.2.1 bt181.2.2).bind fun t187 => (if t187.size + 1 ≤ 9223372036854775807 then (if (t187 ++ (⟨#[48]⟩ : ByteArray)).size + ((⟨#[46]⟩ : ByteArray) ++ bt184.2).size ≤ 9223372036854775807 then (some ((t187 ++ (⟨#[48]⟩ : ByteArray)) ++ ((⟨#[46]⟩ : ByteArray) ++ bt184.2))) else (none)) else (none))) else (none))) else (if bt184.2.toList = ([] : List UInt8) then ((dec_Dec_sign.f bt181.1 bt181.2.1 bt181.2.2).bind fun t188 => (if t188.size + bt184.1.size ≤ 9223372036854775807 then (if (t188 ++ bt184.1).size + bt184.2.size ≤ 9223372036854775807 then (some ((t188 ++ bt184.1) ++ bt184.2)) else (none)) else (none))) else (if 1 + bt184.2.size ≤ 9223372036854775807 then ((dec_Dec_sign.f bt181.1 bt181.2.1 bt181.2.2).bind fun t189 => (if t189.size + bt184.1.size ≤ 9223372036854775807 then (if (t189 ++ bt184.1).size + ((⟨#[46]⟩ : ByteArray) ++ bt184.2).size ≤ 9223372036854775807 then (some ((t189 ++ bt184.1) ++ ((⟨#[46]⟩ : ByteArray) ++ bt184.2))) else (none)) else (none))) else (none)))))) = some r := h
  clear h
  replace H := Option.bind_eq_some_iff.mp H
  obtain ⟨⟨t181, t182, t183⟩, A20, H⟩ := H
  replace H : ((dec_Dec_Parts.f k t181 t182 t183).bind fun bt184 => (if bt184.1.toList = ([] : List UInt8) then (if bt184.2.toList = ([] : List UInt8) then ((dec_Dec_sign.f t181 t182 t183).bind fun t186 => (if t186.size + 1 ≤ 9223372036854775807 then (if (t186 ++ (⟨#[48]⟩ : ByteArray)).size + bt184.2.size ≤ 9223372036854775807 then (some ((t186 ++ (⟨#[48]⟩ : ByteArray)) ++ bt184.2)) else (none)) else (none))) else (if 1 + bt184.2.size ≤ 9223372036854775807 then ((dec_Dec_sign.f t181 t182 t183).bind fun t187 => (if t187.size + 1 ≤ 9223372036854775807 then (if (t187 ++ (⟨#[48]⟩ : ByteArray)).size + ((⟨#[46]⟩ : ByteArray) ++ bt184.2).size ≤ 9223372036854775807 then (some ((t187 ++ (⟨#[48]⟩ : ByteArray)) ++ ((⟨#[46]⟩ : ByteArray) ++ bt184.2))) else (none)) else (none))) else (none))) else (if bt184.2.toList = ([] : List UInt8) then ((dec_Dec_sign.f t181 t182 t183).bind fun t188 => (if t188.size + bt184.1.size ≤ 9223372036854775807 then (if (t188 ++ bt184.1).size + bt184.2.size ≤ 9223372036854775807 then (some ((t188 ++ bt184.1) ++ bt184.2)) else (none)) else (none))) else (if 1 + bt184.2.size ≤ 9223372036854775807 then ((dec_Dec_sign.f t181 t182 t183).bind fun t189 => (if t189.size + bt184.1.size ≤ 9223372036854775807 then (if (t189 ++ bt184.1).size + ((⟨#[46]⟩ : ByteArray) ++ bt184.2).size ≤ 9223372036854775807 then (some ((t189 ++ bt184.1) ++ ((⟨#[46]⟩ : ByteArray) ++ bt184.2))) else (none)) else (none))) else (none))))) = some r := H
  have A2 := Aside0.mk A20
  clear A20
  replace H := Option.bind_eq_some_iff.mp H
  obtain ⟨⟨t184, t185⟩, A30, H⟩ := H
  replace H : (if t184.toList = ([] : List UInt8) then (if t185.toList = ([] : List UInt8) then ((dec_Dec_sign.f t181 t182 t183).bind fun t186 => (if t186.size + 1 ≤ 9223372036854775807 then (if (t186 ++ (⟨#[48]⟩ : ByteArray)).size + t185.size ≤ 9223372036854775807 then (some ((t186 ++ (⟨#[48]⟩ : ByteArray)) ++ t185)) else (none)) else (none))) else (if 1 + t185.size ≤ 9223372036854775807 then ((dec_Dec_sign.f t181 t182 t183).bind fun t187 => (if t187.size + 1 ≤ 9223372036854775807 then (if (t187 ++ (⟨#[48]⟩ : ByteArray)).size + ((⟨#[46]⟩ : ByteArray) ++ t185).size ≤ 9223372036854775807 then (some ((t187 ++ (⟨#[48]⟩ : ByteArray)) ++ ((⟨#[46]⟩ : ByteArray) ++ t185))) else (none)) else (none))) else (none))) else (if t185.toList = ([] : List UInt8) then ((dec_Dec_sign.f t181 t182 t183).bind fun t188 => (if t188.size + t184.size ≤ 9223372036854775807 then (if (t188 ++ t184).size + t185.size ≤ 9223372036854775807 then (some ((t188 ++ t184) ++ t185)) else (none)) else (none))) else (if 1 + t185.size ≤ 9223372036854775807 then ((dec_Dec_sign.f t181 t182 t183).bind fun t189 => (if t189.size + t184.size ≤ 9223372036854775807 then (if (t189 ++ t184).size + ((⟨#[46]⟩ : ByteArray) ++ t185).size ≤ 9223372036854775807 then (some ((t189 ++ t184) ++ ((⟨#[46]⟩ : ByteArray) ++ t185))) else (none)) else (none))) else (none)))) = some r := H
  have A3 := Aside0.mk A30
  clear A30
  by_cases c4 : t184.toList = ([] : List UInt8)
  · rw [if_pos c4] at H
    have c4b0 : (t184.toList == ([] : List UInt8)) = true := beq_iff_eq.mpr c4
    have c4b1 : (t184.toList != ([] : List UInt8)) = false := bne_eq_false_iff_eq.mpr c4
    have c4b2 : (t184.toList.isEmpty) = true := by rw [c4]; rfl
    clear c4
    by_cases c5 : t185.toList = ([] : List UInt8)
    · rw [if_pos c5] at H
      have c5b0 : (t185.toList == ([] : List UInt8)) = true := beq_iff_eq.mpr c5
      have c5b1 : (t185.toList != ([] : List UInt8)) = false := bne_eq_false_iff_eq.mpr c5
      have c5b2 : (t185.toList.isEmpty) = true := by rw [c5]; rfl
      clear c5
      replace H := Option.bind_eq_some_iff.mp H
      obtain ⟨t186, A60, H⟩ := H
      replace H : (if t186.size + 1 ≤ 9223372036854775807 then (if (t186 ++ (⟨#[48]⟩ : ByteArray)).size + t185.size ≤ 9223372036854775807 then (some ((t186 ++ (⟨#[48]⟩ : ByteArray)) ++ t185)) else (none)) else (none)) = some r := H
      have A6 := Aside0.mk A60
      clear A60
      by_cases c7 : t186.size + 1 ≤ 9223372036854775807
      · rw [if_pos c7] at H
        have c7b0 := eq_true c7
        have c7b1 : decide (t186.size + 1 ≤ 9223372036854775807) = true := decide_eq_true c7
        try have c7b2 : (9223372036854775807 < t186.size + 1) = False := eq_false (Nat.not_lt.2 c7)
        by_cases c8 : (t186 ++ (⟨#[48]⟩ : ByteArray)).size + t185.size ≤ 9223372036854775807
        · rw [if_pos c8] at H
          have c8b0 := eq_true c8
          have c8b1 : decide ((t186 ++ (⟨#[48]⟩ : ByteArray)).size + t185.size ≤ 9223372036854775807) = true := decide_eq_true c8
          try (have c8b5 := c8b0; simp only [ByteArray.size_append, Int.natCast_add] at c8b5)
          try have c8b2 : (9223372036854775807 < (t186 ++ (⟨#[48]⟩ : ByteArray)).size + t185.size) = False := eq_false (Nat.not_lt.2 c8)
          try have c8b3 : (9223372036854775807 < t186.size + 1 + t185.size) = False := eq_false (Nat.not_lt.2 (by have h_ := c8; simp only [ByteArray.size_append] at h_; exact h_))
          try have c8b4 : (t186.size + 1 + t185.size ≤ 9223372036854775807) = True := eq_true (by have h_ := c8; simp only [ByteArray.size_append] at h_; exact h_)
          obtain rfl := Option.some.inj H
          go_enter Tryd.func16, Tryd.ntmps16
          go_wp2_with (first | ((with_reducible refine gate_dst (N := 1) rfl ?_); refine box_event ?hg (N := 1) ?hd (cs := #[.bool a0_0, .string a0_1, .int .i64 a0_2]) (t := 24) ?hr ?_; (case hd => rfl); (case hg => rfl); (case hr => first | (go_simp; done) | (go_simp; rfl)); intro gb180 hg w9 hbox hb; have n0_ := Aside0.mk (below_step (bl_ HB).out hb); have n1_ := Aside0.mk (hbox); have n2_ := Aside0.mk ((by rw [hg]; exact (below_size (bl_ HB).out) : w.heap.size ≤ gb180)); have n3_ := Aside0.mk ((by rw [hg]; exact (below_size (bl_ HB).out) : w.heap.size ≤ gb180)); clear HB; have HB := n0_; have BK180 := n1_; have GW180 := n2_; have GE180 := n3_; clear n0_ n1_ n2_ n3_; clear hb hbox hg; have hcz10_0 : w9.cell? ⟨gb180, 0, none⟩ = some (.bool a0_0) := (blk_cell BK180.out 0).trans rfl; have hcz10_1 : w9.cell? ⟨gb180, 1, none⟩ = some (.string a0_1) := (blk_cell BK180.out 1).trans rfl; have hcz10_2 : w9.cell? ⟨gb180, 2, none⟩ = some (.int .i64 a0_2) := (blk_cell BK180.out 2).trans rfl; have hfz10_0 := blk_frozen BK180.out 0; have hfz10_1 := blk_frozen BK180.out 1; have hfz10_2 := blk_frozen BK180.out 2) | ((with_reducible refine gate_callee (f := 19) rfl ?_); refine goesL_ (some 6) rfl rfl Tryd.func19 (by kernel_rfl) rfl #[.agg #[.bool a0_0, .string a0_1, .int .i64 a0_2]] rfl (by (try simp only [List.map_toArray, List.map_cons, List.map_nil]); first | done | rfl | (simp only [List.length_drop, List.length_take]; rfl) | (have z_ : ∀ s_ : ByteArray, s_.size ≤ 9223372036854775807 → -(s_.size : Int) = wrap64 (-(s_.size : Int)) := (fun s_ h_ => by unfold wrap64; omega); rw [← z_ _ (by omega)]; rfl)) ?_; (with_reducible refine (dec_Dec_Norm.calls k a0_0 a0_1 a0_2 t181 t182 t183 _ A2.out).mono ?_); rintro e w11 ⟨rfl, hb⟩; refine ⟨_, rfl, ?_⟩; have n0_ := bb_ BK180 hb; have n1_ := Aside0.mk (below_step (bl_ HB).out hb); clear BK180; clear HB; have BK180 := n0_; have HB := n1_; clear n0_ n1_; (try clear hb); (try clear hb2); (try clear hk); (try clear hi); have hcz12_0 : w11.cell? ⟨gb180, 0, none⟩ = some (.bool a0_0) := (blk_cell BK180.out 0).trans rfl; have hcz12_1 : w11.cell? ⟨gb180, 1, none⟩ = some (.string a0_1) := (blk_cell BK180.out 1).trans rfl; have hcz12_2 : w11.cell? ⟨gb180, 2, none⟩ = some (.int .i64 a0_2) := (blk_cell BK180.out 2).trans rfl; have hfz12_0 := blk_frozen BK180.out 0; have hfz12_1 := blk_frozen BK180.out 1; have hfz12_2 := blk_frozen BK180.out 2) | ((with_reducible refine gate_callee (f := 20) rfl ?_); refine goesL_ (some 9) rfl rfl Tryd.func20 (by kernel_rfl) rfl #[.agg #[.bool t181, .string t182, .int .i64 t183]] rfl (by (try simp only [List.map_toArray, List.map_cons, List.map_nil]); first | done | rfl | (simp only [List.length_drop, List.length_take]; rfl) | (have z_ : ∀ s_ : ByteArray, s_.size ≤ 9223372036854775807 → -(s_.size : Int) = wrap64 (-(s_.size : Int)) := (fun s_ h_ => by unfold wrap64; omega); rw [← z_ _ (by omega)]; rfl)) ?_; (with_reducible refine (dec_Dec_Parts.calls k t181 t182 t183 t184 t185 _ A3.out).mono ?_); rintro e w13 ⟨rfl, hb⟩; refine ⟨_, rfl, ?_⟩; have n0_ := Aside0.mk (blk_below (g := gb180) (o := .cells #[.bool t181, .string t182, .int .i64 t183] 24 (0, 0)) (by (with_reducible repeat (first | refine blk_drewN ?_ _ | refine blk_drew ?_ | refine blk_alloc ?_ _)); refine blk_put (cs := #[.bool t181, .string t182, .int .i64 a0_2]) ?_ 2 _ rfl; (with_reducible repeat (first | refine blk_drewN ?_ _ | refine blk_drew ?_ | refine blk_alloc ?_ _)); refine blk_put (cs := #[.bool t181, .string a0_1, .int .i64 a0_2]) ?_ 1 _ rfl; (with_reducible repeat (first | refine blk_drewN ?_ _ | refine blk_drew ?_ | refine blk_alloc ?_ _)); refine blk_put (cs := #[.bool a0_0, .string a0_1, .int .i64 a0_2]) ?_ 0 _ rfl; (with_reducible repeat (first | refine blk_drewN ?_ _ | refine blk_drew ?_ | refine blk_alloc ?_ _)); exact BK180.out) hb); have n1_ := Aside0.mk (below_step (bl_ HB).out hb); clear BK180; clear HB; have BK180 := n0_; have HB := n1_; clear n0_ n1_; (try clear hb); (try clear hb2); (try clear hk); (try clear hi); have hcz14_0 : w13.cell? ⟨gb180, 0, none⟩ = some (.bool t181) := (blk_cell BK180.out 0).trans rfl; have hcz14_1 : w13.cell? ⟨gb180, 1, none⟩ = some (.string t182) := (blk_cell BK180.out 1).trans rfl; have hcz14_2 : w13.cell? ⟨gb180, 2, none⟩ = some (.int .i64 t183) := (blk_cell BK180.out 2).trans rfl; have hfz14_0 := blk_frozen BK180.out 0; have hfz14_1 := blk_frozen BK180.out 1; have hfz14_2 := blk_frozen BK180.out 2) | ((with_reducible refine gate_callee (f := 44) rfl ?_); refine goesL_ (some 19) rfl rfl Tryd.func44 (by kernel_rfl) rfl #[.agg #[.bool t181, .string t182, .int .i64 t183]] rfl (by (try simp only [List.map_toArray, List.map_cons, List.map_nil]); first | done | rfl | (simp only [List.length_drop, List.length_take]; rfl) | (have z_ : ∀ s_ : ByteArray, s_.size ≤ 9223372036854775807 → -(s_.size : Int) = wrap64 (-(s_.size : Int)) := (fun s_ h_ => by unfold wrap64; omega); rw [← z_ _ (by omega)]; rfl)) ?_; (with_reducible refine (dec_Dec_sign.calls t181 t182 t183 t186 _ A6.out).mono ?_); rintro e w15 ⟨rfl, hb⟩; refine ⟨_, rfl, ?_⟩; have n0_ := bb_ BK180 hb; have n1_ := Aside0.mk (below_step (bl_ HB).out hb); clear BK180; clear HB; have BK180 := n0_; have HB := n1_; clear n0_ n1_; (try clear hb); (try clear hb2); (try clear hk); (try clear hi)))
          go_ret
          exact ⟨by first | rfl | (simp [errW_none, errW_some] <;> rfl) | (simp [*, errW_none, errW_some] <;> first | rfl | exact given_isEmpty _ | exact (given_isEmpty _).symm), by repeat (first | (with_reducible first | exact HB.out | apply below_alloc | apply pw_below_drewN | apply below_drew1 | refine below_set ?_ GE180.out) | exact HB.out)⟩
        · rw [if_neg c8] at H
          exact absurd H (by simp)
      · rw [if_neg c7] at H
        exact absurd H (by simp)
    · rw [if_neg c5] at H
      have c5b0 : (t185.toList == ([] : List UInt8)) = false := beq_eq_false_iff_ne.mpr c5
      have c5b1 : (t185.toList != ([] : List UInt8)) = true := bne_iff_ne.mpr c5
      have c5b2 : (t185.toList.isEmpty) = false := by rw [given_isEmpty, bne_iff_ne.mpr c5]; rfl
      by_cases c16 : 1 + t185.size ≤ 9223372036854775807
      · rw [if_pos c16] at H
        have c16b0 := eq_true c16
        have c16b1 : decide (1 + t185.size ≤ 9223372036854775807) = true := decide_eq_true c16
        try have c16b2 : (9223372036854775807 < 1 + t185.size) = False := eq_false (Nat.not_lt.2 c16)
        replace H := Option.bind_eq_some_iff.mp H
        obtain ⟨t187, A170, H⟩ := H
        replace H : (if t187.size + 1 ≤ 9223372036854775807 then (if (t187 ++ (⟨#[48]⟩ : ByteArray)).size + ((⟨#[46]⟩ : ByteArray) ++ t185).size ≤ 9223372036854775807 then (some ((t187 ++ (⟨#[48]⟩ : ByteArray)) ++ ((⟨#[46]⟩ : ByteArray) ++ t185))) else (none)) else (none)) = some r := H
        have A17 := Aside0.mk A170
        clear A170
        by_cases c18 : t187.size + 1 ≤ 9223372036854775807
        · rw [if_pos c18] at H
          have c18b0 := eq_true c18
          have c18b1 : decide (t187.size + 1 ≤ 9223372036854775807) = true := decide_eq_true c18
          try have c18b2 : (9223372036854775807 < t187.size + 1) = False := eq_false (Nat.not_lt.2 c18)
          by_cases c19 : (t187 ++ (⟨#[48]⟩ : ByteArray)).size + ((⟨#[46]⟩ : ByteArray) ++ t185).size ≤ 9223372036854775807
          · rw [if_pos c19] at H
            have c19b0 := eq_true c19
            have c19b1 : decide ((t187 ++ (⟨#[48]⟩ : ByteArray)).size + ((⟨#[46]⟩ : ByteArray) ++ t185).size ≤ 9223372036854775807) = true := decide_eq_true c19
            try (have c19b5 := c19b0; simp only [ByteArray.size_append, Int.natCast_add] at c19b5)
            try have c19b2 : (9223372036854775807 < (t187 ++ (⟨#[48]⟩ : ByteArray)).size + ((⟨#[46]⟩ : ByteArray) ++ t185).size) = False := eq_false (Nat.not_lt.2 c19)
            try have c19b3 : (9223372036854775807 < t187.size + 1 + 1 + t185.size) = False := eq_false (Nat.not_lt.2 (by have h_ := c19; simp only [ByteArray.size_append] at h_; exact h_))
            try have c19b4 : (t187.size + 1 + 1 + t185.size ≤ 9223372036854775807) = True := eq_true (by have h_ := c19; simp only [ByteArray.size_append] at h_; exact h_)
            obtain rfl := Option.some.inj H
            go_enter Tryd.func16, Tryd.ntmps16
            go_wp2_with (first | ((with_reducible refine gate_dst (N := 1) rfl ?_); refine box_event ?hg (N := 1) ?hd (cs := #[.bool a0_0, .string a0_1, .int .i64 a0_2]) (t := 24) ?hr ?_; (case hd => rfl); (case hg => rfl); (case hr => first | (go_simp; done) | (go_simp; rfl)); intro gb180 hg w20 hbox hb; have n0_ := Aside0.mk (below_step (bl_ HB).out hb); have n1_ := Aside0.mk (hbox); have n2_ := Aside0.mk ((by rw [hg]; exact (below_size (bl_ HB).out) : w.heap.size ≤ gb180)); have n3_ := Aside0.mk ((by rw [hg]; exact (below_size (bl_ HB).out) : w.heap.size ≤ gb180)); clear HB; have HB := n0_; have BK180 := n1_; have GW180 := n2_; have GE180 := n3_; clear n0_ n1_ n2_ n3_; clear hb hbox hg; have hcz21_0 : w20.cell? ⟨gb180, 0, none⟩ = some (.bool a0_0) := (blk_cell BK180.out 0).trans rfl; have hcz21_1 : w20.cell? ⟨gb180, 1, none⟩ = some (.string a0_1) := (blk_cell BK180.out 1).trans rfl; have hcz21_2 : w20.cell? ⟨gb180, 2, none⟩ = some (.int .i64 a0_2) := (blk_cell BK180.out 2).trans rfl; have hfz21_0 := blk_frozen BK180.out 0; have hfz21_1 := blk_frozen BK180.out 1; have hfz21_2 := blk_frozen BK180.out 2) | ((with_reducible refine gate_callee (f := 19) rfl ?_); refine goesL_ (some 6) rfl rfl Tryd.func19 (by kernel_rfl) rfl #[.agg #[.bool a0_0, .string a0_1, .int .i64 a0_2]] rfl (by (try simp only [List.map_toArray, List.map_cons, List.map_nil]); first | done | rfl | (simp only [List.length_drop, List.length_take]; rfl) | (have z_ : ∀ s_ : ByteArray, s_.size ≤ 9223372036854775807 → -(s_.size : Int) = wrap64 (-(s_.size : Int)) := (fun s_ h_ => by unfold wrap64; omega); rw [← z_ _ (by omega)]; rfl)) ?_; (with_reducible refine (dec_Dec_Norm.calls k a0_0 a0_1 a0_2 t181 t182 t183 _ A2.out).mono ?_); rintro e w22 ⟨rfl, hb⟩; refine ⟨_, rfl, ?_⟩; have n0_ := bb_ BK180 hb; have n1_ := Aside0.mk (below_step (bl_ HB).out hb); clear BK180; clear HB; have BK180 := n0_; have HB := n1_; clear n0_ n1_; (try clear hb); (try clear hb2); (try clear hk); (try clear hi); have hcz23_0 : w22.cell? ⟨gb180, 0, none⟩ = some (.bool a0_0) := (blk_cell BK180.out 0).trans rfl; have hcz23_1 : w22.cell? ⟨gb180, 1, none⟩ = some (.string a0_1) := (blk_cell BK180.out 1).trans rfl; have hcz23_2 : w22.cell? ⟨gb180, 2, none⟩ = some (.int .i64 a0_2) := (blk_cell BK180.out 2).trans rfl; have hfz23_0 := blk_frozen BK180.out 0; have hfz23_1 := blk_frozen BK180.out 1; have hfz23_2 := blk_frozen BK180.out 2) | ((with_reducible refine gate_callee (f := 20) rfl ?_); refine goesL_ (some 9) rfl rfl Tryd.func20 (by kernel_rfl) rfl #[.agg #[.bool t181, .string t182, .int .i64 t183]] rfl (by (try simp only [List.map_toArray, List.map_cons, List.map_nil]); first | done | rfl | (simp only [List.length_drop, List.length_take]; rfl) | (have z_ : ∀ s_ : ByteArray, s_.size ≤ 9223372036854775807 → -(s_.size : Int) = wrap64 (-(s_.size : Int)) := (fun s_ h_ => by unfold wrap64; omega); rw [← z_ _ (by omega)]; rfl)) ?_; (with_reducible refine (dec_Dec_Parts.calls k t181 t182 t183 t184 t185 _ A3.out).mono ?_); rintro e w24 ⟨rfl, hb⟩; refine ⟨_, rfl, ?_⟩; have n0_ := Aside0.mk (blk_below (g := gb180) (o := .cells #[.bool t181, .string t182, .int .i64 t183] 24 (0, 0)) (by (with_reducible repeat (first | refine blk_drewN ?_ _ | refine blk_drew ?_ | refine blk_alloc ?_ _)); refine blk_put (cs := #[.bool t181, .string t182, .int .i64 a0_2]) ?_ 2 _ rfl; (with_reducible repeat (first | refine blk_drewN ?_ _ | refine blk_drew ?_ | refine blk_alloc ?_ _)); refine blk_put (cs := #[.bool t181, .string a0_1, .int .i64 a0_2]) ?_ 1 _ rfl; (with_reducible repeat (first | refine blk_drewN ?_ _ | refine blk_drew ?_ | refine blk_alloc ?_ _)); refine blk_put (cs := #[.bool a0_0, .string a0_1, .int .i64 a0_2]) ?_ 0 _ rfl; (with_reducible repeat (first | refine blk_drewN ?_ _ | refine blk_drew ?_ | refine blk_alloc ?_ _)); exact BK180.out) hb); have n1_ := Aside0.mk (below_step (bl_ HB).out hb); clear BK180; clear HB; have BK180 := n0_; have HB := n1_; clear n0_ n1_; (try clear hb); (try clear hb2); (try clear hk); (try clear hi); have hcz25_0 : w24.cell? ⟨gb180, 0, none⟩ = some (.bool t181) := (blk_cell BK180.out 0).trans rfl; have hcz25_1 : w24.cell? ⟨gb180, 1, none⟩ = some (.string t182) := (blk_cell BK180.out 1).trans rfl; have hcz25_2 : w24.cell? ⟨gb180, 2, none⟩ = some (.int .i64 t183) := (blk_cell BK180.out 2).trans rfl; have hfz25_0 := blk_frozen BK180.out 0; have hfz25_1 := blk_frozen BK180.out 1; have hfz25_2 := blk_frozen BK180.out 2) | ((with_reducible refine gate_callee (f := 44) rfl ?_); refine goesL_ (some 19) rfl rfl Tryd.func44 (by kernel_rfl) rfl #[.agg #[.bool t181, .string t182, .int .i64 t183]] rfl (by (try simp only [List.map_toArray, List.map_cons, List.map_nil]); first | done | rfl | (simp only [List.length_drop, List.length_take]; rfl) | (have z_ : ∀ s_ : ByteArray, s_.size ≤ 9223372036854775807 → -(s_.size : Int) = wrap64 (-(s_.size : Int)) := (fun s_ h_ => by unfold wrap64; omega); rw [← z_ _ (by omega)]; rfl)) ?_; (with_reducible refine (dec_Dec_sign.calls t181 t182 t183 t187 _ A17.out).mono ?_); rintro e w26 ⟨rfl, hb⟩; refine ⟨_, rfl, ?_⟩; have n0_ := bb_ BK180 hb; have n1_ := Aside0.mk (below_step (bl_ HB).out hb); clear BK180; clear HB; have BK180 := n0_; have HB := n1_; clear n0_ n1_; (try clear hb); (try clear hb2); (try clear hk); (try clear hi)))
            go_ret
            exact ⟨by first | rfl | (simp [errW_none, errW_some] <;> rfl) | (simp [*, errW_none, errW_some] <;> first | rfl | exact given_isEmpty _ | exact (given_isEmpty _).symm), by repeat (first | (with_reducible first | exact HB.out | apply below_alloc | apply pw_below_drewN | apply below_drew1 | refine below_set ?_ GE180.out) | exact HB.out)⟩
          · rw [if_neg c19] at H
            exact absurd H (by simp)
        · rw [if_neg c18] at H
          exact absurd H (by simp)
      · rw [if_neg c16] at H
        exact absurd H (by simp)
  · rw [if_neg c4] at H
    have c4b0 : (t184.toList == ([] : List UInt8)) = false := beq_eq_false_iff_ne.mpr c4
    have c4b1 : (t184.toList != ([] : List UInt8)) = true := bne_iff_ne.mpr c4
    have c4b2 : (t184.toList.isEmpty) = false := by rw [given_isEmpty, bne_iff_ne.mpr c4]; rfl
    by_cases c27 : t185.toList = ([] : List UInt8)
    · rw [if_pos c27] at H
      have c27b0 : (t185.toList == ([] : List UInt8)) = true := beq_iff_eq.mpr c27
      have c27b1 : (t185.toList != ([] : List UInt8)) = false := bne_eq_false_iff_eq.mpr c27
      have c27b2 : (t185.toList.isEmpty) = true := by rw [c27]; rfl
      clear c27
      replace H := Option.bind_eq_some_iff.mp H
      obtain ⟨t188, A280, H⟩ := H
      replace H : (if t188.size + t184.size ≤ 9223372036854775807 then (if (t188 ++ t184).size + t185.size ≤ 9223372036854775807 then (some ((t188 ++ t184) ++ t185)) else (none)) else (none)) = some r := H
      have A28 := Aside0.mk A280
      clear A280
      by_cases c29 : t188.size + t184.size ≤ 9223372036854775807
      · rw [if_pos c29] at H
        have c29b0 := eq_true c29
        have c29b1 : decide (t188.size + t184.size ≤ 9223372036854775807) = true := decide_eq_true c29
        try have c29b2 : (9223372036854775807 < t188.size + t184.size) = False := eq_false (Nat.not_lt.2 c29)
        by_cases c30 : (t188 ++ t184).size + t185.size ≤ 9223372036854775807
        · rw [if_pos c30] at H
          have c30b0 := eq_true c30
          have c30b1 : decide ((t188 ++ t184).size + t185.size ≤ 9223372036854775807) = true := decide_eq_true c30
          try (have c30b5 := c30b0; simp only [ByteArray.size_append, Int.natCast_add] at c30b5)
          try have c30b2 : (9223372036854775807 < (t188 ++ t184).size + t185.size) = False := eq_false (Nat.not_lt.2 c30)
          try have c30b3 : (9223372036854775807 < t188.size + t184.size + t185.size) = False := eq_false (Nat.not_lt.2 (by have h_ := c30; simp only [ByteArray.size_append] at h_; exact h_))
          try have c30b4 : (t188.size + t184.size + t185.size ≤ 9223372036854775807) = True := eq_true (by have h_ := c30; simp only [ByteArray.size_append] at h_; exact h_)
          obtain rfl := Option.some.inj H
          go_enter Tryd.func16, Tryd.ntmps16
          go_wp2_with (first | ((with_reducible refine gate_dst (N := 1) rfl ?_); refine box_event ?hg (N := 1) ?hd (cs := #[.bool a0_0, .string a0_1, .int .i64 a0_2]) (t := 24) ?hr ?_; (case hd => rfl); (case hg => rfl); (case hr => first | (go_simp; done) | (go_simp; rfl)); intro gb180 hg w31 hbox hb; have n0_ := Aside0.mk (below_step (bl_ HB).out hb); have n1_ := Aside0.mk (hbox); have n2_ := Aside0.mk ((by rw [hg]; exact (below_size (bl_ HB).out) : w.heap.size ≤ gb180)); have n3_ := Aside0.mk ((by rw [hg]; exact (below_size (bl_ HB).out) : w.heap.size ≤ gb180)); clear HB; have HB := n0_; have BK180 := n1_; have GW180 := n2_; have GE180 := n3_; clear n0_ n1_ n2_ n3_; clear hb hbox hg; have hcz32_0 : w31.cell? ⟨gb180, 0, none⟩ = some (.bool a0_0) := (blk_cell BK180.out 0).trans rfl; have hcz32_1 : w31.cell? ⟨gb180, 1, none⟩ = some (.string a0_1) := (blk_cell BK180.out 1).trans rfl; have hcz32_2 : w31.cell? ⟨gb180, 2, none⟩ = some (.int .i64 a0_2) := (blk_cell BK180.out 2).trans rfl; have hfz32_0 := blk_frozen BK180.out 0; have hfz32_1 := blk_frozen BK180.out 1; have hfz32_2 := blk_frozen BK180.out 2) | ((with_reducible refine gate_callee (f := 19) rfl ?_); refine goesL_ (some 6) rfl rfl Tryd.func19 (by kernel_rfl) rfl #[.agg #[.bool a0_0, .string a0_1, .int .i64 a0_2]] rfl (by (try simp only [List.map_toArray, List.map_cons, List.map_nil]); first | done | rfl | (simp only [List.length_drop, List.length_take]; rfl) | (have z_ : ∀ s_ : ByteArray, s_.size ≤ 9223372036854775807 → -(s_.size : Int) = wrap64 (-(s_.size : Int)) := (fun s_ h_ => by unfold wrap64; omega); rw [← z_ _ (by omega)]; rfl)) ?_; (with_reducible refine (dec_Dec_Norm.calls k a0_0 a0_1 a0_2 t181 t182 t183 _ A2.out).mono ?_); rintro e w33 ⟨rfl, hb⟩; refine ⟨_, rfl, ?_⟩; have n0_ := bb_ BK180 hb; have n1_ := Aside0.mk (below_step (bl_ HB).out hb); clear BK180; clear HB; have BK180 := n0_; have HB := n1_; clear n0_ n1_; (try clear hb); (try clear hb2); (try clear hk); (try clear hi); have hcz34_0 : w33.cell? ⟨gb180, 0, none⟩ = some (.bool a0_0) := (blk_cell BK180.out 0).trans rfl; have hcz34_1 : w33.cell? ⟨gb180, 1, none⟩ = some (.string a0_1) := (blk_cell BK180.out 1).trans rfl; have hcz34_2 : w33.cell? ⟨gb180, 2, none⟩ = some (.int .i64 a0_2) := (blk_cell BK180.out 2).trans rfl; have hfz34_0 := blk_frozen BK180.out 0; have hfz34_1 := blk_frozen BK180.out 1; have hfz34_2 := blk_frozen BK180.out 2) | ((with_reducible refine gate_callee (f := 20) rfl ?_); refine goesL_ (some 9) rfl rfl Tryd.func20 (by kernel_rfl) rfl #[.agg #[.bool t181, .string t182, .int .i64 t183]] rfl (by (try simp only [List.map_toArray, List.map_cons, List.map_nil]); first | done | rfl | (simp only [List.length_drop, List.length_take]; rfl) | (have z_ : ∀ s_ : ByteArray, s_.size ≤ 9223372036854775807 → -(s_.size : Int) = wrap64 (-(s_.size : Int)) := (fun s_ h_ => by unfold wrap64; omega); rw [← z_ _ (by omega)]; rfl)) ?_; (with_reducible refine (dec_Dec_Parts.calls k t181 t182 t183 t184 t185 _ A3.out).mono ?_); rintro e w35 ⟨rfl, hb⟩; refine ⟨_, rfl, ?_⟩; have n0_ := Aside0.mk (blk_below (g := gb180) (o := .cells #[.bool t181, .string t182, .int .i64 t183] 24 (0, 0)) (by (with_reducible repeat (first | refine blk_drewN ?_ _ | refine blk_drew ?_ | refine blk_alloc ?_ _)); refine blk_put (cs := #[.bool t181, .string t182, .int .i64 a0_2]) ?_ 2 _ rfl; (with_reducible repeat (first | refine blk_drewN ?_ _ | refine blk_drew ?_ | refine blk_alloc ?_ _)); refine blk_put (cs := #[.bool t181, .string a0_1, .int .i64 a0_2]) ?_ 1 _ rfl; (with_reducible repeat (first | refine blk_drewN ?_ _ | refine blk_drew ?_ | refine blk_alloc ?_ _)); refine blk_put (cs := #[.bool a0_0, .string a0_1, .int .i64 a0_2]) ?_ 0 _ rfl; (with_reducible repeat (first | refine blk_drewN ?_ _ | refine blk_drew ?_ | refine blk_alloc ?_ _)); exact BK180.out) hb); have n1_ := Aside0.mk (below_step (bl_ HB).out hb); clear BK180; clear HB; have BK180 := n0_; have HB := n1_; clear n0_ n1_; (try clear hb); (try clear hb2); (try clear hk); (try clear hi); have hcz36_0 : w35.cell? ⟨gb180, 0, none⟩ = some (.bool t181) := (blk_cell BK180.out 0).trans rfl; have hcz36_1 : w35.cell? ⟨gb180, 1, none⟩ = some (.string t182) := (blk_cell BK180.out 1).trans rfl; have hcz36_2 : w35.cell? ⟨gb180, 2, none⟩ = some (.int .i64 t183) := (blk_cell BK180.out 2).trans rfl; have hfz36_0 := blk_frozen BK180.out 0; have hfz36_1 := blk_frozen BK180.out 1; have hfz36_2 := blk_frozen BK180.out 2) | ((with_reducible refine gate_callee (f := 44) rfl ?_); refine goesL_ (some 19) rfl rfl Tryd.func44 (by kernel_rfl) rfl #[.agg #[.bool t181, .string t182, .int .i64 t183]] rfl (by (try simp only [List.map_toArray, List.map_cons, List.map_nil]); first | done | rfl | (simp only [List.length_drop, List.length_take]; rfl) | (have z_ : ∀ s_ : ByteArray, s_.size ≤ 9223372036854775807 → -(s_.size : Int) = wrap64 (-(s_.size : Int)) := (fun s_ h_ => by unfold wrap64; omega); rw [← z_ _ (by omega)]; rfl)) ?_; (with_reducible refine (dec_Dec_sign.calls t181 t182 t183 t188 _ A28.out).mono ?_); rintro e w37 ⟨rfl, hb⟩; refine ⟨_, rfl, ?_⟩; have n0_ := bb_ BK180 hb; have n1_ := Aside0.mk (below_step (bl_ HB).out hb); clear BK180; clear HB; have BK180 := n0_; have HB := n1_; clear n0_ n1_; (try clear hb); (try clear hb2); (try clear hk); (try clear hi)))
          go_ret
          exact ⟨by first | rfl | (simp [errW_none, errW_some] <;> rfl) | (simp [*, errW_none, errW_some] <;> first | rfl | exact given_isEmpty _ | exact (given_isEmpty _).symm), by repeat (first | (with_reducible first | exact HB.out | apply below_alloc | apply pw_below_drewN | apply below_drew1 | refine below_set ?_ GE180.out) | exact HB.out)⟩
        · rw [if_neg c30] at H
          exact absurd H (by simp)
      · rw [if_neg c29] at H
        exact absurd H (by simp)
    · rw [if_neg c27] at H
      have c27b0 : (t185.toList == ([] : List UInt8)) = false := beq_eq_false_iff_ne.mpr c27
      have c27b1 : (t185.toList != ([] : List UInt8)) = true := bne_iff_ne.mpr c27
      have c27b2 : (t185.toList.isEmpty) = false := by rw [given_isEmpty, bne_iff_ne.mpr c27]; rfl
      by_cases c38 : 1 + t185.size ≤ 9223372036854775807
      · rw [if_pos c38] at H
        have c38b0 := eq_true c38
        have c38b1 : decide (1 + t185.size ≤ 9223372036854775807) = true := decide_eq_true c38
        try have c38b2 : (9223372036854775807 < 1 + t185.size) = False := eq_false (Nat.not_lt.2 c38)
        replace H := Option.bind_eq_some_iff.mp H
        obtain ⟨t189, A390, H⟩ := H
        replace H : (if t189.size + t184.size ≤ 9223372036854775807 then (if (t189 ++ t184).size + ((⟨#[46]⟩ : ByteArray) ++ t185).size ≤ 9223372036854775807 then (some ((t189 ++ t184) ++ ((⟨#[46]⟩ : ByteArray) ++ t185))) else (none)) else (none)) = some r := H
        have A39 := Aside0.mk A390
        clear A390
        by_cases c40 : t189.size + t184.size ≤ 9223372036854775807
        · rw [if_pos c40] at H
          have c40b0 := eq_true c40
          have c40b1 : decide (t189.size + t184.size ≤ 9223372036854775807) = true := decide_eq_true c40
          try have c40b2 : (9223372036854775807 < t189.size + t184.size) = False := eq_false (Nat.not_lt.2 c40)
          by_cases c41 : (t189 ++ t184).size + ((⟨#[46]⟩ : ByteArray) ++ t185).size ≤ 9223372036854775807
          · rw [if_pos c41] at H
            have c41b0 := eq_true c41
            have c41b1 : decide ((t189 ++ t184).size + ((⟨#[46]⟩ : ByteArray) ++ t185).size ≤ 9223372036854775807) = true := decide_eq_true c41
            try (have c41b5 := c41b0; simp only [ByteArray.size_append, Int.natCast_add] at c41b5)
            try have c41b2 : (9223372036854775807 < (t189 ++ t184).size + ((⟨#[46]⟩ : ByteArray) ++ t185).size) = False := eq_false (Nat.not_lt.2 c41)
            try have c41b3 : (9223372036854775807 < t189.size + t184.size + 1 + t185.size) = False := eq_false (Nat.not_lt.2 (by have h_ := c41; simp only [ByteArray.size_append] at h_; exact h_))
            try have c41b4 : (t189.size + t184.size + 1 + t185.size ≤ 9223372036854775807) = True := eq_true (by have h_ := c41; simp only [ByteArray.size_append] at h_; exact h_)
            obtain rfl := Option.some.inj H
            go_enter Tryd.func16, Tryd.ntmps16
            go_wp2_with (first | ((with_reducible refine gate_dst (N := 1) rfl ?_); refine box_event ?hg (N := 1) ?hd (cs := #[.bool a0_0, .string a0_1, .int .i64 a0_2]) (t := 24) ?hr ?_; (case hd => rfl); (case hg => rfl); (case hr => first | (go_simp; done) | (go_simp; rfl)); intro gb180 hg w42 hbox hb; have n0_ := Aside0.mk (below_step (bl_ HB).out hb); have n1_ := Aside0.mk (hbox); have n2_ := Aside0.mk ((by rw [hg]; exact (below_size (bl_ HB).out) : w.heap.size ≤ gb180)); have n3_ := Aside0.mk ((by rw [hg]; exact (below_size (bl_ HB).out) : w.heap.size ≤ gb180)); clear HB; have HB := n0_; have BK180 := n1_; have GW180 := n2_; have GE180 := n3_; clear n0_ n1_ n2_ n3_; clear hb hbox hg; have hcz43_0 : w42.cell? ⟨gb180, 0, none⟩ = some (.bool a0_0) := (blk_cell BK180.out 0).trans rfl; have hcz43_1 : w42.cell? ⟨gb180, 1, none⟩ = some (.string a0_1) := (blk_cell BK180.out 1).trans rfl; have hcz43_2 : w42.cell? ⟨gb180, 2, none⟩ = some (.int .i64 a0_2) := (blk_cell BK180.out 2).trans rfl; have hfz43_0 := blk_frozen BK180.out 0; have hfz43_1 := blk_frozen BK180.out 1; have hfz43_2 := blk_frozen BK180.out 2) | ((with_reducible refine gate_callee (f := 19) rfl ?_); refine goesL_ (some 6) rfl rfl Tryd.func19 (by kernel_rfl) rfl #[.agg #[.bool a0_0, .string a0_1, .int .i64 a0_2]] rfl (by (try simp only [List.map_toArray, List.map_cons, List.map_nil]); first | done | rfl | (simp only [List.length_drop, List.length_take]; rfl) | (have z_ : ∀ s_ : ByteArray, s_.size ≤ 9223372036854775807 → -(s_.size : Int) = wrap64 (-(s_.size : Int)) := (fun s_ h_ => by unfold wrap64; omega); rw [← z_ _ (by omega)]; rfl)) ?_; (with_reducible refine (dec_Dec_Norm.calls k a0_0 a0_1 a0_2 t181 t182 t183 _ A2.out).mono ?_); rintro e w44 ⟨rfl, hb⟩; refine ⟨_, rfl, ?_⟩; have n0_ := bb_ BK180 hb; have n1_ := Aside0.mk (below_step (bl_ HB).out hb); clear BK180; clear HB; have BK180 := n0_; have HB := n1_; clear n0_ n1_; (try clear hb); (try clear hb2); (try clear hk); (try clear hi); have hcz45_0 : w44.cell? ⟨gb180, 0, none⟩ = some (.bool a0_0) := (blk_cell BK180.out 0).trans rfl; have hcz45_1 : w44.cell? ⟨gb180, 1, none⟩ = some (.string a0_1) := (blk_cell BK180.out 1).trans rfl; have hcz45_2 : w44.cell? ⟨gb180, 2, none⟩ = some (.int .i64 a0_2) := (blk_cell BK180.out 2).trans rfl; have hfz45_0 := blk_frozen BK180.out 0; have hfz45_1 := blk_frozen BK180.out 1; have hfz45_2 := blk_frozen BK180.out 2) | ((with_reducible refine gate_callee (f := 20) rfl ?_); refine goesL_ (some 9) rfl rfl Tryd.func20 (by kernel_rfl) rfl #[.agg #[.bool t181, .string t182, .int .i64 t183]] rfl (by (try simp only [List.map_toArray, List.map_cons, List.map_nil]); first | done | rfl | (simp only [List.length_drop, List.length_take]; rfl) | (have z_ : ∀ s_ : ByteArray, s_.size ≤ 9223372036854775807 → -(s_.size : Int) = wrap64 (-(s_.size : Int)) := (fun s_ h_ => by unfold wrap64; omega); rw [← z_ _ (by omega)]; rfl)) ?_; (with_reducible refine (dec_Dec_Parts.calls k t181 t182 t183 t184 t185 _ A3.out).mono ?_); rintro e w46 ⟨rfl, hb⟩; refine ⟨_, rfl, ?_⟩; have n0_ := Aside0.mk (blk_below (g := gb180) (o := .cells #[.bool t181, .string t182, .int .i64 t183] 24 (0, 0)) (by (with_reducible repeat (first | refine blk_drewN ?_ _ | refine blk_drew ?_ | refine blk_alloc ?_ _)); refine blk_put (cs := #[.bool t181, .string t182, .int .i64 a0_2]) ?_ 2 _ rfl; (with_reducible repeat (first | refine blk_drewN ?_ _ | refine blk_drew ?_ | refine blk_alloc ?_ _)); refine blk_put (cs := #[.bool t181, .string a0_1, .int .i64 a0_2]) ?_ 1 _ rfl; (with_reducible repeat (first | refine blk_drewN ?_ _ | refine blk_drew ?_ | refine blk_alloc ?_ _)); refine blk_put (cs := #[.bool a0_0, .string a0_1, .int .i64 a0_2]) ?_ 0 _ rfl; (with_reducible repeat (first | refine blk_drewN ?_ _ | refine blk_drew ?_ | refine blk_alloc ?_ _)); exact BK180.out) hb); have n1_ := Aside0.mk (below_step (bl_ HB).out hb); clear BK180; clear HB; have BK180 := n0_; have HB := n1_; clear n0_ n1_; (try clear hb); (try clear hb2); (try clear hk); (try clear hi); have hcz47_0 : w46.cell? ⟨gb180, 0, none⟩ = some (.bool t181) := (blk_cell BK180.out 0).trans rfl; have hcz47_1 : w46.cell? ⟨gb180, 1, none⟩ = some (.string t182) := (blk_cell BK180.out 1).trans rfl; have hcz47_2 : w46.cell? ⟨gb180, 2, none⟩ = some (.int .i64 t183) := (blk_cell BK180.out 2).trans rfl; have hfz47_0 := blk_frozen BK180.out 0; have hfz47_1 := blk_frozen BK180.out 1; have hfz47_2 := blk_frozen BK180.out 2) | ((with_reducible refine gate_callee (f := 44) rfl ?_); refine goesL_ (some 19) rfl rfl Tryd.func44 (by kernel_rfl) rfl #[.agg #[.bool t181, .string t182, .int .i64 t183]] rfl (by (try simp only [List.map_toArray, List.map_cons, List.map_nil]); first | done | rfl | (simp only [List.length_drop, List.length_take]; rfl) | (have z_ : ∀ s_ : ByteArray, s_.size ≤ 9223372036854775807 → -(s_.size : Int) = wrap64 (-(s_.size : Int)) := (fun s_ h_ => by unfold wrap64; omega); rw [← z_ _ (by omega)]; rfl)) ?_; (with_reducible refine (dec_Dec_sign.calls t181 t182 t183 t189 _ A39.out).mono ?_); rintro e w48 ⟨rfl, hb⟩; refine ⟨_, rfl, ?_⟩; have n0_ := bb_ BK180 hb; have n1_ := Aside0.mk (below_step (bl_ HB).out hb); clear BK180; clear HB; have BK180 := n0_; have HB := n1_; clear n0_ n1_; (try clear hb); (try clear hb2); (try clear hk); (try clear hi)))
            go_ret
            exact ⟨by first | rfl | (simp [errW_none, errW_some] <;> rfl) | (simp [*, errW_none, errW_some] <;> first | rfl | exact given_isEmpty _ | exact (given_isEmpty _).symm), by repeat (first | (with_reducible first | exact HB.out | apply below_alloc | apply pw_below_drewN | apply below_drew1 | refine below_set ?_ GE180.out) | exact HB.out)⟩
          · rw [if_neg c41] at H
            exact absurd H (by simp)
        · rw [if_neg c40] at H
          exact absurd H (by simp)
      · rw [if_neg c38] at H
        exact absurd H (by simp)

/-! ### florinlaw02_head: function 11 -/
def florinlaw02_head.f (k : Nat)  : Option (Bool) := (dec_Parse.f k (⟨#[45, 49, 50, 46, 53, 48, 101, 51]⟩ : ByteArray)).bind fun bt190 => (if bt190.2.2.2 = 0 then (if (bt190.1 && (bt190.2.1.toList == ([49, 50, 53] : List UInt8) && (bt190.2.2.1 == 2))) = true then ((dec_Dec_Plain.f k bt190.1 bt190.2.1 bt190.2.2.1).bind fun t195 => (if t195.toList = ([45, 49, 50, 53, 48, 48] : List UInt8) then ((dec_Dec_String.f k bt190.1 bt190.2.1 bt190.2.2.1).bind fun t196 => (some (t196.toList == ([45, 49, 50, 53, 101, 50] : List UInt8)))) else (some false))) else (some false)) else (some false))
theorem florinlaw02_head.mono : ∀ k, LeO (florinlaw02_head.f k ) (florinlaw02_head.f (k + 1) ) := by
  intro  k
  unfold florinlaw02_head.f
  repeat' first
      | (with_reducible exact dec_Dec_Plain.mono _ _ _ _)
      | (with_reducible exact dec_Dec_String.mono _ _ _ _)
      | (with_reducible exact dec_Parse.mono _ _)
      | (with_reducible exact LeO.refl _)
      | (with_reducible exact LeO.none _)
      | (with_reducible refine LeO.ite ?_ ?_)
      | (with_reducible refine LeO.bind ?_ (fun _ => ?_))
      | exact dec_Dec_Plain.mono _ _ _ _
      | exact dec_Dec_String.mono _ _ _ _
      | exact dec_Parse.mono _ _
      | exact LeO.none _
      | refine LeO.ite ?_ ?_
      | refine LeO.bind ?_ (fun _ => ?_)
set_option maxHeartbeats 8000000 in
set_option maxRecDepth 100000 in
theorem florinlaw02_head.calls (k : Nat)  (r : Bool) (w : World) (h : florinlaw02_head.f k  = some r) (ht : Lib.TabIs Tryd.prog w "internal/strconv.uint64pow10" .u64 Lib.pow10Tab := by first | assumption | exact tb_ (by assumption) (bl_ (by assumption)).out) :
    Calls Tryd.prog 11 #[] w fun e w' => e = .returned (.bool r) ∧ Below w.heap.size w w' := by
  have hu24 := Tryd.underlying24
  have HB := Aside0.mk (Below.refl w.heap.size w)
  have H : ((dec_Parse.f k (⟨#[45, 49, 50, 46, 53, 48, 101, 51]⟩ : ByteArray)).bind fun bt190 => (if bt190.2.2.2 = 0 then (if (bt190.1 && (bt190.2.1.toList == ([49, 50, 53] : List UInt8) && (bt190.2.2.1 == 2))) = true then ((dec_Dec_Plain.f k bt190.1 bt190.2.1 bt190.2.2.1).bind fun t195 => (if t195.toList = ([45, 49, 50, 53, 48, 48] : List UInt8) then ((dec_Dec_String.f k bt190.1 bt190.2.1 bt190.2.2.1).bind fun t196 => (some (t196.toList == ([45, 49, 50, 53, 101, 50] : List UInt8)))) else (some false))) else (some false)) else (some false))) = some r := h
  clear h
  replace H := Option.bind_eq_some_iff.mp H
  obtain ⟨⟨t190, t191, t192, t193⟩, A10, H⟩ := H
  replace H : (if t193 = 0 then (if (t190 && (t191.toList == ([49, 50, 53] : List UInt8) && (t192 == 2))) = true then ((dec_Dec_Plain.f k t190 t191 t192).bind fun t195 => (if t195.toList = ([45, 49, 50, 53, 48, 48] : List UInt8) then ((dec_Dec_String.f k t190 t191 t192).bind fun t196 => (some (t196.toList == ([45, 49, 50, 53, 101, 50] : List UInt8)))) else (some false))) else (some false)) else (some false)) = some r := H
  have A1 := Aside0.mk A10
  clear A10
  by_cases c2 : t193 = 0
  · rw [if_pos c2] at H
    have c2b0 : (t193 == 0) = true := beq_iff_eq.mpr c2
    have c2b1 : (t193 != 0) = false := bne_eq_false_iff_eq.mpr c2
    clear c2
    by_cases c3 : (t190 && (t191.toList == ([49, 50, 53] : List UInt8) && (t192 == 2))) = true
    · rw [if_pos c3] at H
      have c3b0 : (t190 && (t191.toList == ([49, 50, 53] : List UInt8) && (t192 == 2))) = true := c3
      clear c3
      replace H := Option.bind_eq_some_iff.mp H
      obtain ⟨t195, A40, H⟩ := H
      replace H : (if t195.toList = ([45, 49, 50, 53, 48, 48] : List UInt8) then ((dec_Dec_String.f k t190 t191 t192).bind fun t196 => (some (t196.toList == ([45, 49, 50, 53, 101, 50] : List UInt8)))) else (some false)) = some r := H
      have A4 := Aside0.mk A40
      clear A40
      by_cases c5 : t195.toList = ([45, 49, 50, 53, 48, 48] : List UInt8)
      · rw [if_pos c5] at H
        have c5b0 : (t195.toList == ([45, 49, 50, 53, 48, 48] : List UInt8)) = true := beq_iff_eq.mpr c5
        have c5b1 : (t195.toList != ([45, 49, 50, 53, 48, 48] : List UInt8)) = false := bne_eq_false_iff_eq.mpr c5
        clear c5
        replace H := Option.bind_eq_some_iff.mp H
        obtain ⟨t196, A60, H⟩ := H
        replace H : (some (t196.toList == ([45, 49, 50, 53, 101, 50] : List UInt8))) = some r := H
        have A6 := Aside0.mk A60
        clear A60
        obtain rfl := Option.some.inj H
        go_enter Tryd.func11, Tryd.ntmps11
        go_wp2_with (first | ((with_reducible refine gate_callee (f := 12) rfl ?_); refine goesL_ (some 4) rfl rfl Tryd.func12 (by kernel_rfl) rfl #[.string (⟨#[45, 49, 50, 46, 53, 48, 101, 51]⟩ : ByteArray)] rfl (by (try simp only [List.map_toArray, List.map_cons, List.map_nil]); first | done | rfl | (simp only [List.length_drop, List.length_take]; rfl) | (have z_ : ∀ s_ : ByteArray, s_.size ≤ 9223372036854775807 → -(s_.size : Int) = wrap64 (-(s_.size : Int)) := (fun s_ h_ => by unfold wrap64; omega); rw [← z_ _ (by omega)]; rfl)) ?_; (with_reducible refine (dec_Parse.calls k (⟨#[45, 49, 50, 46, 53, 48, 101, 51]⟩ : ByteArray) t190 t191 t192 t193 _ A1.out).mono ?_); rintro e w7 ⟨rfl, hb⟩; refine ⟨_, rfl, ?_⟩; have n0_ := Aside0.mk (below_step (bl_ HB).out hb); clear HB; have HB := n0_; clear n0_; (try clear hb); (try clear hb2); (try clear hk); (try clear hi)) | ((with_reducible refine gate_dst (N := 1) rfl ?_); refine box_event ?hg (N := 1) ?hd (cs := #[.bool false, .string (⟨#[]⟩ : ByteArray), .int .i64 0]) (t := 24) ?hr ?_; (case hd => rfl); (case hg => rfl); (case hr => first | (go_simp; done) | (go_simp; rfl)); intro gb194 hg w8 hbox hb; have n0_ := Aside0.mk (below_step (bl_ HB).out hb); have n1_ := Aside0.mk (hbox); have n2_ := Aside0.mk ((by rw [hg]; exact (below_size (bl_ HB).out) : w.heap.size ≤ gb194)); have n3_ := Aside0.mk ((by rw [hg]; exact (below_size (bl_ HB).out) : w.heap.size ≤ gb194)); clear HB; have HB := n0_; have BK194 := n1_; have GW194 := n2_; have GE194 := n3_; clear n0_ n1_ n2_ n3_; clear hb hbox hg; have hcz9_0 : w8.cell? ⟨gb194, 0, none⟩ = some (.bool false) := (blk_cell BK194.out 0).trans rfl; have hcz9_1 : w8.cell? ⟨gb194, 1, none⟩ = some (.string (⟨#[]⟩ : ByteArray)) := (blk_cell BK194.out 1).trans rfl; have hcz9_2 : w8.cell? ⟨gb194, 2, none⟩ = some (.int .i64 0) := (blk_cell BK194.out 2).trans rfl; have hfz9_0 := blk_frozen BK194.out 0; have hfz9_1 := blk_frozen BK194.out 1; have hfz9_2 := blk_frozen BK194.out 2) | (go_at_call 16; (with_reducible refine (dec_Dec_Plain.calls k t190 t191 t192 t195 _ A4.out).mono ?_); rintro e w10 ⟨rfl, hb⟩; have n0_ := Aside0.mk (blk_below (g := gb194) (o := .cells #[.bool t190, .string t191, .int .i64 t192] 24 (0, 0)) (by (with_reducible repeat (first | refine blk_drewN ?_ _ | refine blk_drew ?_ | refine blk_alloc ?_ _)); refine blk_put (cs := #[.bool t190, .string t191, .int .i64 0]) ?_ 2 _ rfl; (with_reducible repeat (first | refine blk_drewN ?_ _ | refine blk_drew ?_ | refine blk_alloc ?_ _)); refine blk_put (cs := #[.bool t190, .string (⟨#[]⟩ : ByteArray), .int .i64 0]) ?_ 1 _ rfl; (with_reducible repeat (first | refine blk_drewN ?_ _ | refine blk_drew ?_ | refine blk_alloc ?_ _)); refine blk_put (cs := #[.bool false, .string (⟨#[]⟩ : ByteArray), .int .i64 0]) ?_ 0 _ rfl; (with_reducible repeat (first | refine blk_drewN ?_ _ | refine blk_drew ?_ | refine blk_alloc ?_ _)); exact BK194.out) hb); have n1_ := Aside0.mk (below_step (bl_ HB).out hb); clear BK194; clear HB; have BK194 := n0_; have HB := n1_; clear n0_ n1_; (try clear hb); (try clear hb2); (try clear hk); (try clear hi); have hcz11_0 : w10.cell? ⟨gb194, 0, none⟩ = some (.bool t190) := (blk_cell BK194.out 0).trans rfl; have hcz11_1 : w10.cell? ⟨gb194, 1, none⟩ = some (.string t191) := (blk_cell BK194.out 1).trans rfl; have hcz11_2 : w10.cell? ⟨gb194, 2, none⟩ = some (.int .i64 t192) := (blk_cell BK194.out 2).trans rfl; have hfz11_0 := blk_frozen BK194.out 0; have hfz11_1 := blk_frozen BK194.out 1; have hfz11_2 := blk_frozen BK194.out 2) | (go_at_call 15; (with_reducible refine (dec_Dec_String.calls k t190 t191 t192 t196 _ A6.out).mono ?_); rintro e w12 ⟨rfl, hb⟩; have n0_ := bb_ BK194 hb; have n1_ := Aside0.mk (below_step (bl_ HB).out hb); clear BK194; clear HB; have BK194 := n0_; have HB := n1_; clear n0_ n1_; (try clear hb); (try clear hb2); (try clear hk); (try clear hi)))
        go_ret
        exact ⟨by first | rfl | (simp [errW_none, errW_some] <;> rfl) | (simp [*, errW_none, errW_some] <;> first | rfl | exact given_isEmpty _ | exact (given_isEmpty _).symm), by repeat (first | (with_reducible first | exact HB.out | apply below_alloc | apply pw_below_drewN | apply below_drew1 | refine below_set ?_ GE194.out) | exact HB.out)⟩
      · rw [if_neg c5] at H
        have c5b0 : (t195.toList == ([45, 49, 50, 53, 48, 48] : List UInt8)) = false := beq_eq_false_iff_ne.mpr c5
        have c5b1 : (t195.toList != ([45, 49, 50, 53, 48, 48] : List UInt8)) = true := bne_iff_ne.mpr c5
        obtain rfl := Option.some.inj H
        go_enter Tryd.func11, Tryd.ntmps11
        go_wp2_with (first | ((with_reducible refine gate_callee (f := 12) rfl ?_); refine goesL_ (some 4) rfl rfl Tryd.func12 (by kernel_rfl) rfl #[.string (⟨#[45, 49, 50, 46, 53, 48, 101, 51]⟩ : ByteArray)] rfl (by (try simp only [List.map_toArray, List.map_cons, List.map_nil]); first | done | rfl | (simp only [List.length_drop, List.length_take]; rfl) | (have z_ : ∀ s_ : ByteArray, s_.size ≤ 9223372036854775807 → -(s_.size : Int) = wrap64 (-(s_.size : Int)) := (fun s_ h_ => by unfold wrap64; omega); rw [← z_ _ (by omega)]; rfl)) ?_; (with_reducible refine (dec_Parse.calls k (⟨#[45, 49, 50, 46, 53, 48, 101, 51]⟩ : ByteArray) t190 t191 t192 t193 _ A1.out).mono ?_); rintro e w13 ⟨rfl, hb⟩; refine ⟨_, rfl, ?_⟩; have n0_ := Aside0.mk (below_step (bl_ HB).out hb); clear HB; have HB := n0_; clear n0_; (try clear hb); (try clear hb2); (try clear hk); (try clear hi)) | ((with_reducible refine gate_dst (N := 1) rfl ?_); refine box_event ?hg (N := 1) ?hd (cs := #[.bool false, .string (⟨#[]⟩ : ByteArray), .int .i64 0]) (t := 24) ?hr ?_; (case hd => rfl); (case hg => rfl); (case hr => first | (go_simp; done) | (go_simp; rfl)); intro gb194 hg w14 hbox hb; have n0_ := Aside0.mk (below_step (bl_ HB).out hb); have n1_ := Aside0.mk (hbox); have n2_ := Aside0.mk ((by rw [hg]; exact (below_size (bl_ HB).out) : w.heap.size ≤ gb194)); have n3_ := Aside0.mk ((by rw [hg]; exact (below_size (bl_ HB).out) : w.heap.size ≤ gb194)); clear HB; have HB := n0_; have BK194 := n1_; have GW194 := n2_; have GE194 := n3_; clear n0_ n1_ n2_ n3_; clear hb hbox hg; have hcz15_0 : w14.cell? ⟨gb194, 0, none⟩ = some (.bool false) := (blk_cell BK194.out 0).trans rfl; have hcz15_1 : w14.cell? ⟨gb194, 1, none⟩ = some (.string (⟨#[]⟩ : ByteArray)) := (blk_cell BK194.out 1).trans rfl; have hcz15_2 : w14.cell? ⟨gb194, 2, none⟩ = some (.int .i64 0) := (blk_cell BK194.out 2).trans rfl; have hfz15_0 := blk_frozen BK194.out 0; have hfz15_1 := blk_frozen BK194.out 1; have hfz15_2 := blk_frozen BK194.out 2) | (go_at_call 16; (with_reducible refine (dec_Dec_Plain.calls k t190 t191 t192 t195 _ A4.out).mono ?_); rintro e w16 ⟨rfl, hb⟩; have n0_ := Aside0.mk (blk_below (g := gb194) (o := .cells #[.bool t190, .string t191, .int .i64 t192] 24 (0, 0)) (by (with_reducible repeat (first | refine blk_drewN ?_ _ | refine blk_drew ?_ | refine blk_alloc ?_ _)); refine blk_put (cs := #[.bool t190, .string t191, .int .i64 0]) ?_ 2 _ rfl; (with_reducible repeat (first | refine blk_drewN ?_ _ | refine blk_drew ?_ | refine blk_alloc ?_ _)); refine blk_put (cs := #[.bool t190, .string (⟨#[]⟩ : ByteArray), .int .i64 0]) ?_ 1 _ rfl; (with_reducible repeat (first | refine blk_drewN ?_ _ | refine blk_drew ?_ | refine blk_alloc ?_ _)); refine blk_put (cs := #[.bool false, .string (⟨#[]⟩ : ByteArray), .int .i64 0]) ?_ 0 _ rfl; (with_reducible repeat (first | refine blk_drewN ?_ _ | refine blk_drew ?_ | refine blk_alloc ?_ _)); exact BK194.out) hb); have n1_ := Aside0.mk (below_step (bl_ HB).out hb); clear BK194; clear HB; have BK194 := n0_; have HB := n1_; clear n0_ n1_; (try clear hb); (try clear hb2); (try clear hk); (try clear hi)))
        go_ret
        exact ⟨by first | rfl | (simp [errW_none, errW_some] <;> rfl) | (simp [*, errW_none, errW_some] <;> first | rfl | exact given_isEmpty _ | exact (given_isEmpty _).symm), by repeat (first | (with_reducible first | exact HB.out | apply below_alloc | apply pw_below_drewN | apply below_drew1 | refine below_set ?_ GE194.out) | exact HB.out)⟩
    · rw [if_neg c3] at H
      have c3b0 : (t190 && (t191.toList == ([49, 50, 53] : List UInt8) && (t192 == 2))) = false := by simpa using c3
      clear c3
      obtain rfl := Option.some.inj H
      go_enter Tryd.func11, Tryd.ntmps11
      go_wp2_with (first | ((with_reducible refine gate_callee (f := 12) rfl ?_); refine goesL_ (some 4) rfl rfl Tryd.func12 (by kernel_rfl) rfl #[.string (⟨#[45, 49, 50, 46, 53, 48, 101, 51]⟩ : ByteArray)] rfl (by (try simp only [List.map_toArray, List.map_cons, List.map_nil]); first | done | rfl | (simp only [List.length_drop, List.length_take]; rfl) | (have z_ : ∀ s_ : ByteArray, s_.size ≤ 9223372036854775807 → -(s_.size : Int) = wrap64 (-(s_.size : Int)) := (fun s_ h_ => by unfold wrap64; omega); rw [← z_ _ (by omega)]; rfl)) ?_; (with_reducible refine (dec_Parse.calls k (⟨#[45, 49, 50, 46, 53, 48, 101, 51]⟩ : ByteArray) t190 t191 t192 t193 _ A1.out).mono ?_); rintro e w17 ⟨rfl, hb⟩; refine ⟨_, rfl, ?_⟩; have n0_ := Aside0.mk (below_step (bl_ HB).out hb); clear HB; have HB := n0_; clear n0_; (try clear hb); (try clear hb2); (try clear hk); (try clear hi)) | ((with_reducible refine gate_dst (N := 1) rfl ?_); refine box_event ?hg (N := 1) ?hd (cs := #[.bool false, .string (⟨#[]⟩ : ByteArray), .int .i64 0]) (t := 24) ?hr ?_; (case hd => rfl); (case hg => rfl); (case hr => first | (go_simp; done) | (go_simp; rfl)); intro gb194 hg w18 hbox hb; have n0_ := Aside0.mk (below_step (bl_ HB).out hb); have n1_ := Aside0.mk (hbox); have n2_ := Aside0.mk ((by rw [hg]; exact (below_size (bl_ HB).out) : w.heap.size ≤ gb194)); have n3_ := Aside0.mk ((by rw [hg]; exact (below_size (bl_ HB).out) : w.heap.size ≤ gb194)); clear HB; have HB := n0_; have BK194 := n1_; have GW194 := n2_; have GE194 := n3_; clear n0_ n1_ n2_ n3_; clear hb hbox hg; have hcz19_0 : w18.cell? ⟨gb194, 0, none⟩ = some (.bool false) := (blk_cell BK194.out 0).trans rfl; have hcz19_1 : w18.cell? ⟨gb194, 1, none⟩ = some (.string (⟨#[]⟩ : ByteArray)) := (blk_cell BK194.out 1).trans rfl; have hcz19_2 : w18.cell? ⟨gb194, 2, none⟩ = some (.int .i64 0) := (blk_cell BK194.out 2).trans rfl; have hfz19_0 := blk_frozen BK194.out 0; have hfz19_1 := blk_frozen BK194.out 1; have hfz19_2 := blk_frozen BK194.out 2))
      go_ret
      exact ⟨by first | rfl | (simp [errW_none, errW_some] <;> rfl) | (simp [*, errW_none, errW_some] <;> first | rfl | exact given_isEmpty _ | exact (given_isEmpty _).symm), by repeat (first | (with_reducible first | exact HB.out | apply below_alloc | apply pw_below_drewN | apply below_drew1 | refine below_set ?_ GE194.out) | exact HB.out)⟩
  · rw [if_neg c2] at H
    have c2b0 : (t193 == 0) = false := beq_eq_false_iff_ne.mpr c2
    have c2b1 : (t193 != 0) = true := bne_iff_ne.mpr c2
    obtain rfl := Option.some.inj H
    go_enter Tryd.func11, Tryd.ntmps11
    go_wp2_with (first | ((with_reducible refine gate_callee (f := 12) rfl ?_); refine goesL_ (some 4) rfl rfl Tryd.func12 (by kernel_rfl) rfl #[.string (⟨#[45, 49, 50, 46, 53, 48, 101, 51]⟩ : ByteArray)] rfl (by (try simp only [List.map_toArray, List.map_cons, List.map_nil]); first | done | rfl | (simp only [List.length_drop, List.length_take]; rfl) | (have z_ : ∀ s_ : ByteArray, s_.size ≤ 9223372036854775807 → -(s_.size : Int) = wrap64 (-(s_.size : Int)) := (fun s_ h_ => by unfold wrap64; omega); rw [← z_ _ (by omega)]; rfl)) ?_; (with_reducible refine (dec_Parse.calls k (⟨#[45, 49, 50, 46, 53, 48, 101, 51]⟩ : ByteArray) t190 t191 t192 t193 _ A1.out).mono ?_); rintro e w20 ⟨rfl, hb⟩; refine ⟨_, rfl, ?_⟩; have n0_ := Aside0.mk (below_step (bl_ HB).out hb); clear HB; have HB := n0_; clear n0_; (try clear hb); (try clear hb2); (try clear hk); (try clear hi)) | ((with_reducible refine gate_dst (N := 1) rfl ?_); refine box_event ?hg (N := 1) ?hd (cs := #[.bool false, .string (⟨#[]⟩ : ByteArray), .int .i64 0]) (t := 24) ?hr ?_; (case hd => rfl); (case hg => rfl); (case hr => first | (go_simp; done) | (go_simp; rfl)); intro gb194 hg w21 hbox hb; have n0_ := Aside0.mk (below_step (bl_ HB).out hb); have n1_ := Aside0.mk (hbox); have n2_ := Aside0.mk ((by rw [hg]; exact (below_size (bl_ HB).out) : w.heap.size ≤ gb194)); have n3_ := Aside0.mk ((by rw [hg]; exact (below_size (bl_ HB).out) : w.heap.size ≤ gb194)); clear HB; have HB := n0_; have BK194 := n1_; have GW194 := n2_; have GE194 := n3_; clear n0_ n1_ n2_ n3_; clear hb hbox hg; have hcz22_0 : w21.cell? ⟨gb194, 0, none⟩ = some (.bool false) := (blk_cell BK194.out 0).trans rfl; have hcz22_1 : w21.cell? ⟨gb194, 1, none⟩ = some (.string (⟨#[]⟩ : ByteArray)) := (blk_cell BK194.out 1).trans rfl; have hcz22_2 : w21.cell? ⟨gb194, 2, none⟩ = some (.int .i64 0) := (blk_cell BK194.out 2).trans rfl; have hfz22_0 := blk_frozen BK194.out 0; have hfz22_1 := blk_frozen BK194.out 1; have hfz22_2 := blk_frozen BK194.out 2))
    go_ret
    exact ⟨by first | rfl | (simp [errW_none, errW_some] <;> rfl) | (simp [*, errW_none, errW_some] <;> first | rfl | exact given_isEmpty _ | exact (given_isEmpty _).symm), by repeat (first | (with_reducible first | exact HB.out | apply below_alloc | apply pw_below_drewN | apply below_drew1 | refine below_set ?_ GE194.out) | exact HB.out)⟩

end Go.Proofs.YtlkiaeipbekpkaaDoor.P
