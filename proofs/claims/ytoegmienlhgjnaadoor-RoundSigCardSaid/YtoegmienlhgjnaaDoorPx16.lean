-- written by a program of this session (wip/p2)
import Derived.Test.YtoegmienlhgjnaaDoorPx0
import Derived.Test.YtoegmienlhgjnaaDoorPx2
import Derived.Test.YtoegmienlhgjnaaDoorPx4
import Derived.Test.YtoegmienlhgjnaaDoorPx11
import Derived.Test.YtoegmienlhgjnaaDoorPx13
namespace Go.Proofs.YtoegmienlhgjnaaDoor.P
open Go.RowKit Go.Proofs.YtoegmienlhgjnaaDoorW.PrintWords Go.Proofs.YtoegmienlhgjnaaDoorW.PrintLast Go.Proofs.YtoegmienlhgjnaaDoorW.PrintMore
attribute [local go_sem] max2_int min2_int max_two min_two max_three min_three max_four min_four   -- for this text's walks alone
set_option linter.unusedVariables false
set_option linter.unusedSimpArgs false

/-! ### florinlaw03_multiple: function 47 -/
def florinlaw03_multiple.j0 : Nat → Int → Bool → Bool → ByteArray → Int → Bool → ByteArray → Int → Option (Bool)
  | 0, _, _, _, _, _, _, _, _ => none
  | k + 1, x5, x23, x474000, x474001, x474002, x475000, x475001, x475002 => if x23 = true then (some false) else ((dec_Made.f k false x474001 (wrap64 (x474002 - x475002))).bind fun bt477 => ((dec_Dec_Parts.f k bt477.1 bt477.2.1 bt477.2.2).bind fun bt481 => ((num_Div.f k bt481.1 x5).bind fun bt483 => (if bt481.2.toList = ([] : List UInt8) then (some (bt483.2 == 0)) else (some false)))))
def florinlaw03_multiple.f (k : Nat) (a0_0 : Bool) (a0_1 : ByteArray) (a0_2 : Int) (a1_0 : Bool) (a1_1 : ByteArray) (a1_2 : Int) : Option (Bool) := (num_Int.f k a1_1).bind fun bt475 => (if bt475.2 = true then (florinlaw03_multiple.j0 k bt475.1 (decide (bt475.1 < 1)) a0_0 a0_1 a0_2 a1_0 a1_1 a1_2) else (florinlaw03_multiple.j0 k bt475.1 true a0_0 a0_1 a0_2 a1_0 a1_1 a1_2))
theorem florinlaw03_multiple.mono_l : ∀ k, (∀ y0 y1 y2 y3 y4 y5 y6 y7, LeO (florinlaw03_multiple.j0 k y0 y1 y2 y3 y4 y5 y6 y7) (florinlaw03_multiple.j0 (k + 1) y0 y1 y2 y3 y4 y5 y6 y7))
  | 0 => fun _ _ _ _ _ _ _ _ r h => by simp [florinlaw03_multiple.j0] at h
  | k + 1 => by
    have ih0 := florinlaw03_multiple.mono_l k
    · intro y0 y1 y2 y3 y4 y5 y6 y7
      unfold florinlaw03_multiple.j0
      repeat' first
      | (with_reducible exact ih0 _ _ _ _ _ _ _ _)
      | (with_reducible exact dec_Dec_Parts.mono _ _ _ _)
      | (with_reducible exact dec_Made.mono _ _ _ _)
      | (with_reducible exact num_Div.mono _ _ _)
      | (with_reducible exact num_Int.mono _ _)
      | (with_reducible exact LeO.refl _)
      | (with_reducible exact LeO.none _)
      | (with_reducible refine LeO.ite ?_ ?_)
      | (with_reducible refine LeO.bind ?_ (fun _ => ?_))
      | exact ih0 _ _ _ _ _ _ _ _
      | exact dec_Dec_Parts.mono _ _ _ _
      | exact dec_Made.mono _ _ _ _
      | exact num_Div.mono _ _ _
      | exact num_Int.mono _ _
      | exact LeO.none _
      | refine LeO.ite ?_ ?_
      | refine LeO.bind ?_ (fun _ => ?_)
theorem florinlaw03_multiple.mono : ∀ a0 a1 a2 a3 a4 a5 k, LeO (florinlaw03_multiple.f k a0 a1 a2 a3 a4 a5) (florinlaw03_multiple.f (k + 1) a0 a1 a2 a3 a4 a5) := by
  intro a0 a1 a2 a3 a4 a5 k
  have ih0 := florinlaw03_multiple.mono_l k
  unfold florinlaw03_multiple.f
  repeat' first
      | (with_reducible exact ih0 _ _ _ _ _ _ _ _)
      | (with_reducible exact dec_Dec_Parts.mono _ _ _ _)
      | (with_reducible exact dec_Made.mono _ _ _ _)
      | (with_reducible exact num_Div.mono _ _ _)
      | (with_reducible exact num_Int.mono _ _)
      | (with_reducible exact LeO.refl _)
      | (with_reducible exact LeO.none _)
      | (with_reducible refine LeO.ite ?_ ?_)
      | (with_reducible refine LeO.bind ?_ (fun _ => ?_))
      | exact ih0 _ _ _ _ _ _ _ _
      | exact dec_Dec_Parts.mono _ _ _ _
      | exact dec_Made.mono _ _ _ _
      | exact num_Div.mono _ _ _
      | exact num_Int.mono _ _
      | exact LeO.none _
      | refine LeO.ite ?_ ?_
      | refine LeO.bind ?_ (fun _ => ?_)
set_option maxHeartbeats 8000000 in
set_option maxRecDepth 100000 in
theorem florinlaw03_multiple.calls (k : Nat) (a0_0 : Bool) (a0_1 : ByteArray) (a0_2 : Int) (a1_0 : Bool) (a1_1 : ByteArray) (a1_2 : Int) (r : Bool) (w : World) (h : florinlaw03_multiple.f k a0_0 a0_1 a0_2 a1_0 a1_1 a1_2 = some r) :
    Calls Tryd.prog 47 #[.agg #[.bool a0_0, .string a0_1, .int .i64 a0_2], .agg #[.bool a1_0, .string a1_1, .int .i64 a1_2]] w fun e w' => e = .returned (.bool r) ∧ Below w.heap.size w w' := by
  have hu30 := Tryd.underlying30
  have HB := Aside0.mk (Below.refl w.heap.size w)
  have H : ((num_Int.f k a1_1).bind fun bt475 => (if bt475.2 = true then (florinlaw03_multiple.j0 k bt475.1 (decide (bt475.1 < 1)) a0_0 a0_1 a0_2 a1_0 a1_1 a1_2) else (florinlaw03_multiple.j0 k bt475.1 true a0_0 a0_1 a0_2 a1_0 a1_1 a1_2))) = some r := h
  clear h
  replace H := Option.bind_eq_some_iff.mp H
  obtain ⟨⟨t475, t476⟩, A30, H⟩ := H
  replace H : (if t476 = true then (florinlaw03_multiple.j0 k t475 (decide (t475 < 1)) a0_0 a0_1 a0_2 a1_0 a1_1 a1_2) else (florinlaw03_multiple.j0 k t475 true a0_0 a0_1 a0_2 a1_0 a1_1 a1_2)) = some r := H
  have A3 := Aside0.mk A30
  clear A30
  have HC4 := Aside0.mk H
  clear H
  go_enter Tryd.func47, Tryd.ntmps47
  go_upto_region 2 with (first | ((with_reducible refine gate_dst (N := 2) rfl ?_); refine box_event ?hg (N := 2) ?hd (cs := #[.bool a0_0, .string a0_1, .int .i64 a0_2]) (t := 30) ?hr ?_; (case hd => rfl); (case hg => rfl); (case hr => first | (go_simp; done) | (go_simp; rfl)); intro gb473 hg w5 hbox hb; have n0_ := Aside0.mk (below_step (bl_ HB).out hb); have n1_ := Aside0.mk (hbox); have n2_ := Aside0.mk ((by rw [hg]; exact (below_size (bl_ HB).out) : w.heap.size ≤ gb473)); have n3_ := Aside0.mk ((by rw [hg]; exact (below_size (bl_ HB).out) : w.heap.size ≤ gb473)); clear HB; have HB := n0_; have BK473 := n1_; have GW473 := n2_; have GE473 := n3_; clear n0_ n1_ n2_ n3_; clear hb hbox hg) | ((with_reducible refine gate_dst (N := 3) rfl ?_); refine box_event ?hg (N := 3) ?hd (cs := #[.bool a1_0, .string a1_1, .int .i64 a1_2]) (t := 30) ?hr ?_; (case hd => rfl); (case hg => rfl); (case hr => first | (go_simp; done) | (go_simp; rfl)); intro gb474 hg w6 hbox hb; have n0_ := bb_ BK473 hb; have n1_ := Aside0.mk (below_step (bl_ HB).out hb); have n2_ := Aside0.mk (hbox); have n3_ := Aside0.mk ((by rw [hg]; exact (below_size (bl_ HB).out) : w.heap.size ≤ gb474)); have n4_ := Aside0.mk ((by rw [hg]; exact (below_size (bl_ HB).out) : w.heap.size ≤ gb474)); have n5_ := Aside0.mk ((by rw [hg]; exact Nat.ne_of_lt (blk_lt (g := gb473) (o := .cells #[.bool a0_0, .string a0_1, .int .i64 a0_2] 30 (0, 0)) (by (with_reducible repeat (first | refine blk_drewN ?_ _ | refine blk_drew ?_ | refine blk_alloc ?_ _)); exact BK473.out)) : gb473 ≠ gb474)); have n6_ := Aside0.mk ((by rw [hg]; exact Nat.ne_of_gt (blk_lt (g := gb473) (o := .cells #[.bool a0_0, .string a0_1, .int .i64 a0_2] 30 (0, 0)) (by (with_reducible repeat (first | refine blk_drewN ?_ _ | refine blk_drew ?_ | refine blk_alloc ?_ _)); exact BK473.out)) : gb474 ≠ gb473)); clear BK473; clear HB; have BK473 := n0_; have HB := n1_; have BK474 := n2_; have GW474 := n3_; have GE474 := n4_; have NB473_474 := n5_; have NB474_473 := n6_; clear n0_ n1_ n2_ n3_ n4_ n5_ n6_; clear hb hbox hg; have hnb7 := NB474_473.out; have hnc7 := NB473_474.out; have hcz8_0 : w6.cell? ⟨gb474, 0, none⟩ = some (.bool a1_0) := bc_ BK474 0; have hcz8_1 : w6.cell? ⟨gb474, 1, none⟩ = some (.string a1_1) := bc_ BK474 1; have hcz8_2 : w6.cell? ⟨gb474, 2, none⟩ = some (.int .i64 a1_2) := bc_ BK474 2; have hfz8_0 := blk_frozen BK474.out 0; have hfz8_1 := blk_frozen BK474.out 1; have hfz8_2 := blk_frozen BK474.out 2) | ((with_reducible refine gate_callee (f := 61) rfl ?_); refine goesL_ (some 15) rfl rfl Tryd.func61 (by kernel_rfl) rfl #[.string a1_1] rfl (by (try simp only [List.map_toArray, List.map_cons, List.map_nil]); first | done | rfl | (simp only [List.length_drop, List.length_take]; rfl) | (have z_ : ∀ s_ : ByteArray, s_.size ≤ 9223372036854775807 → -(s_.size : Int) = wrap64 (-(s_.size : Int)) := (fun s_ h_ => by unfold wrap64; omega); rw [← z_ _ (by omega)]; rfl) | (simp only [ByteArray.size_append]; rfl)) ?_; (with_reducible refine (num_Int.calls k a1_1 t475 t476 _ A3.out).mono ?_); rintro e w9 ⟨rfl, hb⟩; refine ⟨_, rfl, ?_⟩; have n0_ := bb_ BK473 hb; have n1_ := bb_ BK474 hb; have n2_ := Aside0.mk (below_step (bl_ HB).out hb); clear BK473; clear BK474; clear HB; have BK473 := n0_; have BK474 := n1_; have HB := n2_; clear n0_ n1_ n2_; (try clear hb); (try clear hb2); (try clear hk); (try clear hi)))
  (try simp only [Act.put, List.setIfInBounds_toArray, List.set_cons_zero, List.set_cons_succ])
  go_cut [23] (fun v23 wc => ∃ (kq : Nat) (x23_3 : Bool), v23 = .bool x23_3 ∧ Aside0 (florinlaw03_multiple.j0 kq t475 x23_3 a0_0 a0_1 a0_2 a1_0 a1_1 a1_2 = some r) ∧ Aside0 (kq ≤ k) ∧ Aside0 (wc.heap[gb473]? = some (.cells #[.bool a0_0, .string a0_1, .int .i64 a0_2] 30 (0, 0))) ∧ Aside0 (wc.heap[gb474]? = some (.cells #[.bool a1_0, .string a1_1, .int .i64 a1_2] 30 (0, 0))) ∧ Aside0 (Below w.heap.size w wc))
  case first =>
    have H := HC4.out
    clear HC4
    by_cases c10 : t476 = true
    · subst c10
      have H1 : (florinlaw03_multiple.j0 k t475 (decide (t475 < 1)) a0_0 a0_1 a0_2 a1_0 a1_1 a1_2) = some r := by rw [if_pos rfl] at H; exact H
      clear H
      have H := H1
      clear H1
      have H' := Aside0.mk H
      clear H
      go_wp2
      go_meet
      case rel => exact ⟨_, (decide (t475 < 1)), eq_, H', ⟨by first | omega | exact Nat.le_refl _⟩, (bk_ BK473), (bk_ BK474), (bl_ HB)⟩
    · replace c10 := Bool.eq_false_iff.mpr c10
      subst c10
      have H1 : (florinlaw03_multiple.j0 k t475 true a0_0 a0_1 a0_2 a1_0 a1_1 a1_2) = some r := by rw [if_neg (show ¬ (false = true) by decide)] at H; exact H
      clear H
      have H := H1
      clear H1
      have H' := Aside0.mk H
      clear H
      go_wp2
      go_meet
      case rel => exact ⟨_, (true), eq_, H', ⟨by first | omega | exact Nat.le_refl _⟩, (bk_ BK473), (bk_ BK474), (bl_ HB)⟩
  case rest =>
    clear HC4
    try clear c1
    try clear p2
    try clear c4
    try clear c6
    try clear p6
    try clear c7
    try clear c10
    try clear hcz8_0
    try clear hcz8_1
    try clear hcz8_2
    try clear hfz8_0
    try clear hfz8_1
    try clear hfz8_2
    obtain ⟨kq, x23_3, rfl, HA, HJ3, BK473, BK474, HB⟩ := hcut
    cases kq with
    | zero => exact absurd HA.out (by simp [florinlaw03_multiple.j0])
    | succ kj3 =>
      have H := HA.out
      clear HA
      simp only [florinlaw03_multiple.j0] at H
      by_cases c11 : x23_3 = true
      · subst c11
        have H1 : (some false) = some r := by rw [if_pos rfl] at H; exact H
        clear H
        have H := H1
        clear H1
        obtain rfl := Option.some.inj H
        go_wp2
        go_ret
        exact ⟨by first | rfl | (simp [errW_none, errW_some] <;> rfl) | (simp [*, errW_none, errW_some] <;> first | rfl | exact given_isEmpty _ | exact (given_isEmpty _).symm), by repeat (first | (with_reducible first | exact HB.out | apply below_alloc | apply pw_below_drewN | apply below_drew1 | refine below_set ?_ GE473.out | refine below_set ?_ GE474.out) | exact HB.out)⟩
      · replace c11 := Bool.eq_false_iff.mpr c11
        subst c11
        have H1 : ((dec_Made.f kj3 false a0_1 (wrap64 (a0_2 - a1_2))).bind fun bt477 => ((dec_Dec_Parts.f kj3 bt477.1 bt477.2.1 bt477.2.2).bind fun bt481 => ((num_Div.f kj3 bt481.1 t475).bind fun bt483 => (if bt481.2.toList = ([] : List UInt8) then (some (bt483.2 == 0)) else (some false))))) = some r := by rw [if_neg (show ¬ (false = true) by decide)] at H; exact H
        clear H
        have H := H1
        clear H1
        replace H := Option.bind_eq_some_iff.mp H
        obtain ⟨⟨t477, t478, t479⟩, A120, H⟩ := H
        replace H : ((dec_Dec_Parts.f kj3 t477 t478 t479).bind fun bt481 => ((num_Div.f kj3 bt481.1 t475).bind fun bt483 => (if bt481.2.toList = ([] : List UInt8) then (some (bt483.2 == 0)) else (some false)))) = some r := H
        have A12 := Aside0.mk A120
        clear A120
        replace H := Option.bind_eq_some_iff.mp H
        obtain ⟨⟨t481, t482⟩, A130, H⟩ := H
        replace H : ((num_Div.f kj3 t481 t475).bind fun bt483 => (if t482.toList = ([] : List UInt8) then (some (bt483.2 == 0)) else (some false))) = some r := H
        have A13 := Aside0.mk A130
        clear A130
        replace H := Option.bind_eq_some_iff.mp H
        obtain ⟨⟨t483, t484⟩, A140, H⟩ := H
        replace H : (if t482.toList = ([] : List UInt8) then (some (t484 == 0)) else (some false)) = some r := H
        have A14 := Aside0.mk A140
        clear A140
        by_cases c15 : t482.toList = ([] : List UInt8)
        · rw [if_pos c15] at H
          have c15b0 : (t482.toList == ([] : List UInt8)) = true := beq_iff_eq.mpr c15
          have c15b1 : (t482.toList != ([] : List UInt8)) = false := bne_eq_false_iff_eq.mpr c15
          have c15b2 : (t482.toList.isEmpty) = true := by rw [c15]; rfl
          clear c15
          obtain rfl := Option.some.inj H
          have hnb16 := NB473_474.out
          have hnc16 := NB474_473.out
          have hcz17_0 : wc.cell? ⟨gb473, 0, none⟩ = some (.bool a0_0) := bc_ BK473 0
          have hcz17_1 : wc.cell? ⟨gb473, 1, none⟩ = some (.string a0_1) := bc_ BK473 1
          have hcz17_2 : wc.cell? ⟨gb473, 2, none⟩ = some (.int .i64 a0_2) := bc_ BK473 2
          have hfz17_0 := blk_frozen BK473.out 0
          have hfz17_1 := blk_frozen BK473.out 1
          have hfz17_2 := blk_frozen BK473.out 2
          have hcz18_0 : wc.cell? ⟨gb474, 0, none⟩ = some (.bool a1_0) := bc_ BK474 0
          have hcz18_1 : wc.cell? ⟨gb474, 1, none⟩ = some (.string a1_1) := bc_ BK474 1
          have hcz18_2 : wc.cell? ⟨gb474, 2, none⟩ = some (.int .i64 a1_2) := bc_ BK474 2
          have hfz18_0 := blk_frozen BK474.out 0
          have hfz18_1 := blk_frozen BK474.out 1
          have hfz18_2 := blk_frozen BK474.out 2
          go_wp2_with (first | ((with_reducible refine gate_callee (f := 23) rfl ?_); refine goesL_ (some 31) rfl rfl Tryd.func23 (by kernel_rfl) rfl #[.bool false, .string a0_1, .int .i64 (wrap64 (a0_2 - a1_2))] rfl (by (try simp only [List.map_toArray, List.map_cons, List.map_nil]); first | done | rfl | (simp only [List.length_drop, List.length_take]; rfl) | (have z_ : ∀ s_ : ByteArray, s_.size ≤ 9223372036854775807 → -(s_.size : Int) = wrap64 (-(s_.size : Int)) := (fun s_ h_ => by unfold wrap64; omega); rw [← z_ _ (by omega)]; rfl) | (simp only [ByteArray.size_append]; rfl)) ?_; (with_reducible refine (dec_Made.calls kj3 false a0_1 (wrap64 (a0_2 - a1_2)) t477 t478 t479 _ A12.out).mono ?_); rintro e w19 ⟨rfl, hb⟩; refine ⟨_, rfl, ?_⟩; have n0_ := bb_ BK473 hb; have n1_ := bb_ BK474 hb; have n2_ := Aside0.mk (below_step (bl_ HB).out hb); clear BK473; clear BK474; clear HB; have BK473 := n0_; have BK474 := n1_; have HB := n2_; clear n0_ n1_ n2_; (try clear hb); (try clear hb2); (try clear hk); (try clear hi)) | ((with_reducible refine gate_dst (N := 7) rfl ?_); refine box_event ?hg (N := 7) ?hd (cs := #[.bool false, .string (⟨#[]⟩ : ByteArray), .int .i64 0]) (t := 30) ?hr ?_; (case hd => rfl); (case hg => rfl); (case hr => first | (go_simp; done) | (go_simp; rfl)); intro gb480 hg w20 hbox hb; have n0_ := bb_ BK473 hb; have n1_ := bb_ BK474 hb; have n2_ := Aside0.mk (below_step (bl_ HB).out hb); have n3_ := Aside0.mk (hbox); have n4_ := Aside0.mk ((by rw [hg]; exact (below_size (bl_ HB).out) : w.heap.size ≤ gb480)); have n5_ := Aside0.mk ((by rw [hg]; exact (below_size (bl_ HB).out) : w.heap.size ≤ gb480)); have n6_ := Aside0.mk ((by rw [hg]; exact Nat.ne_of_lt (blk_lt (g := gb473) (o := .cells #[.bool a0_0, .string a0_1, .int .i64 a0_2] 30 (0, 0)) (by (with_reducible repeat (first | refine blk_drewN ?_ _ | refine blk_drew ?_ | refine blk_alloc ?_ _)); exact BK473.out)) : gb473 ≠ gb480)); have n7_ := Aside0.mk ((by rw [hg]; exact Nat.ne_of_gt (blk_lt (g := gb473) (o := .cells #[.bool a0_0, .string a0_1, .int .i64 a0_2] 30 (0, 0)) (by (with_reducible repeat (first | refine blk_drewN ?_ _ | refine blk_drew ?_ | refine blk_alloc ?_ _)); exact BK473.out)) : gb480 ≠ gb473)); have n8_ := Aside0.mk ((by rw [hg]; exact Nat.ne_of_lt (blk_lt (g := gb474) (o := .cells #[.bool a1_0, .string a1_1, .int .i64 a1_2] 30 (0, 0)) (by (with_reducible repeat (first | refine blk_drewN ?_ _ | refine blk_drew ?_ | refine blk_alloc ?_ _)); exact BK474.out)) : gb474 ≠ gb480)); have n9_ := Aside0.mk ((by rw [hg]; exact Nat.ne_of_gt (blk_lt (g := gb474) (o := .cells #[.bool a1_0, .string a1_1, .int .i64 a1_2] 30 (0, 0)) (by (with_reducible repeat (first | refine blk_drewN ?_ _ | refine blk_drew ?_ | refine blk_alloc ?_ _)); exact BK474.out)) : gb480 ≠ gb474)); clear BK473; clear BK474; clear HB; have BK473 := n0_; have BK474 := n1_; have HB := n2_; have BK480 := n3_; have GW480 := n4_; have GE480 := n5_; have NB473_480 := n6_; have NB480_473 := n7_; have NB474_480 := n8_; have NB480_474 := n9_; clear n0_ n1_ n2_ n3_ n4_ n5_ n6_ n7_ n8_ n9_; clear hb hbox hg; have hnb21 := NB480_473.out; have hnc21 := NB473_480.out; have hnb22 := NB480_474.out; have hnc22 := NB474_480.out; have hcz23_0 : w20.cell? ⟨gb480, 0, none⟩ = some (.bool false) := bc_ BK480 0; have hcz23_1 : w20.cell? ⟨gb480, 1, none⟩ = some (.string (⟨#[]⟩ : ByteArray)) := bc_ BK480 1; have hcz23_2 : w20.cell? ⟨gb480, 2, none⟩ = some (.int .i64 0) := bc_ BK480 2; have hfz23_0 := blk_frozen BK480.out 0; have hfz23_1 := blk_frozen BK480.out 1; have hfz23_2 := blk_frozen BK480.out 2) | ((with_reducible refine gate_callee (f := 43) rfl ?_); refine goesL_ (some 34) rfl rfl Tryd.func43 (by kernel_rfl) rfl #[.agg #[.bool t477, .string t478, .int .i64 t479]] rfl (by (try simp only [List.map_toArray, List.map_cons, List.map_nil]); first | done | rfl | (simp only [List.length_drop, List.length_take]; rfl) | (have z_ : ∀ s_ : ByteArray, s_.size ≤ 9223372036854775807 → -(s_.size : Int) = wrap64 (-(s_.size : Int)) := (fun s_ h_ => by unfold wrap64; omega); rw [← z_ _ (by omega)]; rfl) | (simp only [ByteArray.size_append]; rfl)) ?_; (with_reducible refine (dec_Dec_Parts.calls kj3 t477 t478 t479 t481 t482 _ A13.out).mono ?_); rintro e w24 ⟨rfl, hb⟩; refine ⟨_, rfl, ?_⟩; have n0_ := Aside0.mk (blk_below (g := gb473) (o := .cells #[.bool a0_0, .string a0_1, .int .i64 a0_2] 30 (0, 0)) (by (with_reducible repeat (first | refine blk_drewN ?_ _ | refine blk_drew ?_ | refine blk_alloc ?_ _)); refine blk_far ?_ NB473_480.out _; (with_reducible repeat (first | refine blk_drewN ?_ _ | refine blk_drew ?_ | refine blk_alloc ?_ _)); refine blk_far ?_ NB473_480.out _; (with_reducible repeat (first | refine blk_drewN ?_ _ | refine blk_drew ?_ | refine blk_alloc ?_ _)); refine blk_far ?_ NB473_480.out _; (with_reducible repeat (first | refine blk_drewN ?_ _ | refine blk_drew ?_ | refine blk_alloc ?_ _)); exact BK473.out) hb); have n1_ := Aside0.mk (blk_below (g := gb474) (o := .cells #[.bool a1_0, .string a1_1, .int .i64 a1_2] 30 (0, 0)) (by (with_reducible repeat (first | refine blk_drewN ?_ _ | refine blk_drew ?_ | refine blk_alloc ?_ _)); refine blk_far ?_ NB474_480.out _; (with_reducible repeat (first | refine blk_drewN ?_ _ | refine blk_drew ?_ | refine blk_alloc ?_ _)); refine blk_far ?_ NB474_480.out _; (with_reducible repeat (first | refine blk_drewN ?_ _ | refine blk_drew ?_ | refine blk_alloc ?_ _)); refine blk_far ?_ NB474_480.out _; (with_reducible repeat (first | refine blk_drewN ?_ _ | refine blk_drew ?_ | refine blk_alloc ?_ _)); exact BK474.out) hb); have n2_ := Aside0.mk (blk_below (g := gb480) (o := .cells #[.bool t477, .string t478, .int .i64 t479] 30 (0, 0)) (by (with_reducible repeat (first | refine blk_drewN ?_ _ | refine blk_drew ?_ | refine blk_alloc ?_ _)); refine blk_put (cs := #[.bool t477, .string t478, .int .i64 0]) ?_ 2 _ rfl; (with_reducible repeat (first | refine blk_drewN ?_ _ | refine blk_drew ?_ | refine blk_alloc ?_ _)); refine blk_put (cs := #[.bool t477, .string (⟨#[]⟩ : ByteArray), .int .i64 0]) ?_ 1 _ rfl; (with_reducible repeat (first | refine blk_drewN ?_ _ | refine blk_drew ?_ | refine blk_alloc ?_ _)); refine blk_put (cs := #[.bool false, .string (⟨#[]⟩ : ByteArray), .int .i64 0]) ?_ 0 _ rfl; (with_reducible repeat (first | refine blk_drewN ?_ _ | refine blk_drew ?_ | refine blk_alloc ?_ _)); exact BK480.out) hb); have n3_ := Aside0.mk (below_step (bl_ HB).out hb); clear BK473; clear BK474; clear BK480; clear HB; have BK473 := n0_; have BK474 := n1_; have BK480 := n2_; have HB := n3_; clear n0_ n1_ n2_ n3_; (try clear hb); (try clear hb2); (try clear hk); (try clear hi)) | ((with_reducible refine gate_callee (f := 44) rfl ?_); refine goesL_ (some 40) rfl rfl Tryd.func44 (by kernel_rfl) rfl #[.string t481, .int .i64 t475] rfl (by (try simp only [List.map_toArray, List.map_cons, List.map_nil]); first | done | rfl | (simp only [List.length_drop, List.length_take]; rfl) | (have z_ : ∀ s_ : ByteArray, s_.size ≤ 9223372036854775807 → -(s_.size : Int) = wrap64 (-(s_.size : Int)) := (fun s_ h_ => by unfold wrap64; omega); rw [← z_ _ (by omega)]; rfl) | (simp only [ByteArray.size_append]; rfl)) ?_; (with_reducible refine (num_Div.calls kj3 t481 t475 t483 t484 _ A14.out).mono ?_); rintro e w25 ⟨rfl, hb⟩; refine ⟨_, rfl, ?_⟩; have n0_ := bb_ BK473 hb; have n1_ := bb_ BK474 hb; have n2_ := bb_ BK480 hb; have n3_ := Aside0.mk (below_step (bl_ HB).out hb); clear BK473; clear BK474; clear BK480; clear HB; have BK473 := n0_; have BK474 := n1_; have BK480 := n2_; have HB := n3_; clear n0_ n1_ n2_ n3_; (try clear hb); (try clear hb2); (try clear hk); (try clear hi)))
          go_ret
          exact ⟨by first | rfl | (simp [errW_none, errW_some] <;> rfl) | (simp [*, errW_none, errW_some] <;> first | rfl | exact given_isEmpty _ | exact (given_isEmpty _).symm), by repeat (first | (with_reducible first | exact HB.out | apply below_alloc | apply pw_below_drewN | apply below_drew1 | refine below_set ?_ GE473.out | refine below_set ?_ GE474.out | refine below_set ?_ GE480.out) | exact HB.out)⟩
        · rw [if_neg c15] at H
          have c15b0 : (t482.toList == ([] : List UInt8)) = false := beq_eq_false_iff_ne.mpr c15
          have c15b1 : (t482.toList != ([] : List UInt8)) = true := bne_iff_ne.mpr c15
          have c15b2 : (t482.toList.isEmpty) = false := by rw [given_isEmpty, bne_iff_ne.mpr c15]; rfl
          obtain rfl := Option.some.inj H
          have hnb26 := NB473_474.out
          have hnc26 := NB474_473.out
          have hcz27_0 : wc.cell? ⟨gb473, 0, none⟩ = some (.bool a0_0) := bc_ BK473 0
          have hcz27_1 : wc.cell? ⟨gb473, 1, none⟩ = some (.string a0_1) := bc_ BK473 1
          have hcz27_2 : wc.cell? ⟨gb473, 2, none⟩ = some (.int .i64 a0_2) := bc_ BK473 2
          have hfz27_0 := blk_frozen BK473.out 0
          have hfz27_1 := blk_frozen BK473.out 1
          have hfz27_2 := blk_frozen BK473.out 2
          have hcz28_0 : wc.cell? ⟨gb474, 0, none⟩ = some (.bool a1_0) := bc_ BK474 0
          have hcz28_1 : wc.cell? ⟨gb474, 1, none⟩ = some (.string a1_1) := bc_ BK474 1
          have hcz28_2 : wc.cell? ⟨gb474, 2, none⟩ = some (.int .i64 a1_2) := bc_ BK474 2
          have hfz28_0 := blk_frozen BK474.out 0
          have hfz28_1 := blk_frozen BK474.out 1
          have hfz28_2 := blk_frozen BK474.out 2
          go_wp2_with (first | ((with_reducible refine gate_callee (f := 23) rfl ?_); refine goesL_ (some 31) rfl rfl Tryd.func23 (by kernel_rfl) rfl #[.bool false, .string a0_1, .int .i64 (wrap64 (a0_2 - a1_2))] rfl (by (try simp only [List.map_toArray, List.map_cons, List.map_nil]); first | done | rfl | (simp only [List.length_drop, List.length_take]; rfl) | (have z_ : ∀ s_ : ByteArray, s_.size ≤ 9223372036854775807 → -(s_.size : Int) = wrap64 (-(s_.size : Int)) := (fun s_ h_ => by unfold wrap64; omega); rw [← z_ _ (by omega)]; rfl) | (simp only [ByteArray.size_append]; rfl)) ?_; (with_reducible refine (dec_Made.calls kj3 false a0_1 (wrap64 (a0_2 - a1_2)) t477 t478 t479 _ A12.out).mono ?_); rintro e w29 ⟨rfl, hb⟩; refine ⟨_, rfl, ?_⟩; have n0_ := bb_ BK473 hb; have n1_ := bb_ BK474 hb; have n2_ := Aside0.mk (below_step (bl_ HB).out hb); clear BK473; clear BK474; clear HB; have BK473 := n0_; have BK474 := n1_; have HB := n2_; clear n0_ n1_ n2_; (try clear hb); (try clear hb2); (try clear hk); (try clear hi)) | ((with_reducible refine gate_dst (N := 7) rfl ?_); refine box_event ?hg (N := 7) ?hd (cs := #[.bool false, .string (⟨#[]⟩ : ByteArray), .int .i64 0]) (t := 30) ?hr ?_; (case hd => rfl); (case hg => rfl); (case hr => first | (go_simp; done) | (go_simp; rfl)); intro gb480 hg w30 hbox hb; have n0_ := bb_ BK473 hb; have n1_ := bb_ BK474 hb; have n2_ := Aside0.mk (below_step (bl_ HB).out hb); have n3_ := Aside0.mk (hbox); have n4_ := Aside0.mk ((by rw [hg]; exact (below_size (bl_ HB).out) : w.heap.size ≤ gb480)); have n5_ := Aside0.mk ((by rw [hg]; exact (below_size (bl_ HB).out) : w.heap.size ≤ gb480)); have n6_ := Aside0.mk ((by rw [hg]; exact Nat.ne_of_lt (blk_lt (g := gb473) (o := .cells #[.bool a0_0, .string a0_1, .int .i64 a0_2] 30 (0, 0)) (by (with_reducible repeat (first | refine blk_drewN ?_ _ | refine blk_drew ?_ | refine blk_alloc ?_ _)); exact BK473.out)) : gb473 ≠ gb480)); have n7_ := Aside0.mk ((by rw [hg]; exact Nat.ne_of_gt (blk_lt (g := gb473) (o := .cells #[.bool a0_0, .string a0_1, .int .i64 a0_2] 30 (0, 0)) (by (with_reducible repeat (first | refine blk_drewN ?_ _ | refine blk_drew ?_ | refine blk_alloc ?_ _)); exact BK473.out)) : gb480 ≠ gb473)); have n8_ := Aside0.mk ((by rw [hg]; exact Nat.ne_of_lt (blk_lt (g := gb474) (o := .cells #[.bool a1_0, .string a1_1, .int .i64 a1_2] 30 (0, 0)) (by (with_reducible repeat (first | refine blk_drewN ?_ _ | refine blk_drew ?_ | refine blk_alloc ?_ _)); exact BK474.out)) : gb474 ≠ gb480)); have n9_ := Aside0.mk ((by rw [hg]; exact Nat.ne_of_gt (blk_lt (g := gb474) (o := .cells #[.bool a1_0, .string a1_1, .int .i64 a1_2] 30 (0, 0)) (by (with_reducible repeat (first | refine blk_drewN ?_ _ | refine blk_drew ?_ | refine blk_alloc ?_ _)); exact BK474.out)) : gb480 ≠ gb474)); clear BK473; clear BK474; clear HB; have BK473 := n0_; have BK474 := n1_; have HB := n2_; have BK480 := n3_; have GW480 := n4_; have GE480 := n5_; have NB473_480 := n6_; have NB480_473 := n7_; have NB474_480 := n8_; have NB480_474 := n9_; clear n0_ n1_ n2_ n3_ n4_ n5_ n6_ n7_ n8_ n9_; clear hb hbox hg; have hnb31 := NB480_473.out; have hnc31 := NB473_480.out; have hnb32 := NB480_474.out; have hnc32 := NB474_480.out; have hcz33_0 : w30.cell? ⟨gb480, 0, none⟩ = some (.bool false) := bc_ BK480 0; have hcz33_1 : w30.cell? ⟨gb480, 1, none⟩ = some (.string (⟨#[]⟩ : ByteArray)) := bc_ BK480 1; have hcz33_2 : w30.cell? ⟨gb480, 2, none⟩ = some (.int .i64 0) := bc_ BK480 2; have hfz33_0 := blk_frozen BK480.out 0; have hfz33_1 := blk_frozen BK480.out 1; have hfz33_2 := blk_frozen BK480.out 2) | ((with_reducible refine gate_callee (f := 43) rfl ?_); refine goesL_ (some 34) rfl rfl Tryd.func43 (by kernel_rfl) rfl #[.agg #[.bool t477, .string t478, .int .i64 t479]] rfl (by (try simp only [List.map_toArray, List.map_cons, List.map_nil]); first | done | rfl | (simp only [List.length_drop, List.length_take]; rfl) | (have z_ : ∀ s_ : ByteArray, s_.size ≤ 9223372036854775807 → -(s_.size : Int) = wrap64 (-(s_.size : Int)) := (fun s_ h_ => by unfold wrap64; omega); rw [← z_ _ (by omega)]; rfl) | (simp only [ByteArray.size_append]; rfl)) ?_; (with_reducible refine (dec_Dec_Parts.calls kj3 t477 t478 t479 t481 t482 _ A13.out).mono ?_); rintro e w34 ⟨rfl, hb⟩; refine ⟨_, rfl, ?_⟩; have n0_ := Aside0.mk (blk_below (g := gb473) (o := .cells #[.bool a0_0, .string a0_1, .int .i64 a0_2] 30 (0, 0)) (by (with_reducible repeat (first | refine blk_drewN ?_ _ | refine blk_drew ?_ | refine blk_alloc ?_ _)); refine blk_far ?_ NB473_480.out _; (with_reducible repeat (first | refine blk_drewN ?_ _ | refine blk_drew ?_ | refine blk_alloc ?_ _)); refine blk_far ?_ NB473_480.out _; (with_reducible repeat (first | refine blk_drewN ?_ _ | refine blk_drew ?_ | refine blk_alloc ?_ _)); refine blk_far ?_ NB473_480.out _; (with_reducible repeat (first | refine blk_drewN ?_ _ | refine blk_drew ?_ | refine blk_alloc ?_ _)); exact BK473.out) hb); have n1_ := Aside0.mk (blk_below (g := gb474) (o := .cells #[.bool a1_0, .string a1_1, .int .i64 a1_2] 30 (0, 0)) (by (with_reducible repeat (first | refine blk_drewN ?_ _ | refine blk_drew ?_ | refine blk_alloc ?_ _)); refine blk_far ?_ NB474_480.out _; (with_reducible repeat (first | refine blk_drewN ?_ _ | refine blk_drew ?_ | refine blk_alloc ?_ _)); refine blk_far ?_ NB474_480.out _; (with_reducible repeat (first | refine blk_drewN ?_ _ | refine blk_drew ?_ | refine blk_alloc ?_ _)); refine blk_far ?_ NB474_480.out _; (with_reducible repeat (first | refine blk_drewN ?_ _ | refine blk_drew ?_ | refine blk_alloc ?_ _)); exact BK474.out) hb); have n2_ := Aside0.mk (blk_below (g := gb480) (o := .cells #[.bool t477, .string t478, .int .i64 t479] 30 (0, 0)) (by (with_reducible repeat (first | refine blk_drewN ?_ _ | refine blk_drew ?_ | refine blk_alloc ?_ _)); refine blk_put (cs := #[.bool t477, .string t478, .int .i64 0]) ?_ 2 _ rfl; (with_reducible repeat (first | refine blk_drewN ?_ _ | refine blk_drew ?_ | refine blk_alloc ?_ _)); refine blk_put (cs := #[.bool t477, .string (⟨#[]⟩ : ByteArray), .int .i64 0]) ?_ 1 _ rfl; (with_reducible repeat (first | refine blk_drewN ?_ _ | refine blk_drew ?_ | refine blk_alloc ?_ _)); refine blk_put (cs := #[.bool false, .string (⟨#[]⟩ : ByteArray), .int .i64 0]) ?_ 0 _ rfl; (with_reducible repeat (first | refine blk_drewN ?_ _ | refine blk_drew ?_ | refine blk_alloc ?_ _)); exact BK480.out) hb); have n3_ := Aside0.mk (below_step (bl_ HB).out hb); clear BK473; clear BK474; clear BK480; clear HB; have BK473 := n0_; have BK474 := n1_; have BK480 := n2_; have HB := n3_; clear n0_ n1_ n2_ n3_; (try clear hb); (try clear hb2); (try clear hk); (try clear hi)) | ((with_reducible refine gate_callee (f := 44) rfl ?_); refine goesL_ (some 40) rfl rfl Tryd.func44 (by kernel_rfl) rfl #[.string t481, .int .i64 t475] rfl (by (try simp only [List.map_toArray, List.map_cons, List.map_nil]); first | done | rfl | (simp only [List.length_drop, List.length_take]; rfl) | (have z_ : ∀ s_ : ByteArray, s_.size ≤ 9223372036854775807 → -(s_.size : Int) = wrap64 (-(s_.size : Int)) := (fun s_ h_ => by unfold wrap64; omega); rw [← z_ _ (by omega)]; rfl) | (simp only [ByteArray.size_append]; rfl)) ?_; (with_reducible refine (num_Div.calls kj3 t481 t475 t483 t484 _ A14.out).mono ?_); rintro e w35 ⟨rfl, hb⟩; refine ⟨_, rfl, ?_⟩; have n0_ := bb_ BK473 hb; have n1_ := bb_ BK474 hb; have n2_ := bb_ BK480 hb; have n3_ := Aside0.mk (below_step (bl_ HB).out hb); clear BK473; clear BK474; clear BK480; clear HB; have BK473 := n0_; have BK474 := n1_; have BK480 := n2_; have HB := n3_; clear n0_ n1_ n2_ n3_; (try clear hb); (try clear hb2); (try clear hk); (try clear hi)))
          go_ret
          exact ⟨by first | rfl | (simp [errW_none, errW_some] <;> rfl) | (simp [*, errW_none, errW_some] <;> first | rfl | exact given_isEmpty _ | exact (given_isEmpty _).symm), by repeat (first | (with_reducible first | exact HB.out | apply below_alloc | apply pw_below_drewN | apply below_drew1 | refine below_set ?_ GE473.out | refine below_set ?_ GE474.out | refine below_set ?_ GE480.out) | exact HB.out)⟩

/-! ### dec_Dec_Scale: function 65 -/
def dec_Dec_Scale.f (k : Nat) (a0_0 : Bool) (a0_1 : ByteArray) (a0_2 : Int) (a1 : Int) : Option (Bool × ByteArray × Int) := (dec_Dec_Norm.f k a0_0 a0_1 a0_2).bind fun bt487 => ((dec_held.f a1).bind fun t490 => ((dec_Made.f k bt487.1 bt487.2.1 (wrap64 (bt487.2.2 + t490))).bind fun bt491 => (some (bt491.1, bt491.2.1, bt491.2.2))))
theorem dec_Dec_Scale.mono : ∀ a0 a1 a2 a3 k, LeO (dec_Dec_Scale.f k a0 a1 a2 a3) (dec_Dec_Scale.f (k + 1) a0 a1 a2 a3) := by
  intro a0 a1 a2 a3 k
  unfold dec_Dec_Scale.f
  repeat' first
      | (with_reducible exact dec_Dec_Norm.mono _ _ _ _)
      | (with_reducible exact dec_Made.mono _ _ _ _)
      | (with_reducible exact LeO.refl _)
      | (with_reducible exact LeO.none _)
      | (with_reducible refine LeO.ite ?_ ?_)
      | (with_reducible refine LeO.bind ?_ (fun _ => ?_))
      | exact dec_Dec_Norm.mono _ _ _ _
      | exact dec_Made.mono _ _ _ _
      | exact LeO.none _
      | refine LeO.ite ?_ ?_
      | refine LeO.bind ?_ (fun _ => ?_)
def dec_Dec_Scale.T2 : Bool × List (List Nat × List Nat) := (true, [([], []), ([0], [0]), ([], []), ([2], [2]), ([], []), ([4], [4]), ([], []), ([6], [6]), ([5, 7], [5, 7]), ([1, 3, 8, 7], [1, 3, 8]), ([9, 9, 0, 1, 2, 3, 4, 5, 6, 7, 8, 9], [9])])
def dec_Dec_Scale.B2 : List Nat := [0, 1, 0, 4, 0, 16, 0, 64, 240, 511, 1023]
theorem dec_Dec_Scale.tab2 : rtab .any (opsOf Tryd.f65 2) = dec_Dec_Scale.T2 := by kernel_rfl
theorem dec_Dec_Scale.bits2 : waitsOk dec_Dec_Scale.T2.2 dec_Dec_Scale.B2 = true := by kernel_rfl
set_option maxHeartbeats 8000000 in
set_option maxRecDepth 100000 in
theorem dec_Dec_Scale.calls (k : Nat) (a0_0 : Bool) (a0_1 : ByteArray) (a0_2 : Int) (a1 : Int) (r1 : Bool) (r2 : ByteArray) (r3 : Int) (w : World) (h : dec_Dec_Scale.f k a0_0 a0_1 a0_2 a1 = some (r1, r2, r3)) :
    Calls Tryd.prog 65 #[.agg #[.bool a0_0, .string a0_1, .int .i64 a0_2], .int .i64 a1] w fun e w' => e = .returned (.agg #[.bool r1, .string r2, .int .i64 r3]) ∧ Below w.heap.size w w' := by
  have hu30 := Tryd.underlying30
  have HB := Aside0.mk (Below.refl w.heap.size w)
  have H : ((dec_Dec_Norm.f k a0_0 a0_1 a0_2).bind fun bt487 => ((dec_held.f a1).bind fun t490 => ((dec_Made.f k bt487.1 bt487.2.1 (wrap64 (bt487.2.2 + t490))).bind fun bt491 => (some (bt491.1, bt491.2.1, bt491.2.2))))) = some (r1, r2, r3) := h
  clear h
  replace H := Option.bind_eq_some_iff.mp H
  obtain ⟨⟨t487, t488, t489⟩, A30, H⟩ := H
  replace H : ((dec_held.f a1).bind fun t490 => ((dec_Made.f k t487 t488 (wrap64 (t489 + t490))).bind fun bt491 => (some (bt491.1, bt491.2.1, bt491.2.2)))) = some (r1, r2, r3) := H
  have A3 := Aside0.mk A30
  clear A30
  replace H := Option.bind_eq_some_iff.mp H
  obtain ⟨t490, A40, H⟩ := H
  replace H : ((dec_Made.f k t487 t488 (wrap64 (t489 + t490))).bind fun bt491 => (some (bt491.1, bt491.2.1, bt491.2.2))) = some (r1, r2, r3) := H
  have A4 := Aside0.mk A40
  clear A40
  replace H := Option.bind_eq_some_iff.mp H
  obtain ⟨⟨t491, t492, t493⟩, A50, H⟩ := H
  replace H : (some (t491, t492, t493)) = some (r1, r2, r3) := H
  have A5 := Aside0.mk A50
  clear A50
  simp only [Option.some.injEq, Prod.mk.injEq] at H
  obtain ⟨rfl, rfl, rfl⟩ := H
  go_enter Tryd.func65, Tryd.ntmps65
  try go_wp2_with (first | ((with_reducible refine gate_dst (N := 2) rfl ?_); refine box_event ?hg (N := 2) ?hd (cs := #[.bool a0_0, .string a0_1, .int .i64 a0_2]) (t := 30) ?hr ?_; (case hd => rfl); (case hg => rfl); (case hr => first | (go_simp; done) | (go_simp; rfl)); intro gb485 hg w6 hbox hb; have n0_ := Aside0.mk (below_step (bl_ HB).out hb); have n1_ := Aside0.mk (hbox); have n2_ := Aside0.mk ((by rw [hg]; exact (below_size (bl_ HB).out) : w.heap.size ≤ gb485)); have n3_ := Aside0.mk ((by rw [hg]; exact (below_size (bl_ HB).out) : w.heap.size ≤ gb485)); clear HB; have HB := n0_; have BK485 := n1_; have GW485 := n2_; have GE485 := n3_; clear n0_ n1_ n2_ n3_; clear hb hbox hg) | ((with_reducible refine gate_dst (N := 4) rfl ?_); refine box_event ?hg (N := 4) ?hd (cs := #[.bool false, .string (⟨#[]⟩ : ByteArray), .int .i64 0]) (t := 30) ?hr ?_; (case hd => rfl); (case hg => rfl); (case hr => first | (go_simp; done) | (go_simp; rfl)); intro gb486 hg w7 hbox hb; have n0_ := bb_ BK485 hb; have n1_ := Aside0.mk (below_step (bl_ HB).out hb); have n2_ := Aside0.mk (hbox); have n3_ := Aside0.mk ((by rw [hg]; exact (below_size (bl_ HB).out) : w.heap.size ≤ gb486)); have n4_ := Aside0.mk ((by rw [hg]; exact (below_size (bl_ HB).out) : w.heap.size ≤ gb486)); have n5_ := Aside0.mk ((by rw [hg]; exact Nat.ne_of_lt (blk_lt (g := gb485) (o := .cells #[.bool a0_0, .string a0_1, .int .i64 a0_2] 30 (0, 0)) (by (with_reducible repeat (first | refine blk_drewN ?_ _ | refine blk_drew ?_ | refine blk_alloc ?_ _)); exact BK485.out)) : gb485 ≠ gb486)); have n6_ := Aside0.mk ((by rw [hg]; exact Nat.ne_of_gt (blk_lt (g := gb485) (o := .cells #[.bool a0_0, .string a0_1, .int .i64 a0_2] 30 (0, 0)) (by (with_reducible repeat (first | refine blk_drewN ?_ _ | refine blk_drew ?_ | refine blk_alloc ?_ _)); exact BK485.out)) : gb486 ≠ gb485)); clear BK485; clear HB; have BK485 := n0_; have HB := n1_; have BK486 := n2_; have GW486 := n3_; have GE486 := n4_; have NB485_486 := n5_; have NB486_485 := n6_; clear n0_ n1_ n2_ n3_ n4_ n5_ n6_; clear hb hbox hg; have hnb8 := NB485_486.out; have hnc8 := NB486_485.out; have hcz9_0 : w7.cell? ⟨gb485, 0, none⟩ = some (.bool a0_0) := bc_ BK485 0; have hcz9_1 : w7.cell? ⟨gb485, 1, none⟩ = some (.string a0_1) := bc_ BK485 1; have hcz9_2 : w7.cell? ⟨gb485, 2, none⟩ = some (.int .i64 a0_2) := bc_ BK485 2; have hfz9_0 := blk_frozen BK485.out 0; have hfz9_1 := blk_frozen BK485.out 1; have hfz9_2 := blk_frozen BK485.out 2) | ((with_reducible refine gate_callee (f := 22) rfl ?_); refine goesL_ (some 6) rfl rfl Tryd.func22 (by kernel_rfl) rfl #[.agg #[.bool a0_0, .string a0_1, .int .i64 a0_2]] rfl (by (try simp only [List.map_toArray, List.map_cons, List.map_nil]); first | done | rfl | (simp only [List.length_drop, List.length_take]; rfl) | (have z_ : ∀ s_ : ByteArray, s_.size ≤ 9223372036854775807 → -(s_.size : Int) = wrap64 (-(s_.size : Int)) := (fun s_ h_ => by unfold wrap64; omega); rw [← z_ _ (by omega)]; rfl) | (simp only [ByteArray.size_append]; rfl)) ?_; (with_reducible refine (dec_Dec_Norm.calls k a0_0 a0_1 a0_2 t487 t488 t489 _ A3.out).mono ?_); rintro e w10 ⟨rfl, hb⟩; refine ⟨_, rfl, ?_⟩; have n0_ := bb_ BK485 hb; have n1_ := bb_ BK486 hb; have n2_ := Aside0.mk (below_step (bl_ HB).out hb); clear BK485; clear BK486; clear HB; have BK485 := n0_; have BK486 := n1_; have HB := n2_; clear n0_ n1_ n2_; (try clear hb); (try clear hb2); (try clear hk); (try clear hi); have hcz11_0 : w10.cell? ⟨gb485, 0, none⟩ = some (.bool a0_0) := bc_ BK485 0; have hcz11_1 : w10.cell? ⟨gb485, 1, none⟩ = some (.string a0_1) := bc_ BK485 1; have hcz11_2 : w10.cell? ⟨gb485, 2, none⟩ = some (.int .i64 a0_2) := bc_ BK485 2; have hfz11_0 := blk_frozen BK485.out 0; have hfz11_1 := blk_frozen BK485.out 1; have hfz11_2 := blk_frozen BK485.out 2))
  have n0_ : Aside0 ((((w10.setCell ⟨gb485, 0, none⟩ (.bool t487)).setCell ⟨gb485, 1, none⟩ (.string t488)).setCell ⟨gb485, 2, none⟩ (.int .i64 t489)).heap[gb485]? = some (.cells #[.bool t487, .string t488, .int .i64 t489] 30 (0, 0))) := ⟨by (with_reducible repeat (first | refine blk_drewN ?_ _ | refine blk_drew ?_ | refine blk_alloc ?_ _)); refine blk_put (cs := #[.bool t487, .string t488, .int .i64 a0_2]) ?_ 2 _ rfl; (with_reducible repeat (first | refine blk_drewN ?_ _ | refine blk_drew ?_ | refine blk_alloc ?_ _)); refine blk_put (cs := #[.bool t487, .string a0_1, .int .i64 a0_2]) ?_ 1 _ rfl; (with_reducible repeat (first | refine blk_drewN ?_ _ | refine blk_drew ?_ | refine blk_alloc ?_ _)); refine blk_put (cs := #[.bool a0_0, .string a0_1, .int .i64 a0_2]) ?_ 0 _ rfl; (with_reducible repeat (first | refine blk_drewN ?_ _ | refine blk_drew ?_ | refine blk_alloc ?_ _)); exact BK485.out⟩
  have n1_ : Aside0 ((((w10.setCell ⟨gb485, 0, none⟩ (.bool t487)).setCell ⟨gb485, 1, none⟩ (.string t488)).setCell ⟨gb485, 2, none⟩ (.int .i64 t489)).heap[gb486]? = _) := bf_ BK486
  have n2_ : Aside0 (Below w.heap.size w (((w10.setCell ⟨gb485, 0, none⟩ (.bool t487)).setCell ⟨gb485, 1, none⟩ (.string t488)).setCell ⟨gb485, 2, none⟩ (.int .i64 t489))) := (bl_ HB)
  (try clear BK485)
  (try clear BK486)
  (try clear HB)
  generalize (((w10.setCell ⟨gb485, 0, none⟩ (.bool t487)).setCell ⟨gb485, 1, none⟩ (.string t488)).setCell ⟨gb485, 2, none⟩ (.int .i64 t489)) = w12 at n0_ n1_ n2_ ⊢
  have BK485 := n0_
  have BK486 := n1_
  have HB := n2_
  clear n0_ n1_ n2_
  replace BK485 := Aside0.mk (blk_drew BK485.out)
  replace BK486 := Aside0.mk (blk_drew BK486.out)
  replace HB := Aside0.mk (below_drew1 HB.out)
  refine start_ (n := 11) (S := fun w' => w'.cell? ⟨gb485, 0, none⟩ = some (.bool t487) ∧ w'.cell? ⟨gb485, 1, none⟩ = some (.string t488) ∧ w'.cell? ⟨gb485, 2, none⟩ = some (.int .i64 t489)) (ds := []) #[false, false, false, false, false, false, false, false, false, false, false] (by kernel_rfl) rfl rfl ⟨bc_ BK485 0, bc_ BK485 1, bc_ BK485 2⟩ (fun hHeld => ?_); refine with_tabW dec_Dec_Scale.tab2 dec_Dec_Scale.bits2 (fun HT_ HW_ => ?_)
  generalize w12.drew = w13 at BK485 BK486 HB hHeld ⊢
  refine pu_ 0 7 (bm_ 11 1) HT_ ?_
  refine pu_ 2 9 (bm_ 11 5) HT_ ?_
  refine pu_ 4 11 (bm_ 11 21) HT_ ?_
  refine pu_ 6 13 (bm_ 11 85) HT_ ?_
  refine tk_ 1 8 (bm_ 11 87) HT_ HW_ hHeld rfl (by rintro w' ⟨s0, s1, s2⟩; go_simp; with_reducible rfl) ?_
  refine tk_ 3 10 (bm_ 11 95) HT_ HW_ hHeld rfl (by rintro w' ⟨s0, s1, s2⟩; go_simp; with_reducible rfl) ?_
  refine tk_ 5 12 (bm_ 11 127) HT_ HW_ hHeld rfl (by rintro w' ⟨s0, s1, s2⟩; go_simp; with_reducible rfl) ?_
  refine one_ (i := 7) (N := some 14) (bm_ 11 255) rfl rfl (one_of HT_.out (by kernel_rfl)) (by decide) (fun K hK => ?_)
  refine gs_ Tryd.func41 #[.int .i64 a1] ?_
  with_reducible refine (dec_held.calls a1 t490 _ A4.out).mono ?_
  rintro e w14 ⟨rfl, hb⟩
  refine ⟨_, rfl, ?_⟩
  replace BK485 := bb_ BK485 hb
  replace BK486 := bb_ BK486 hb
  replace HB := Aside0.mk (below_step (bl_ HB).out hb)
  (try clear hb)
  (try clear hb2)
  (try clear hk)
  (try clear hi)
  refine hK.out _ _ ⟨bc_ BK485 0, bc_ BK485 1, bc_ BK485 2⟩ (fun hHeld => ?_)
  clear hK K
  refine nm_ 14 ?_
  refine pu_ 8 15 (bm_ 11 511) HT_ ?_
  refine one_ (i := 9) (N := some 16) (bm_ 11 1023) rfl rfl (one_of HT_.out (by kernel_rfl)) (by decide) (fun K hK => ?_)
  refine gs_ Tryd.func23 #[.bool t487, .string t488, .int .i64 (wrap64 (t489 + t490))] ?_
  with_reducible refine (dec_Made.calls k t487 t488 (wrap64 (t489 + t490)) t491 t492 t493 _ A5.out).mono ?_
  rintro e w15 ⟨rfl, hb⟩
  refine ⟨_, rfl, ?_⟩
  replace BK485 := bb_ BK485 hb
  replace BK486 := bb_ BK486 hb
  replace HB := Aside0.mk (below_step (bl_ HB).out hb)
  (try clear hb)
  (try clear hb2)
  (try clear hk)
  (try clear hi)
  refine hK.out _ _ ⟨bc_ BK485 0, bc_ BK485 1, bc_ BK485 2⟩ (fun hHeld => ?_)
  clear hK K
  refine nm_ 16 ?_
  refine one_ (i := 10) (N := none) (bm_ 11 2047) rfl rfl (one_of HT_.out (by kernel_rfl)) (by decide) (fun K hK => ?_)
  have hs16 : w15.cell? ⟨gb486, 0, none⟩ = some (.bool false) := bc_ BK486 0
  have hfs16 := blk_frozen BK486.out 0
  have hns16_0 := NB485_486.out
  have hms16_0 := NB486_485.out
  have hs17 : w15.cell? ⟨gb486, 1, none⟩ = some (.string (⟨#[]⟩ : ByteArray)) := bc_ BK486 1
  have hfs17 := blk_frozen BK486.out 1
  have hns17_0 := NB485_486.out
  have hms17_0 := NB486_485.out
  have hs18 : w15.cell? ⟨gb486, 2, none⟩ = some (.int .i64 0) := bc_ BK486 2
  have hfs18 := blk_frozen BK486.out 2
  have hns18_0 := NB485_486.out
  have hms18_0 := NB486_485.out
  refine skip_ (w1 := ?_) (by rfl) rfl ?_ ?_
  rotate_left
  · go_simp
    rfl
  refine hK.out _ _ ⟨((cell_far (p := ⟨gb486, _, none⟩) NB485_486.out _).trans (((cell_far (p := ⟨gb486, _, none⟩) NB485_486.out _).trans (((cell_far (p := ⟨gb486, _, none⟩) NB485_486.out _).trans (hHeld.1)))))), ((cell_far (p := ⟨gb486, _, none⟩) NB485_486.out _).trans (((cell_far (p := ⟨gb486, _, none⟩) NB485_486.out _).trans (((cell_far (p := ⟨gb486, _, none⟩) NB485_486.out _).trans (hHeld.2.1)))))), ((cell_far (p := ⟨gb486, _, none⟩) NB485_486.out _).trans (((cell_far (p := ⟨gb486, _, none⟩) NB485_486.out _).trans (((cell_far (p := ⟨gb486, _, none⟩) NB485_486.out _).trans (hHeld.2.2))))))⟩ (fun hHeld => ?_)
  clear hK K
  refine done_ (done_of HT_.out (by kernel_rfl)) ?_
  try go_wp2
  refine bodyPost_ret (results_cell_row rfl _ _ gb486 30 #[.bool t491, .string t492, .int .i64 t493] (0, 0) _ rfl (by (with_reducible repeat (first | refine blk_drewN ?_ _ | refine blk_drew ?_ | refine blk_alloc ?_ _)); refine blk_put (cs := #[.bool t491, .string t492, .int .i64 0]) ?_ 2 _ rfl; (with_reducible repeat (first | refine blk_drewN ?_ _ | refine blk_drew ?_ | refine blk_alloc ?_ _)); refine blk_put (cs := #[.bool t491, .string (⟨#[]⟩ : ByteArray), .int .i64 0]) ?_ 1 _ rfl; (with_reducible repeat (first | refine blk_drewN ?_ _ | refine blk_drew ?_ | refine blk_alloc ?_ _)); refine blk_put (cs := #[.bool false, .string (⟨#[]⟩ : ByteArray), .int .i64 0]) ?_ 0 _ rfl; (with_reducible repeat (first | refine blk_drewN ?_ _ | refine blk_drew ?_ | refine blk_alloc ?_ _)); exact BK486.out) Tryd.underlying30 rfl (by kernel_rfl)) rfl ?_
  exact ⟨by first | rfl | (simp [errW_none, errW_some] <;> rfl) | (simp [*, errW_none, errW_some] <;> first | rfl | exact given_isEmpty _ | exact (given_isEmpty _).symm), by repeat (first | (with_reducible first | exact HB.out | apply below_alloc | apply pw_below_drewN | apply below_drew1 | refine below_set ?_ GE485.out | refine below_set ?_ GE486.out) | exact HB.out)⟩

/-! ### florinlaw03_even: function 48 -/
def florinlaw03_even.l0 : Nat → Int → Bool → ByteArray → Int → Bool → ByteArray → Int → Bool → ByteArray → Int → Option (Bool)
  | 0, _, _, _, _, _, _, _, _, _, _ => none
  | k + 1, x6, x495000, x495001, x495002, x496000, x496001, x496002, x497000, x497001, x497002 => if x6 < 4 then ((dec_Add.f k x497000 x497001 x497002 x495000 x495001 x495002).bind fun bt497 => (florinlaw03_even.l0 k (wrap64 (x6 + 1)) x495000 x495001 x495002 x496000 x496001 x496002 bt497.1 bt497.2.1 bt497.2.2)) else ((dec_Dec_Scale.f k x497000 x497001 x497002 (-1)).bind fun bt500 => ((florinlaw03_multiple.f k bt500.1 bt500.2.1 bt500.2.2 x496000 x496001 x496002).bind fun t503 => (some t503)))
def florinlaw03_even.f (k : Nat) (a0_0 : Bool) (a0_1 : ByteArray) (a0_2 : Int) (a1_0 : Bool) (a1_1 : ByteArray) (a1_2 : Int) : Option (Bool) := florinlaw03_even.l0 k 0 a0_0 a0_1 a0_2 a1_0 a1_1 a1_2 a0_0 a0_1 a0_2
theorem florinlaw03_even.mono_l : ∀ k, (∀ y0 y1 y2 y3 y4 y5 y6 y7 y8 y9, LeO (florinlaw03_even.l0 k y0 y1 y2 y3 y4 y5 y6 y7 y8 y9) (florinlaw03_even.l0 (k + 1) y0 y1 y2 y3 y4 y5 y6 y7 y8 y9))
  | 0 => fun _ _ _ _ _ _ _ _ _ _ r h => by simp [florinlaw03_even.l0] at h
  | k + 1 => by
    have ih0 := florinlaw03_even.mono_l k
    · intro y0 y1 y2 y3 y4 y5 y6 y7 y8 y9
      unfold florinlaw03_even.l0
      repeat' first
      | (with_reducible exact ih0 _ _ _ _ _ _ _ _ _ _)
      | (with_reducible exact dec_Add.mono _ _ _ _ _ _ _)
      | (with_reducible exact dec_Dec_Scale.mono _ _ _ _ _)
      | (with_reducible exact florinlaw03_multiple.mono _ _ _ _ _ _ _)
      | (with_reducible exact LeO.refl _)
      | (with_reducible exact LeO.none _)
      | (with_reducible refine LeO.ite ?_ ?_)
      | (with_reducible refine LeO.bind ?_ (fun _ => ?_))
      | exact ih0 _ _ _ _ _ _ _ _ _ _
      | exact dec_Add.mono _ _ _ _ _ _ _
      | exact dec_Dec_Scale.mono _ _ _ _ _
      | exact florinlaw03_multiple.mono _ _ _ _ _ _ _
      | exact LeO.none _
      | refine LeO.ite ?_ ?_
      | refine LeO.bind ?_ (fun _ => ?_)
theorem florinlaw03_even.mono : ∀ a0 a1 a2 a3 a4 a5 k, LeO (florinlaw03_even.f k a0 a1 a2 a3 a4 a5) (florinlaw03_even.f (k + 1) a0 a1 a2 a3 a4 a5) := by
  intro a0 a1 a2 a3 a4 a5 k
  have ih0 := florinlaw03_even.mono_l k
  unfold florinlaw03_even.f
  repeat' first
      | (with_reducible exact ih0 _ _ _ _ _ _ _ _ _ _)
      | (with_reducible exact dec_Add.mono _ _ _ _ _ _ _)
      | (with_reducible exact dec_Dec_Scale.mono _ _ _ _ _)
      | (with_reducible exact florinlaw03_multiple.mono _ _ _ _ _ _ _)
      | (with_reducible exact LeO.refl _)
      | (with_reducible exact LeO.none _)
      | (with_reducible refine LeO.ite ?_ ?_)
      | (with_reducible refine LeO.bind ?_ (fun _ => ?_))
      | exact ih0 _ _ _ _ _ _ _ _ _ _
      | exact dec_Add.mono _ _ _ _ _ _ _
      | exact dec_Dec_Scale.mono _ _ _ _ _
      | exact florinlaw03_multiple.mono _ _ _ _ _ _ _
      | exact LeO.none _
      | refine LeO.ite ?_ ?_
      | refine LeO.bind ?_ (fun _ => ?_)
set_option maxHeartbeats 8000000 in
set_option maxRecDepth 100000 in
theorem florinlaw03_even.calls (k : Nat) (a0_0 : Bool) (a0_1 : ByteArray) (a0_2 : Int) (a1_0 : Bool) (a1_1 : ByteArray) (a1_2 : Int) (r : Bool) (w : World) (h : florinlaw03_even.f k a0_0 a0_1 a0_2 a1_0 a1_1 a1_2 = some r) :
    Calls Tryd.prog 48 #[.agg #[.bool a0_0, .string a0_1, .int .i64 a0_2], .agg #[.bool a1_0, .string a1_1, .int .i64 a1_2]] w fun e w' => e = .returned (.bool r) ∧ Below w.heap.size w w' := by
  have hu30 := Tryd.underlying30
  have HB := Aside0.mk (Below.refl w.heap.size w)
  have H : (florinlaw03_even.l0 k 0 a0_0 a0_1 a0_2 a1_0 a1_1 a1_2 a0_0 a0_1 a0_2) = some r := h
  clear h
  have H' := Aside0.mk H
  clear H
  go_enter Tryd.func48, Tryd.ntmps48
  go_wp2_with (first | ((with_reducible refine gate_dst (N := 2) rfl ?_); refine box_event ?hg (N := 2) ?hd (cs := #[.bool a0_0, .string a0_1, .int .i64 a0_2]) (t := 30) ?hr ?_; (case hd => rfl); (case hg => rfl); (case hr => first | (go_simp; done) | (go_simp; rfl)); intro gb494 hg w3 hbox hb; have n0_ := Aside0.mk (below_step (bl_ HB).out hb); have n1_ := Aside0.mk (hbox); have n2_ := Aside0.mk ((by rw [hg]; exact (below_size (bl_ HB).out) : w.heap.size ≤ gb494)); have n3_ := Aside0.mk ((by rw [hg]; exact (below_size (bl_ HB).out) : w.heap.size ≤ gb494)); clear HB; have HB := n0_; have BK494 := n1_; have GW494 := n2_; have GE494 := n3_; clear n0_ n1_ n2_ n3_; clear hb hbox hg) | ((with_reducible refine gate_dst (N := 3) rfl ?_); refine box_event ?hg (N := 3) ?hd (cs := #[.bool a1_0, .string a1_1, .int .i64 a1_2]) (t := 30) ?hr ?_; (case hd => rfl); (case hg => rfl); (case hr => first | (go_simp; done) | (go_simp; rfl)); intro gb495 hg w4 hbox hb; have n0_ := bb_ BK494 hb; have n1_ := Aside0.mk (below_step (bl_ HB).out hb); have n2_ := Aside0.mk (hbox); have n3_ := Aside0.mk ((by rw [hg]; exact (below_size (bl_ HB).out) : w.heap.size ≤ gb495)); have n4_ := Aside0.mk ((by rw [hg]; exact (below_size (bl_ HB).out) : w.heap.size ≤ gb495)); have n5_ := Aside0.mk ((by rw [hg]; exact Nat.ne_of_lt (blk_lt (g := gb494) (o := .cells #[.bool a0_0, .string a0_1, .int .i64 a0_2] 30 (0, 0)) (by (with_reducible repeat (first | refine blk_drewN ?_ _ | refine blk_drew ?_ | refine blk_alloc ?_ _)); exact BK494.out)) : gb494 ≠ gb495)); have n6_ := Aside0.mk ((by rw [hg]; exact Nat.ne_of_gt (blk_lt (g := gb494) (o := .cells #[.bool a0_0, .string a0_1, .int .i64 a0_2] 30 (0, 0)) (by (with_reducible repeat (first | refine blk_drewN ?_ _ | refine blk_drew ?_ | refine blk_alloc ?_ _)); exact BK494.out)) : gb495 ≠ gb494)); clear BK494; clear HB; have BK494 := n0_; have HB := n1_; have BK495 := n2_; have GW495 := n3_; have GE495 := n4_; have NB494_495 := n5_; have NB495_494 := n6_; clear n0_ n1_ n2_ n3_ n4_ n5_ n6_; clear hb hbox hg; have hnb5 := NB494_495.out; have hnc5 := NB495_494.out; have hcz6_0 : w4.cell? ⟨gb494, 0, none⟩ = some (.bool a0_0) := bc_ BK494 0; have hcz6_1 : w4.cell? ⟨gb494, 1, none⟩ = some (.string a0_1) := bc_ BK494 1; have hcz6_2 : w4.cell? ⟨gb494, 2, none⟩ = some (.int .i64 a0_2) := bc_ BK494 2; have hfz6_0 := blk_frozen BK494.out 0; have hfz6_1 := blk_frozen BK494.out 1; have hfz6_2 := blk_frozen BK494.out 2) | ((with_reducible refine gate_dst (N := 5) rfl ?_); refine box_event ?hg (N := 5) ?hd (cs := #[.bool false, .string (⟨#[]⟩ : ByteArray), .int .i64 0]) (t := 30) ?hr ?_; (case hd => rfl); (case hg => rfl); (case hr => first | (go_simp; done) | (go_simp; rfl)); intro gb496 hg w7 hbox hb; have n0_ := bb_ BK494 hb; have n1_ := bb_ BK495 hb; have n2_ := Aside0.mk (below_step (bl_ HB).out hb); have n3_ := Aside0.mk (hbox); have n4_ := Aside0.mk ((by rw [hg]; exact (below_size (bl_ HB).out) : w.heap.size ≤ gb496)); have n5_ := Aside0.mk ((by rw [hg]; exact (below_size (bl_ HB).out) : w.heap.size ≤ gb496)); have n6_ := Aside0.mk ((by rw [hg]; exact Nat.ne_of_lt (blk_lt (g := gb494) (o := .cells #[.bool a0_0, .string a0_1, .int .i64 a0_2] 30 (0, 0)) (by (with_reducible repeat (first | refine blk_drewN ?_ _ | refine blk_drew ?_ | refine blk_alloc ?_ _)); exact BK494.out)) : gb494 ≠ gb496)); have n7_ := Aside0.mk ((by rw [hg]; exact Nat.ne_of_gt (blk_lt (g := gb494) (o := .cells #[.bool a0_0, .string a0_1, .int .i64 a0_2] 30 (0, 0)) (by (with_reducible repeat (first | refine blk_drewN ?_ _ | refine blk_drew ?_ | refine blk_alloc ?_ _)); exact BK494.out)) : gb496 ≠ gb494)); have n8_ := Aside0.mk ((by rw [hg]; exact Nat.ne_of_lt (blk_lt (g := gb495) (o := .cells #[.bool a1_0, .string a1_1, .int .i64 a1_2] 30 (0, 0)) (by (with_reducible repeat (first | refine blk_drewN ?_ _ | refine blk_drew ?_ | refine blk_alloc ?_ _)); exact BK495.out)) : gb495 ≠ gb496)); have n9_ := Aside0.mk ((by rw [hg]; exact Nat.ne_of_gt (blk_lt (g := gb495) (o := .cells #[.bool a1_0, .string a1_1, .int .i64 a1_2] 30 (0, 0)) (by (with_reducible repeat (first | refine blk_drewN ?_ _ | refine blk_drew ?_ | refine blk_alloc ?_ _)); exact BK495.out)) : gb496 ≠ gb495)); clear BK494; clear BK495; clear HB; have BK494 := n0_; have BK495 := n1_; have HB := n2_; have BK496 := n3_; have GW496 := n4_; have GE496 := n5_; have NB494_496 := n6_; have NB496_494 := n7_; have NB495_496 := n8_; have NB496_495 := n9_; clear n0_ n1_ n2_ n3_ n4_ n5_ n6_ n7_ n8_ n9_; clear hb hbox hg; have hnb8 := NB496_494.out; have hnc8 := NB494_496.out; have hnb9 := NB496_495.out; have hnc9 := NB495_496.out; have hcz10_0 : w7.cell? ⟨gb496, 0, none⟩ = some (.bool false) := bc_ BK496 0; have hcz10_1 : w7.cell? ⟨gb496, 1, none⟩ = some (.string (⟨#[]⟩ : ByteArray)) := bc_ BK496 1; have hcz10_2 : w7.cell? ⟨gb496, 2, none⟩ = some (.int .i64 0) := bc_ BK496 2; have hfz10_0 := blk_frozen BK496.out 0; have hfz10_1 := blk_frozen BK496.out 1; have hfz10_2 := blk_frozen BK496.out 2))
  go_loopg [6] k (fun kq v6 w' => ∃ (x6_1 : Int) (x497000_1 : Bool) (x497001_1 : ByteArray) (x497002_1 : Int), v6 = .int .i64 x6_1 ∧ Aside0 (florinlaw03_even.l0 kq x6_1 a0_0 a0_1 a0_2 a1_0 a1_1 a1_2 x497000_1 x497001_1 x497002_1 = some r) ∧ Aside0 (kq ≤ k) ∧ Aside0 (w'.heap[gb494]? = some (.cells #[.bool a0_0, .string a0_1, .int .i64 a0_2] 30 (0, 0))) ∧ Aside0 (w'.heap[gb495]? = some (.cells #[.bool a1_0, .string a1_1, .int .i64 a1_2] 30 (0, 0))) ∧ Aside0 (w'.heap[gb496]? = some (.cells #[.bool x497000_1, .string x497001_1, .int .i64 x497002_1] 30 (0, 0))) ∧ Aside0 (Below w.heap.size w w'))
  case atStart => exact ⟨(0), (a0_0), (a0_1), (a0_2), eq_, H', ⟨Nat.le_refl _⟩, ⟨by (with_reducible repeat (first | refine blk_drewN ?_ _ | refine blk_drew ?_ | refine blk_alloc ?_ _)); refine blk_far ?_ NB494_496.out _; (with_reducible repeat (first | refine blk_drewN ?_ _ | refine blk_drew ?_ | refine blk_alloc ?_ _)); refine blk_far ?_ NB494_496.out _; (with_reducible repeat (first | refine blk_drewN ?_ _ | refine blk_drew ?_ | refine blk_alloc ?_ _)); refine blk_far ?_ NB494_496.out _; (with_reducible repeat (first | refine blk_drewN ?_ _ | refine blk_drew ?_ | refine blk_alloc ?_ _)); exact BK494.out⟩, ⟨by (with_reducible repeat (first | refine blk_drewN ?_ _ | refine blk_drew ?_ | refine blk_alloc ?_ _)); refine blk_far ?_ NB495_496.out _; (with_reducible repeat (first | refine blk_drewN ?_ _ | refine blk_drew ?_ | refine blk_alloc ?_ _)); refine blk_far ?_ NB495_496.out _; (with_reducible repeat (first | refine blk_drewN ?_ _ | refine blk_drew ?_ | refine blk_alloc ?_ _)); refine blk_far ?_ NB495_496.out _; (with_reducible repeat (first | refine blk_drewN ?_ _ | refine blk_drew ?_ | refine blk_alloc ?_ _)); exact BK495.out⟩, ⟨by (with_reducible repeat (first | refine blk_drewN ?_ _ | refine blk_drew ?_ | refine blk_alloc ?_ _)); refine blk_put (cs := #[.bool a0_0, .string a0_1, .int .i64 0]) ?_ 2 _ rfl; (with_reducible repeat (first | refine blk_drewN ?_ _ | refine blk_drew ?_ | refine blk_alloc ?_ _)); refine blk_put (cs := #[.bool a0_0, .string (⟨#[]⟩ : ByteArray), .int .i64 0]) ?_ 1 _ rfl; (with_reducible repeat (first | refine blk_drewN ?_ _ | refine blk_drew ?_ | refine blk_alloc ?_ _)); refine blk_put (cs := #[.bool false, .string (⟨#[]⟩ : ByteArray), .int .i64 0]) ?_ 0 _ rfl; (with_reducible repeat (first | refine blk_drewN ?_ _ | refine blk_drew ?_ | refine blk_alloc ?_ _)); exact BK496.out⟩, (bl_ HB)⟩
  case round =>
    clear H'
    try clear p2
    try clear c4
    try clear c5
    try clear p6
    try clear c8
    try clear c9
    try clear hcz10_0
    try clear hcz10_1
    try clear hcz10_2
    try clear hcz6_0
    try clear hcz6_1
    try clear hcz6_2
    try clear hfz10_0
    try clear hfz10_1
    try clear hfz10_2
    try clear hfz6_0
    try clear hfz6_1
    try clear hfz6_2
    obtain ⟨x6_1, x497000_1, x497001_1, x497002_1, rfl, HA, HK1, BK494, BK495, BK496, HB⟩ := hrel
    cases gk with
    | zero => exact absurd HA.out (by simp [florinlaw03_even.l0])
    | succ k1 =>
      have H := HA.out
      clear HA
      simp only [florinlaw03_even.l0] at H
      by_cases c11 : x6_1 < 4
      · rw [if_pos c11] at H
        have c11b0 : decide (x6_1 < 4) = true := decide_eq_true c11
        clear c11
        replace H := Option.bind_eq_some_iff.mp H
        obtain ⟨⟨t497, t498, t499⟩, A120, H⟩ := H
        replace H : (florinlaw03_even.l0 k1 (wrap64 (x6_1 + 1)) a0_0 a0_1 a0_2 a1_0 a1_1 a1_2 t497 t498 t499) = some r := H
        have A12 := Aside0.mk A120
        clear A120
        have H' := Aside0.mk H
        clear H
        have hnb13 := NB496_494.out
        have hnc13 := NB494_496.out
        have hnb14 := NB496_495.out
        have hnc14 := NB495_496.out
        have hcz15_0 : wr.cell? ⟨gb496, 0, none⟩ = some (.bool x497000_1) := bc_ BK496 0
        have hcz15_1 : wr.cell? ⟨gb496, 1, none⟩ = some (.string x497001_1) := bc_ BK496 1
        have hcz15_2 : wr.cell? ⟨gb496, 2, none⟩ = some (.int .i64 x497002_1) := bc_ BK496 2
        have hfz15_0 := blk_frozen BK496.out 0
        have hfz15_1 := blk_frozen BK496.out 1
        have hfz15_2 := blk_frozen BK496.out 2
        have hnb16 := NB494_495.out
        have hnc16 := NB495_494.out
        have hcz17_0 : wr.cell? ⟨gb494, 0, none⟩ = some (.bool a0_0) := bc_ BK494 0
        have hcz17_1 : wr.cell? ⟨gb494, 1, none⟩ = some (.string a0_1) := bc_ BK494 1
        have hcz17_2 : wr.cell? ⟨gb494, 2, none⟩ = some (.int .i64 a0_2) := bc_ BK494 2
        have hfz17_0 := blk_frozen BK494.out 0
        have hfz17_1 := blk_frozen BK494.out 1
        have hfz17_2 := blk_frozen BK494.out 2
        go_wp2_with (first | ((with_reducible refine gate_callee (f := 37) rfl ?_); refine goesL_ (some 14) rfl rfl Tryd.func37 (by kernel_rfl) rfl #[.agg #[.bool x497000_1, .string x497001_1, .int .i64 x497002_1], .agg #[.bool a0_0, .string a0_1, .int .i64 a0_2]] rfl (by (try simp only [List.map_toArray, List.map_cons, List.map_nil]); first | done | rfl | (simp only [List.length_drop, List.length_take]; rfl) | (have z_ : ∀ s_ : ByteArray, s_.size ≤ 9223372036854775807 → -(s_.size : Int) = wrap64 (-(s_.size : Int)) := (fun s_ h_ => by unfold wrap64; omega); rw [← z_ _ (by omega)]; rfl) | (simp only [ByteArray.size_append]; rfl)) ?_; (with_reducible refine (dec_Add.calls k1 x497000_1 x497001_1 x497002_1 a0_0 a0_1 a0_2 t497 t498 t499 _ A12.out).mono ?_); rintro e w18 ⟨rfl, hb⟩; refine ⟨_, rfl, ?_⟩; have n0_ := bb_ BK494 hb; have n1_ := bb_ BK495 hb; have n2_ := bb_ BK496 hb; have n3_ := Aside0.mk (below_step (bl_ HB).out hb); clear BK494; clear BK495; clear BK496; clear HB; have BK494 := n0_; have BK495 := n1_; have BK496 := n2_; have HB := n3_; clear n0_ n1_ n2_ n3_; (try clear hb); (try clear hb2); (try clear hk); (try clear hi); have hcz19_0 : w18.cell? ⟨gb496, 0, none⟩ = some (.bool x497000_1) := bc_ BK496 0; have hcz19_1 : w18.cell? ⟨gb496, 1, none⟩ = some (.string x497001_1) := bc_ BK496 1; have hcz19_2 : w18.cell? ⟨gb496, 2, none⟩ = some (.int .i64 x497002_1) := bc_ BK496 2; have hfz19_0 := blk_frozen BK496.out 0; have hfz19_1 := blk_frozen BK496.out 1; have hfz19_2 := blk_frozen BK496.out 2))
        go_roundg k1
        case measure => have := HK1.out; omega
        case rel => exact ⟨(wrap64 (x6_1 + 1)), (t497), (t498), (t499), eq_, H', ⟨by have := HK1.out; omega⟩, ⟨by (with_reducible repeat (first | refine blk_drewN ?_ _ | refine blk_drew ?_ | refine blk_alloc ?_ _)); refine blk_far ?_ NB494_496.out _; (with_reducible repeat (first | refine blk_drewN ?_ _ | refine blk_drew ?_ | refine blk_alloc ?_ _)); refine blk_far ?_ NB494_496.out _; (with_reducible repeat (first | refine blk_drewN ?_ _ | refine blk_drew ?_ | refine blk_alloc ?_ _)); refine blk_far ?_ NB494_496.out _; (with_reducible repeat (first | refine blk_drewN ?_ _ | refine blk_drew ?_ | refine blk_alloc ?_ _)); exact BK494.out⟩, ⟨by (with_reducible repeat (first | refine blk_drewN ?_ _ | refine blk_drew ?_ | refine blk_alloc ?_ _)); refine blk_far ?_ NB495_496.out _; (with_reducible repeat (first | refine blk_drewN ?_ _ | refine blk_drew ?_ | refine blk_alloc ?_ _)); refine blk_far ?_ NB495_496.out _; (with_reducible repeat (first | refine blk_drewN ?_ _ | refine blk_drew ?_ | refine blk_alloc ?_ _)); refine blk_far ?_ NB495_496.out _; (with_reducible repeat (first | refine blk_drewN ?_ _ | refine blk_drew ?_ | refine blk_alloc ?_ _)); exact BK495.out⟩, ⟨by (with_reducible repeat (first | refine blk_drewN ?_ _ | refine blk_drew ?_ | refine blk_alloc ?_ _)); refine blk_put (cs := #[.bool t497, .string t498, .int .i64 x497002_1]) ?_ 2 _ rfl; (with_reducible repeat (first | refine blk_drewN ?_ _ | refine blk_drew ?_ | refine blk_alloc ?_ _)); refine blk_put (cs := #[.bool t497, .string x497001_1, .int .i64 x497002_1]) ?_ 1 _ rfl; (with_reducible repeat (first | refine blk_drewN ?_ _ | refine blk_drew ?_ | refine blk_alloc ?_ _)); refine blk_put (cs := #[.bool x497000_1, .string x497001_1, .int .i64 x497002_1]) ?_ 0 _ rfl; (with_reducible repeat (first | refine blk_drewN ?_ _ | refine blk_drew ?_ | refine blk_alloc ?_ _)); exact BK496.out⟩, (bl_ HB)⟩
      · rw [if_neg c11] at H
        have c11b0 : decide (x6_1 < 4) = false := decide_eq_false c11
        clear c11
        replace H := Option.bind_eq_some_iff.mp H
        obtain ⟨⟨t500, t501, t502⟩, A200, H⟩ := H
        replace H : ((florinlaw03_multiple.f k1 t500 t501 t502 a1_0 a1_1 a1_2).bind fun t503 => (some t503)) = some r := H
        have A20 := Aside0.mk A200
        clear A200
        replace H := Option.bind_eq_some_iff.mp H
        obtain ⟨t503, A210, H⟩ := H
        replace H : (some t503) = some r := H
        have A21 := Aside0.mk A210
        clear A210
        obtain rfl := Option.some.inj H
        have hnb22 := NB496_494.out
        have hnc22 := NB494_496.out
        have hnb23 := NB496_495.out
        have hnc23 := NB495_496.out
        have hcz24_0 : wr.cell? ⟨gb496, 0, none⟩ = some (.bool x497000_1) := bc_ BK496 0
        have hcz24_1 : wr.cell? ⟨gb496, 1, none⟩ = some (.string x497001_1) := bc_ BK496 1
        have hcz24_2 : wr.cell? ⟨gb496, 2, none⟩ = some (.int .i64 x497002_1) := bc_ BK496 2
        have hfz24_0 := blk_frozen BK496.out 0
        have hfz24_1 := blk_frozen BK496.out 1
        have hfz24_2 := blk_frozen BK496.out 2
        go_wp2_with (first | ((with_reducible refine gate_callee (f := 65) rfl ?_); refine goesL_ (some 16) rfl rfl Tryd.func65 (by kernel_rfl) rfl #[.agg #[.bool x497000_1, .string x497001_1, .int .i64 x497002_1], .int .i64 (-1)] rfl (by (try simp only [List.map_toArray, List.map_cons, List.map_nil]); first | done | rfl | (simp only [List.length_drop, List.length_take]; rfl) | (have z_ : ∀ s_ : ByteArray, s_.size ≤ 9223372036854775807 → -(s_.size : Int) = wrap64 (-(s_.size : Int)) := (fun s_ h_ => by unfold wrap64; omega); rw [← z_ _ (by omega)]; rfl) | (simp only [ByteArray.size_append]; rfl)) ?_; (with_reducible refine (dec_Dec_Scale.calls k1 x497000_1 x497001_1 x497002_1 (-1) t500 t501 t502 _ A20.out).mono ?_); rintro e w25 ⟨rfl, hb⟩; refine ⟨_, rfl, ?_⟩; have n0_ := bb_ BK494 hb; have n1_ := bb_ BK495 hb; have n2_ := bb_ BK496 hb; have n3_ := Aside0.mk (below_step (bl_ HB).out hb); clear BK494; clear BK495; clear BK496; clear HB; have BK494 := n0_; have BK495 := n1_; have BK496 := n2_; have HB := n3_; clear n0_ n1_ n2_ n3_; (try clear hb); (try clear hb2); (try clear hk); (try clear hi); have hcz26_0 : w25.cell? ⟨gb496, 0, none⟩ = some (.bool x497000_1) := bc_ BK496 0; have hcz26_1 : w25.cell? ⟨gb496, 1, none⟩ = some (.string x497001_1) := bc_ BK496 1; have hcz26_2 : w25.cell? ⟨gb496, 2, none⟩ = some (.int .i64 x497002_1) := bc_ BK496 2; have hfz26_0 := blk_frozen BK496.out 0; have hfz26_1 := blk_frozen BK496.out 1; have hfz26_2 := blk_frozen BK496.out 2; have hnb27 := NB495_494.out; have hnc27 := NB494_495.out; have hcz28_0 : w25.cell? ⟨gb495, 0, none⟩ = some (.bool a1_0) := bc_ BK495 0; have hcz28_1 : w25.cell? ⟨gb495, 1, none⟩ = some (.string a1_1) := bc_ BK495 1; have hcz28_2 : w25.cell? ⟨gb495, 2, none⟩ = some (.int .i64 a1_2) := bc_ BK495 2; have hfz28_0 := blk_frozen BK495.out 0; have hfz28_1 := blk_frozen BK495.out 1; have hfz28_2 := blk_frozen BK495.out 2) | ((with_reducible refine gate_callee (f := 47) rfl ?_); refine goesL_ (some 19) rfl rfl Tryd.func47 (by kernel_rfl) rfl #[.agg #[.bool t500, .string t501, .int .i64 t502], .agg #[.bool a1_0, .string a1_1, .int .i64 a1_2]] rfl (by (try simp only [List.map_toArray, List.map_cons, List.map_nil]); first | done | rfl | (simp only [List.length_drop, List.length_take]; rfl) | (have z_ : ∀ s_ : ByteArray, s_.size ≤ 9223372036854775807 → -(s_.size : Int) = wrap64 (-(s_.size : Int)) := (fun s_ h_ => by unfold wrap64; omega); rw [← z_ _ (by omega)]; rfl) | (simp only [ByteArray.size_append]; rfl)) ?_; (with_reducible refine (florinlaw03_multiple.calls k1 t500 t501 t502 a1_0 a1_1 a1_2 t503 _ A21.out).mono ?_); rintro e w29 ⟨rfl, hb⟩; refine ⟨_, rfl, ?_⟩; have n0_ := Aside0.mk (blk_below (g := gb494) (o := .cells #[.bool a0_0, .string a0_1, .int .i64 a0_2] 30 (0, 0)) (by (with_reducible repeat (first | refine blk_drewN ?_ _ | refine blk_drew ?_ | refine blk_alloc ?_ _)); refine blk_far ?_ NB494_496.out _; (with_reducible repeat (first | refine blk_drewN ?_ _ | refine blk_drew ?_ | refine blk_alloc ?_ _)); refine blk_far ?_ NB494_496.out _; (with_reducible repeat (first | refine blk_drewN ?_ _ | refine blk_drew ?_ | refine blk_alloc ?_ _)); refine blk_far ?_ NB494_496.out _; (with_reducible repeat (first | refine blk_drewN ?_ _ | refine blk_drew ?_ | refine blk_alloc ?_ _)); exact BK494.out) hb); have n1_ := Aside0.mk (blk_below (g := gb495) (o := .cells #[.bool a1_0, .string a1_1, .int .i64 a1_2] 30 (0, 0)) (by (with_reducible repeat (first | refine blk_drewN ?_ _ | refine blk_drew ?_ | refine blk_alloc ?_ _)); refine blk_far ?_ NB495_496.out _; (with_reducible repeat (first | refine blk_drewN ?_ _ | refine blk_drew ?_ | refine blk_alloc ?_ _)); refine blk_far ?_ NB495_496.out _; (with_reducible repeat (first | refine blk_drewN ?_ _ | refine blk_drew ?_ | refine blk_alloc ?_ _)); refine blk_far ?_ NB495_496.out _; (with_reducible repeat (first | refine blk_drewN ?_ _ | refine blk_drew ?_ | refine blk_alloc ?_ _)); exact BK495.out) hb); have n2_ := Aside0.mk (blk_below (g := gb496) (o := .cells #[.bool t500, .string t501, .int .i64 t502] 30 (0, 0)) (by (with_reducible repeat (first | refine blk_drewN ?_ _ | refine blk_drew ?_ | refine blk_alloc ?_ _)); refine blk_put (cs := #[.bool t500, .string t501, .int .i64 x497002_1]) ?_ 2 _ rfl; (with_reducible repeat (first | refine blk_drewN ?_ _ | refine blk_drew ?_ | refine blk_alloc ?_ _)); refine blk_put (cs := #[.bool t500, .string x497001_1, .int .i64 x497002_1]) ?_ 1 _ rfl; (with_reducible repeat (first | refine blk_drewN ?_ _ | refine blk_drew ?_ | refine blk_alloc ?_ _)); refine blk_put (cs := #[.bool x497000_1, .string x497001_1, .int .i64 x497002_1]) ?_ 0 _ rfl; (with_reducible repeat (first | refine blk_drewN ?_ _ | refine blk_drew ?_ | refine blk_alloc ?_ _)); exact BK496.out) hb); have n3_ := Aside0.mk (below_step (bl_ HB).out hb); clear BK494; clear BK495; clear BK496; clear HB; have BK494 := n0_; have BK495 := n1_; have BK496 := n2_; have HB := n3_; clear n0_ n1_ n2_ n3_; (try clear hb); (try clear hb2); (try clear hk); (try clear hi)))
        go_ret
        exact ⟨by first | rfl | (simp [errW_none, errW_some] <;> rfl) | (simp [*, errW_none, errW_some] <;> first | rfl | exact given_isEmpty _ | exact (given_isEmpty _).symm), by repeat (first | (with_reducible first | exact HB.out | apply below_alloc | apply pw_below_drewN | apply below_drew1 | refine below_set ?_ GE494.out | refine below_set ?_ GE495.out | refine below_set ?_ GE496.out) | exact HB.out)⟩

end Go.Proofs.YtoegmienlhgjnaaDoor.P
