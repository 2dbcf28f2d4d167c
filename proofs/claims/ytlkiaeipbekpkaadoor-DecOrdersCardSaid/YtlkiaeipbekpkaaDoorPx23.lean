-- written by a program of this session (wip/p2)
import Derived.Test.YtlkiaeipbekpkaaDoorPx0
import Derived.Test.YtlkiaeipbekpkaaDoorPx2
import Derived.Test.YtlkiaeipbekpkaaDoorPx3
import Derived.Test.YtlkiaeipbekpkaaDoorPx22
namespace Go.Proofs.YtlkiaeipbekpkaaDoor.P
open Go.RowKit Go.Proofs.YtlkiaeipbekpkaaDoorW.PrintWords Go.Proofs.YtlkiaeipbekpkaaDoorW.PrintLast Go.Proofs.YtlkiaeipbekpkaaDoorW.PrintMore
attribute [local go_sem] max2_int min2_int max_two min_two max_three min_three max_four min_four   -- for this text's walks alone
set_option linter.unusedVariables false
set_option linter.unusedSimpArgs false

/-! ### dec_Add: function 32 -/
def dec_Add.f (k : Nat) (a0_0 : Bool) (a0_1 : ByteArray) (a0_2 : Int) (a1_0 : Bool) (a1_1 : ByteArray) (a1_2 : Int) : Option (Bool × ByteArray × Int) := (dec_Dec_Norm.f k a0_0 a0_1 a0_2).bind fun bt444 => ((dec_Dec_Norm.f k a1_0 a1_1 a1_2).bind fun bt447 => ((dec_both.f bt444.1 bt444.2.1 bt444.2.2 bt447.1 bt447.2.1 bt447.2.2).bind fun bt450 => (if (bt444.1 == bt447.1) = true then ((num_Add.f k bt450.1 bt450.2.1).bind fun t453 => ((dec_Made.f k bt444.1 t453 bt450.2.2).bind fun bt454 => (some (bt454.1, bt454.2.1, bt454.2.2)))) else ((num_Sub.f k bt450.1 bt450.2.1).bind fun bt457 => (if bt457.2 = true then ((dec_Made.f k bt444.1 bt457.1 bt450.2.2).bind fun bt459 => (some (bt459.1, bt459.2.1, bt459.2.2))) else ((num_Sub.f k bt450.2.1 bt450.1).bind fun bt462 => ((dec_Made.f k bt447.1 bt462.1 bt450.2.2).bind fun bt464 => (some (bt464.1, bt464.2.1, bt464.2.2)))))))))
theorem dec_Add.mono : ∀ a0 a1 a2 a3 a4 a5 k, LeO (dec_Add.f k a0 a1 a2 a3 a4 a5) (dec_Add.f (k + 1) a0 a1 a2 a3 a4 a5) := by
  intro a0 a1 a2 a3 a4 a5 k
  unfold dec_Add.f
  repeat' first
      | (with_reducible exact dec_Dec_Norm.mono _ _ _ _)
      | (with_reducible exact dec_Made.mono _ _ _ _)
      | (with_reducible exact num_Add.mono _ _ _)
      | (with_reducible exact num_Sub.mono _ _ _)
      | (with_reducible exact LeO.refl _)
      | (with_reducible exact LeO.none _)
      | (with_reducible refine LeO.ite ?_ ?_)
      | (with_reducible refine LeO.bind ?_ (fun _ => ?_))
      | exact dec_Dec_Norm.mono _ _ _ _
      | exact dec_Made.mono _ _ _ _
      | exact num_Add.mono _ _ _
      | exact num_Sub.mono _ _ _
      | exact LeO.none _
      | refine LeO.ite ?_ ?_
      | refine LeO.bind ?_ (fun _ => ?_)
def dec_Add.T4 : Bool × List (List Nat × List Nat) := (true, [([], []), ([0], [0]), ([], []), ([], []), ([2, 3], [2, 3]), ([], []), ([1, 4, 5, 4], [1, 4, 5]), ([6, 6, 0, 1, 2, 3, 4, 5, 6], [6])])
def dec_Add.B4 : List Nat := [0, 1, 0, 0, 12, 0, 63, 127]
theorem dec_Add.tab4 : rtab .any (opsOf Tryd.f32 4) = dec_Add.T4 := by kernel_rfl
theorem dec_Add.bits4 : waitsOk dec_Add.T4.2 dec_Add.B4 = true := by kernel_rfl
set_option maxHeartbeats 8000000 in
set_option maxRecDepth 100000 in
theorem dec_Add.calls (k : Nat) (a0_0 : Bool) (a0_1 : ByteArray) (a0_2 : Int) (a1_0 : Bool) (a1_1 : ByteArray) (a1_2 : Int) (r1 : Bool) (r2 : ByteArray) (r3 : Int) (w : World) (h : dec_Add.f k a0_0 a0_1 a0_2 a1_0 a1_1 a1_2 = some (r1, r2, r3)) :
    Calls Tryd.prog 32 #[.agg #[.bool a0_0, .string a0_1, .int .i64 a0_2], .agg #[.bool a1_0, .string a1_1, .int .i64 a1_2]] w fun e w' => e = .returned (.agg #[.bool r1, .string r2, .int .i64 r3]) ∧ Below w.heap.size w w' := by
  have hu24 := Tryd.underlying24
  have HB := Aside0.mk (Below.refl w.heap.size w)
  have H : ((dec_Dec_Norm.f k a0_0 a0_1 a0_2).bind fun bt444 => ((dec_Dec_Norm.f k a1_0 a1_1 a1_2).bind fun bt447 => ((dec_both.f bt444.1 bt444.2.1 bt444.2.2 bt447.1 bt447.2.1 bt447.2.2).bind fun bt450 => (if (bt444.1 == bt447.1) = true then ((num_Add.f k bt450.1 bt450.2.1).bind fun t453 => ((dec_Made.f k bt444.1 t453 bt450.2.2).bind fun bt454 => (some (bt454.1, bt454.2.1, bt454.2.2)))) else ((num_Sub.f k bt450.1 bt450.2.1).bind fun bt457 => (if bt457.2 = true then ((dec_Made.f k bt444.1 bt457.1 bt450.2.2).bind fun bt459 => (some (bt459.1, bt459.2.1, bt459.2.2))) else ((num_Sub.f k bt450.2.1 bt450.1).bind fun bt462 => ((dec_Made.f k bt447.1 bt462.1 bt450.2.2).bind fun bt464 => (some (bt464.1, bt464.2.1, bt464.2.2)))))))))) = some (r1, r2, r3) := h
  clear h
  replace H := Option.bind_eq_some_iff.mp H
  obtain ⟨⟨t444, t445, t446⟩, A30, H⟩ := H
  replace H : ((dec_Dec_Norm.f k a1_0 a1_1 a1_2).bind fun bt447 => ((dec_both.f t444 t445 t446 bt447.1 bt447.2.1 bt447.2.2).bind fun bt450 => (if (t444 == bt447.1) = true then ((num_Add.f k bt450.1 bt450.2.1).bind fun t453 => ((dec_Made.f k t444 t453 bt450.2.2).bind fun bt454 => (some (bt454.1, bt454.2.1, bt454.2.2)))) else ((num_Sub.f k bt450.1 bt450.2.1).bind fun bt457 => (if bt457.2 = true then ((dec_Made.f k t444 bt457.1 bt450.2.2).bind fun bt459 => (some (bt459.1, bt459.2.1, bt459.2.2))) else ((num_Sub.f k bt450.2.1 bt450.1).bind fun bt462 => ((dec_Made.f k bt447.1 bt462.1 bt450.2.2).bind fun bt464 => (some (bt464.1, bt464.2.1, bt464.2.2))))))))) = some (r1, r2, r3) := H
  have A3 := Aside0.mk A30
  clear A30
  replace H := Option.bind_eq_some_iff.mp H
  obtain ⟨⟨t447, t448, t449⟩, A40, H⟩ := H
  replace H : ((dec_both.f t444 t445 t446 t447 t448 t449).bind fun bt450 => (if (t444 == t447) = true then ((num_Add.f k bt450.1 bt450.2.1).bind fun t453 => ((dec_Made.f k t444 t453 bt450.2.2).bind fun bt454 => (some (bt454.1, bt454.2.1, bt454.2.2)))) else ((num_Sub.f k bt450.1 bt450.2.1).bind fun bt457 => (if bt457.2 = true then ((dec_Made.f k t444 bt457.1 bt450.2.2).bind fun bt459 => (some (bt459.1, bt459.2.1, bt459.2.2))) else ((num_Sub.f k bt450.2.1 bt450.1).bind fun bt462 => ((dec_Made.f k t447 bt462.1 bt450.2.2).bind fun bt464 => (some (bt464.1, bt464.2.1, bt464.2.2)))))))) = some (r1, r2, r3) := H
  have A4 := Aside0.mk A40
  clear A40
  replace H := Option.bind_eq_some_iff.mp H
  obtain ⟨⟨t450, t451, t452⟩, A50, H⟩ := H
  replace H : (if (t444 == t447) = true then ((num_Add.f k t450 t451).bind fun t453 => ((dec_Made.f k t444 t453 t452).bind fun bt454 => (some (bt454.1, bt454.2.1, bt454.2.2)))) else ((num_Sub.f k t450 t451).bind fun bt457 => (if bt457.2 = true then ((dec_Made.f k t444 bt457.1 t452).bind fun bt459 => (some (bt459.1, bt459.2.1, bt459.2.2))) else ((num_Sub.f k t451 t450).bind fun bt462 => ((dec_Made.f k t447 bt462.1 t452).bind fun bt464 => (some (bt464.1, bt464.2.1, bt464.2.2))))))) = some (r1, r2, r3) := H
  have A5 := Aside0.mk A50
  clear A50
  by_cases c6 : (t444 == t447) = true
  · rw [if_pos c6] at H
    have c6b0 : (t444 == t447) = true := c6
    (try (have c6b1 : decide (t444 = t447) = true := by simpa using c6))
    (try (have c6b2 : (t444 == t447) = true := by simpa using c6))
    clear c6
    replace H := Option.bind_eq_some_iff.mp H
    obtain ⟨t453, A70, H⟩ := H
    replace H : ((dec_Made.f k t444 t453 t452).bind fun bt454 => (some (bt454.1, bt454.2.1, bt454.2.2))) = some (r1, r2, r3) := H
    have A7 := Aside0.mk A70
    clear A70
    replace H := Option.bind_eq_some_iff.mp H
    obtain ⟨⟨t454, t455, t456⟩, A80, H⟩ := H
    replace H : (some (t454, t455, t456)) = some (r1, r2, r3) := H
    have A8 := Aside0.mk A80
    clear A80
    simp only [Option.some.injEq, Prod.mk.injEq] at H
    obtain ⟨rfl, rfl, rfl⟩ := H
    go_enter Tryd.func32, Tryd.ntmps32
    try go_wp2_with (first | ((with_reducible refine gate_dst (N := 2) rfl ?_); refine box_event ?hg (N := 2) ?hd (cs := #[.bool a0_0, .string a0_1, .int .i64 a0_2]) (t := 24) ?hr ?_; (case hd => rfl); (case hg => rfl); (case hr => first | (go_simp; done) | (go_simp; rfl)); intro gb441 hg w9 hbox hb; have n0_ := Aside0.mk (below_step (bl_ HB).out hb); have n1_ := Aside0.mk (hbox); have n2_ := Aside0.mk ((by rw [hg]; exact (below_size (bl_ HB).out) : w.heap.size ≤ gb441)); have n3_ := Aside0.mk ((by rw [hg]; exact (below_size (bl_ HB).out) : w.heap.size ≤ gb441)); clear HB; have HB := n0_; have BK441 := n1_; have GW441 := n2_; have GE441 := n3_; clear n0_ n1_ n2_ n3_; clear hb hbox hg) | ((with_reducible refine gate_dst (N := 3) rfl ?_); refine box_event ?hg (N := 3) ?hd (cs := #[.bool a1_0, .string a1_1, .int .i64 a1_2]) (t := 24) ?hr ?_; (case hd => rfl); (case hg => rfl); (case hr => first | (go_simp; done) | (go_simp; rfl)); intro gb442 hg w10 hbox hb; have n0_ := bb_ BK441 hb; have n1_ := Aside0.mk (below_step (bl_ HB).out hb); have n2_ := Aside0.mk (hbox); have n3_ := Aside0.mk ((by rw [hg]; exact (below_size (bl_ HB).out) : w.heap.size ≤ gb442)); have n4_ := Aside0.mk ((by rw [hg]; exact (below_size (bl_ HB).out) : w.heap.size ≤ gb442)); have n5_ := Aside0.mk ((by rw [hg]; exact Nat.ne_of_lt (blk_lt (g := gb441) (o := .cells #[.bool a0_0, .string a0_1, .int .i64 a0_2] 24 (0, 0)) (by (with_reducible repeat (first | refine blk_drewN ?_ _ | refine blk_drew ?_ | refine blk_alloc ?_ _)); exact BK441.out)) : gb441 ≠ gb442)); have n6_ := Aside0.mk ((by rw [hg]; exact Nat.ne_of_gt (blk_lt (g := gb441) (o := .cells #[.bool a0_0, .string a0_1, .int .i64 a0_2] 24 (0, 0)) (by (with_reducible repeat (first | refine blk_drewN ?_ _ | refine blk_drew ?_ | refine blk_alloc ?_ _)); exact BK441.out)) : gb442 ≠ gb441)); clear BK441; clear HB; have BK441 := n0_; have HB := n1_; have BK442 := n2_; have GW442 := n3_; have GE442 := n4_; have NB441_442 := n5_; have NB442_441 := n6_; clear n0_ n1_ n2_ n3_ n4_ n5_ n6_; clear hb hbox hg) | ((with_reducible refine gate_dst (N := 4) rfl ?_); refine box_event ?hg (N := 4) ?hd (cs := #[.bool false, .string (⟨#[]⟩ : ByteArray), .int .i64 0]) (t := 24) ?hr ?_; (case hd => rfl); (case hg => rfl); (case hr => first | (go_simp; done) | (go_simp; rfl)); intro gb443 hg w11 hbox hb; have n0_ := bb_ BK441 hb; have n1_ := bb_ BK442 hb; have n2_ := Aside0.mk (below_step (bl_ HB).out hb); have n3_ := Aside0.mk (hbox); have n4_ := Aside0.mk ((by rw [hg]; exact (below_size (bl_ HB).out) : w.heap.size ≤ gb443)); have n5_ := Aside0.mk ((by rw [hg]; exact (below_size (bl_ HB).out) : w.heap.size ≤ gb443)); have n6_ := Aside0.mk ((by rw [hg]; exact Nat.ne_of_lt (blk_lt (g := gb441) (o := .cells #[.bool a0_0, .string a0_1, .int .i64 a0_2] 24 (0, 0)) (by (with_reducible repeat (first | refine blk_drewN ?_ _ | refine blk_drew ?_ | refine blk_alloc ?_ _)); exact BK441.out)) : gb441 ≠ gb443)); have n7_ := Aside0.mk ((by rw [hg]; exact Nat.ne_of_gt (blk_lt (g := gb441) (o := .cells #[.bool a0_0, .string a0_1, .int .i64 a0_2] 24 (0, 0)) (by (with_reducible repeat (first | refine blk_drewN ?_ _ | refine blk_drew ?_ | refine blk_alloc ?_ _)); exact BK441.out)) : gb443 ≠ gb441)); have n8_ := Aside0.mk ((by rw [hg]; exact Nat.ne_of_lt (blk_lt (g := gb442) (o := .cells #[.bool a1_0, .string a1_1, .int .i64 a1_2] 24 (0, 0)) (by (with_reducible repeat (first | refine blk_drewN ?_ _ | refine blk_drew ?_ | refine blk_alloc ?_ _)); exact BK442.out)) : gb442 ≠ gb443)); have n9_ := Aside0.mk ((by rw [hg]; exact Nat.ne_of_gt (blk_lt (g := gb442) (o := .cells #[.bool a1_0, .string a1_1, .int .i64 a1_2] 24 (0, 0)) (by (with_reducible repeat (first | refine blk_drewN ?_ _ | refine blk_drew ?_ | refine blk_alloc ?_ _)); exact BK442.out)) : gb443 ≠ gb442)); clear BK441; clear BK442; clear HB; have BK441 := n0_; have BK442 := n1_; have HB := n2_; have BK443 := n3_; have GW443 := n4_; have GE443 := n5_; have NB441_443 := n6_; have NB443_441 := n7_; have NB442_443 := n8_; have NB443_442 := n9_; clear n0_ n1_ n2_ n3_ n4_ n5_ n6_ n7_ n8_ n9_; clear hb hbox hg))
    have n0_ := Aside0.mk (blk_drew BK441.out)
    have n1_ := Aside0.mk (blk_drew BK442.out)
    have n2_ := Aside0.mk (blk_drew BK443.out)
    have n3_ := Aside0.mk (below_drew1 HB.out)
    clear BK441
    clear BK442
    clear BK443
    clear HB
    have BK441 := n0_
    have BK442 := n1_
    have BK443 := n2_
    have HB := n3_
    clear n0_ n1_ n2_ n3_
    refine start_ (n := 6) (S := fun w' => w'.cell? ⟨gb441, 0, none⟩ = some (.bool a0_0) ∧ w'.cell? ⟨gb441, 1, none⟩ = some (.string a0_1) ∧ w'.cell? ⟨gb441, 2, none⟩ = some (.int .i64 a0_2) ∧ w'.cell? ⟨gb442, 0, none⟩ = some (.bool a1_0) ∧ w'.cell? ⟨gb442, 1, none⟩ = some (.string a1_1) ∧ w'.cell? ⟨gb442, 2, none⟩ = some (.int .i64 a1_2)) (ds := [4, 5]) #[false, false, false, false, false, false] (by kernel_rfl) rfl rfl ⟨(blk_cell BK441.out 0).trans rfl, (blk_cell BK441.out 1).trans rfl, (blk_cell BK441.out 2).trans rfl, (blk_cell BK442.out 0).trans rfl, (blk_cell BK442.out 1).trans rfl, (blk_cell BK442.out 2).trans rfl⟩ (fun hHeld => ?_)
    generalize w11.drew = w12 at BK441 BK442 BK443 HB hHeld ⊢
    refine take_ (i := 0) (N := some 12) (v := ?_) (a' := ?_) #[true, false, false, false, false, false] rfl rfl (by kernel_rfl) (fun _ _ _ h => h) (Or.inl ⟨by rfl, ?_⟩) hHeld ?_ ?_
    rotate_left
    · rintro w' ⟨s0, s1, s2, s3, s4, s5⟩
      go_simp
      with_reducible rfl
    rotate_left
    · simp only [Act.put, List.setIfInBounds_toArray, List.set_cons_zero, List.set_cons_succ, i64_w, i32_w]
      rfl
    refine take_ (i := 2) (N := some 14) (v := ?_) (a' := ?_) #[true, false, true, false, false, false] rfl rfl (by kernel_rfl) (fun _ _ _ h => h) (Or.inl ⟨by rfl, ?_⟩) hHeld ?_ ?_
    rotate_left
    · rintro w' ⟨s0, s1, s2, s3, s4, s5⟩
      go_simp
      with_reducible rfl
    rotate_left
    · simp only [Act.put, List.setIfInBounds_toArray, List.set_cons_zero, List.set_cons_succ, i64_w, i32_w]
      rfl
    refine one_ (i := 1) (N := some 13) #[true, true, true, false, false, false] rfl rfl (by kernel_rfl) (by decide) (fun K hK => ?_)
    refine goes_ Tryd.func19 (by kernel_rfl) rfl #[.agg #[.bool a0_0, .string a0_1, .int .i64 a0_2]] (by rfl) rfl rfl (by (try simp only [List.map_toArray, List.map_cons, List.map_nil]); first | done | rfl | (simp only [List.length_drop, List.length_take]; rfl) | (have z_ : ∀ s_ : ByteArray, s_.size ≤ 9223372036854775807 → -(s_.size : Int) = wrap64 (-(s_.size : Int)) := (fun s_ h_ => by unfold wrap64; omega); rw [← z_ _ (by omega)]; rfl)) ?_
    with_reducible refine (dec_Dec_Norm.calls k a0_0 a0_1 a0_2 t444 t445 t446 _ A3.out).mono ?_
    rintro e w13 ⟨rfl, hb⟩
    refine ⟨_, rfl, ?_⟩
    have n0_ := bb_ BK441 hb
    have n1_ := bb_ BK442 hb
    have n2_ := bb_ BK443 hb
    have n3_ := Aside0.mk (below_step (bl_ HB).out hb)
    clear BK441
    clear BK442
    clear BK443
    clear HB
    have BK441 := n0_
    have BK442 := n1_
    have BK443 := n2_
    have HB := n3_
    clear n0_ n1_ n2_ n3_
    (try clear hb)
    (try clear hb2)
    (try clear hk)
    (try clear hi)
    refine hK.out _ _ ⟨(blk_cell BK441.out 0).trans rfl, (blk_cell BK441.out 1).trans rfl, (blk_cell BK441.out 2).trans rfl, (blk_cell BK442.out 0).trans rfl, (blk_cell BK442.out 1).trans rfl, (blk_cell BK442.out 2).trans rfl⟩ (fun hHeld => ?_)
    clear hK K
    refine norm_ (a' := ?_) ?_ ?_
    rotate_left
    · show Act.put _ (some 13) _ = _
      simp only [Act.put, List.setIfInBounds_toArray, List.set_cons_zero, List.set_cons_succ, i64_w, i32_w]
      rfl
    refine one_ (i := 3) (N := some 15) #[true, true, true, true, false, false] rfl rfl (by kernel_rfl) (by decide) (fun K hK => ?_)
    refine goes_ Tryd.func19 (by kernel_rfl) rfl #[.agg #[.bool a1_0, .string a1_1, .int .i64 a1_2]] (by rfl) rfl rfl (by (try simp only [List.map_toArray, List.map_cons, List.map_nil]); first | done | rfl | (simp only [List.length_drop, List.length_take]; rfl) | (have z_ : ∀ s_ : ByteArray, s_.size ≤ 9223372036854775807 → -(s_.size : Int) = wrap64 (-(s_.size : Int)) := (fun s_ h_ => by unfold wrap64; omega); rw [← z_ _ (by omega)]; rfl)) ?_
    with_reducible refine (dec_Dec_Norm.calls k a1_0 a1_1 a1_2 t447 t448 t449 _ A4.out).mono ?_
    rintro e w14 ⟨rfl, hb⟩
    refine ⟨_, rfl, ?_⟩
    have n0_ := bb_ BK441 hb
    have n1_ := bb_ BK442 hb
    have n2_ := bb_ BK443 hb
    have n3_ := Aside0.mk (below_step (bl_ HB).out hb)
    clear BK441
    clear BK442
    clear BK443
    clear HB
    have BK441 := n0_
    have BK442 := n1_
    have BK443 := n2_
    have HB := n3_
    clear n0_ n1_ n2_ n3_
    (try clear hb)
    (try clear hb2)
    (try clear hk)
    (try clear hi)
    refine hK.out _ _ ⟨(blk_cell BK441.out 0).trans rfl, (blk_cell BK441.out 1).trans rfl, (blk_cell BK441.out 2).trans rfl, (blk_cell BK442.out 0).trans rfl, (blk_cell BK442.out 1).trans rfl, (blk_cell BK442.out 2).trans rfl⟩ (fun hHeld => ?_)
    clear hK K
    refine norm_ (a' := ?_) ?_ ?_
    rotate_left
    · show Act.put _ (some 15) _ = _
      simp only [Act.put, List.setIfInBounds_toArray, List.set_cons_zero, List.set_cons_succ, i64_w, i32_w]
      rfl
    refine last_ (i := 4) (N := none) #[true, true, true, true, true, false] rfl rfl (by kernel_rfl) (by decide) (fun K hK => ?_)
    have hs15 : w14.cell? ⟨gb441, 0, none⟩ = some (.bool a0_0) := (blk_cell BK441.out 0).trans rfl
    have hfs15 := blk_frozen BK441.out 0
    have hns15_1 := NB442_441.out
    have hns15_2 := NB443_441.out
    have hms15_1 := NB441_442.out
    have hms15_2 := NB441_443.out
    have hs16 : w14.cell? ⟨gb441, 1, none⟩ = some (.string a0_1) := (blk_cell BK441.out 1).trans rfl
    have hfs16 := blk_frozen BK441.out 1
    have hns16_1 := NB442_441.out
    have hns16_2 := NB443_441.out
    have hms16_1 := NB441_442.out
    have hms16_2 := NB441_443.out
    have hs17 : w14.cell? ⟨gb441, 2, none⟩ = some (.int .i64 a0_2) := (blk_cell BK441.out 2).trans rfl
    have hfs17 := blk_frozen BK441.out 2
    have hns17_1 := NB442_441.out
    have hns17_2 := NB443_441.out
    have hms17_1 := NB441_442.out
    have hms17_2 := NB441_443.out
    refine skip_ (w1 := ?_) (by rfl) rfl ?_ ?_
    rotate_left
    · go_simp
      rfl
    refine hK.out _ _ ?_
    clear hK K
    refine last_ (i := 5) (N := none) #[true, true, true, true, true, true] rfl rfl (by kernel_rfl) (by decide) (fun K hK => ?_)
    have hs18 : w14.cell? ⟨gb442, 0, none⟩ = some (.bool a1_0) := (blk_cell BK442.out 0).trans rfl
    have hfs18 := blk_frozen BK442.out 0
    have hns18_0 := NB441_442.out
    have hns18_2 := NB443_442.out
    have hms18_0 := NB442_441.out
    have hms18_2 := NB442_443.out
    have hs19 : w14.cell? ⟨gb442, 1, none⟩ = some (.string a1_1) := (blk_cell BK442.out 1).trans rfl
    have hfs19 := blk_frozen BK442.out 1
    have hns19_0 := NB441_442.out
    have hns19_2 := NB443_442.out
    have hms19_0 := NB442_441.out
    have hms19_2 := NB442_443.out
    have hs20 : w14.cell? ⟨gb442, 2, none⟩ = some (.int .i64 a1_2) := (blk_cell BK442.out 2).trans rfl
    have hfs20 := blk_frozen BK442.out 2
    have hns20_0 := NB441_442.out
    have hns20_2 := NB443_442.out
    have hms20_0 := NB442_441.out
    have hms20_2 := NB442_443.out
    refine skip_ (w1 := ?_) (by rfl) rfl ?_ ?_
    rotate_left
    · go_simp
      rfl
    refine hK.out _ _ ?_
    clear hK K
    refine done_ (by kernel_rfl) ?_
    have hnb21 := NB441_442.out
    have hnc21 := NB442_441.out
    have hnb22 := NB441_443.out
    have hnc22 := NB443_441.out
    have hcz23_0 : w14.cell? ⟨gb441, 0, none⟩ = some (.bool a0_0) := (blk_cell BK441.out 0).trans rfl
    have hcz23_1 : w14.cell? ⟨gb441, 1, none⟩ = some (.string a0_1) := (blk_cell BK441.out 1).trans rfl
    have hcz23_2 : w14.cell? ⟨gb441, 2, none⟩ = some (.int .i64 a0_2) := (blk_cell BK441.out 2).trans rfl
    have hfz23_0 := blk_frozen BK441.out 0
    have hfz23_1 := blk_frozen BK441.out 1
    have hfz23_2 := blk_frozen BK441.out 2
    have hnb24 := NB442_443.out
    have hnc24 := NB443_442.out
    have hcz25_0 : w14.cell? ⟨gb442, 0, none⟩ = some (.bool a1_0) := (blk_cell BK442.out 0).trans rfl
    have hcz25_1 : w14.cell? ⟨gb442, 1, none⟩ = some (.string a1_1) := (blk_cell BK442.out 1).trans rfl
    have hcz25_2 : w14.cell? ⟨gb442, 2, none⟩ = some (.int .i64 a1_2) := (blk_cell BK442.out 2).trans rfl
    have hfz25_0 := blk_frozen BK442.out 0
    have hfz25_1 := blk_frozen BK442.out 1
    have hfz25_2 := blk_frozen BK442.out 2
    try go_wp2_with (first | ((with_reducible refine gate_callee (f := 54) rfl ?_); refine goesL_ (some 19) rfl rfl Tryd.func54 (by kernel_rfl) rfl #[.agg #[.bool t444, .string t445, .int .i64 t446], .agg #[.bool t447, .string t448, .int .i64 t449]] rfl (by (try simp only [List.map_toArray, List.map_cons, List.map_nil]); first | done | rfl | (simp only [List.length_drop, List.length_take]; rfl) | (have z_ : ∀ s_ : ByteArray, s_.size ≤ 9223372036854775807 → -(s_.size : Int) = wrap64 (-(s_.size : Int)) := (fun s_ h_ => by unfold wrap64; omega); rw [← z_ _ (by omega)]; rfl)) ?_; (with_reducible refine (dec_both.calls t444 t445 t446 t447 t448 t449 t450 t451 t452 _ A5.out).mono ?_); rintro e w26 ⟨rfl, hb⟩; refine ⟨_, rfl, ?_⟩; have n0_ := Aside0.mk (blk_below (g := gb441) (o := .cells #[.bool t444, .string t445, .int .i64 t446] 24 (0, 0)) (by (with_reducible repeat (first | refine blk_drewN ?_ _ | refine blk_drew ?_ | refine blk_alloc ?_ _)); refine blk_far ?_ NB441_442.out _; (with_reducible repeat (first | refine blk_drewN ?_ _ | refine blk_drew ?_ | refine blk_alloc ?_ _)); refine blk_far ?_ NB441_442.out _; (with_reducible repeat (first | refine blk_drewN ?_ _ | refine blk_drew ?_ | refine blk_alloc ?_ _)); refine blk_far ?_ NB441_442.out _; (with_reducible repeat (first | refine blk_drewN ?_ _ | refine blk_drew ?_ | refine blk_alloc ?_ _)); refine blk_put (cs := #[.bool t444, .string t445, .int .i64 a0_2]) ?_ 2 _ rfl; (with_reducible repeat (first | refine blk_drewN ?_ _ | refine blk_drew ?_ | refine blk_alloc ?_ _)); refine blk_put (cs := #[.bool t444, .string a0_1, .int .i64 a0_2]) ?_ 1 _ rfl; (with_reducible repeat (first | refine blk_drewN ?_ _ | refine blk_drew ?_ | refine blk_alloc ?_ _)); refine blk_put (cs := #[.bool a0_0, .string a0_1, .int .i64 a0_2]) ?_ 0 _ rfl; (with_reducible repeat (first | refine blk_drewN ?_ _ | refine blk_drew ?_ | refine blk_alloc ?_ _)); exact BK441.out) hb); have n1_ := Aside0.mk (blk_below (g := gb442) (o := .cells #[.bool t447, .string t448, .int .i64 t449] 24 (0, 0)) (by (with_reducible repeat (first | refine blk_drewN ?_ _ | refine blk_drew ?_ | refine blk_alloc ?_ _)); refine blk_put (cs := #[.bool t447, .string t448, .int .i64 a1_2]) ?_ 2 _ rfl; (with_reducible repeat (first | refine blk_drewN ?_ _ | refine blk_drew ?_ | refine blk_alloc ?_ _)); refine blk_put (cs := #[.bool t447, .string a1_1, .int .i64 a1_2]) ?_ 1 _ rfl; (with_reducible repeat (first | refine blk_drewN ?_ _ | refine blk_drew ?_ | refine blk_alloc ?_ _)); refine blk_put (cs := #[.bool a1_0, .string a1_1, .int .i64 a1_2]) ?_ 0 _ rfl; (with_reducible repeat (first | refine blk_drewN ?_ _ | refine blk_drew ?_ | refine blk_alloc ?_ _)); refine blk_far ?_ NB442_441.out _; (with_reducible repeat (first | refine blk_drewN ?_ _ | refine blk_drew ?_ | refine blk_alloc ?_ _)); refine blk_far ?_ NB442_441.out _; (with_reducible repeat (first | refine blk_drewN ?_ _ | refine blk_drew ?_ | refine blk_alloc ?_ _)); refine blk_far ?_ NB442_441.out _; (with_reducible repeat (first | refine blk_drewN ?_ _ | refine blk_drew ?_ | refine blk_alloc ?_ _)); exact BK442.out) hb); have n2_ := Aside0.mk (blk_below (g := gb443) (o := .cells #[.bool false, .string (⟨#[]⟩ : ByteArray), .int .i64 0] 24 (0, 0)) (by (with_reducible repeat (first | refine blk_drewN ?_ _ | refine blk_drew ?_ | refine blk_alloc ?_ _)); refine blk_far ?_ NB443_442.out _; (with_reducible repeat (first | refine blk_drewN ?_ _ | refine blk_drew ?_ | refine blk_alloc ?_ _)); refine blk_far ?_ NB443_442.out _; (with_reducible repeat (first | refine blk_drewN ?_ _ | refine blk_drew ?_ | refine blk_alloc ?_ _)); refine blk_far ?_ NB443_442.out _; (with_reducible repeat (first | refine blk_drewN ?_ _ | refine blk_drew ?_ | refine blk_alloc ?_ _)); refine blk_far ?_ NB443_441.out _; (with_reducible repeat (first | refine blk_drewN ?_ _ | refine blk_drew ?_ | refine blk_alloc ?_ _)); refine blk_far ?_ NB443_441.out _; (with_reducible repeat (first | refine blk_drewN ?_ _ | refine blk_drew ?_ | refine blk_alloc ?_ _)); refine blk_far ?_ NB443_441.out _; (with_reducible repeat (first | refine blk_drewN ?_ _ | refine blk_drew ?_ | refine blk_alloc ?_ _)); exact BK443.out) hb); have n3_ := Aside0.mk (below_step (bl_ HB).out hb); clear BK441; clear BK442; clear BK443; clear HB; have BK441 := n0_; have BK442 := n1_; have BK443 := n2_; have HB := n3_; clear n0_ n1_ n2_ n3_; (try clear hb); (try clear hb2); (try clear hk); (try clear hi); have hcz27_0 : w26.cell? ⟨gb441, 0, none⟩ = some (.bool t444) := (blk_cell BK441.out 0).trans rfl; have hcz27_1 : w26.cell? ⟨gb441, 1, none⟩ = some (.string t445) := (blk_cell BK441.out 1).trans rfl; have hcz27_2 : w26.cell? ⟨gb441, 2, none⟩ = some (.int .i64 t446) := (blk_cell BK441.out 2).trans rfl; have hfz27_0 := blk_frozen BK441.out 0; have hfz27_1 := blk_frozen BK441.out 1; have hfz27_2 := blk_frozen BK441.out 2; have hcz28_0 : w26.cell? ⟨gb442, 0, none⟩ = some (.bool t447) := (blk_cell BK442.out 0).trans rfl; have hcz28_1 : w26.cell? ⟨gb442, 1, none⟩ = some (.string t448) := (blk_cell BK442.out 1).trans rfl; have hcz28_2 : w26.cell? ⟨gb442, 2, none⟩ = some (.int .i64 t449) := (blk_cell BK442.out 2).trans rfl; have hfz28_0 := blk_frozen BK442.out 0; have hfz28_1 := blk_frozen BK442.out 1; have hfz28_2 := blk_frozen BK442.out 2))
    have n0_ := Aside0.mk (blk_drew BK441.out)
    have n1_ := Aside0.mk (blk_drew BK442.out)
    have n2_ := Aside0.mk (blk_drew BK443.out)
    have n3_ := Aside0.mk (below_drew1 HB.out)
    clear BK441
    clear BK442
    clear BK443
    clear HB
    have BK441 := n0_
    have BK442 := n1_
    have BK443 := n2_
    have HB := n3_
    clear n0_ n1_ n2_ n3_
    refine start_ (n := 8) (S := fun w' => w'.cell? ⟨gb441, 0, none⟩ = some (.bool t444) ∧ w'.cell? ⟨gb441, 1, none⟩ = some (.string t445) ∧ w'.cell? ⟨gb441, 2, none⟩ = some (.int .i64 t446)) (ds := []) #[false, false, false, false, false, false, false, false] (by kernel_rfl) rfl rfl ⟨(blk_cell BK441.out 0).trans rfl, (blk_cell BK441.out 1).trans rfl, (blk_cell BK441.out 2).trans rfl⟩ (fun hHeld => ?_); refine with_tabW dec_Add.tab4 dec_Add.bits4 (fun HT_ HW_ => ?_)
    generalize w26.drew = w29 at BK441 BK442 BK443 HB hHeld ⊢
    refine pu_ 0 28 #[true, false, false, false, false, false, false, false] HT_ ?_
    refine pu_ 2 30 #[true, false, true, false, false, false, false, false] HT_ ?_
    refine pu_ 3 31 #[true, false, true, true, false, false, false, false] HT_ ?_
    refine pu_ 5 33 #[true, false, true, true, false, true, false, false] HT_ ?_
    refine tk_ 1 29 #[true, true, true, true, false, true, false, false] HT_ HW_ hHeld rfl (by rintro w' ⟨s0, s1, s2⟩; go_simp; with_reducible rfl) ?_
    refine one_ (i := 4) (N := some 32) #[true, true, true, true, true, true, false, false] rfl rfl (one_of HT_.out (by kernel_rfl)) (by decide) (fun K hK => ?_)
    refine goes_ Tryd.func35 (by kernel_rfl) rfl #[.string t450, .string t451] (by rfl) rfl rfl (by (try simp only [List.map_toArray, List.map_cons, List.map_nil]); first | done | rfl | (simp only [List.length_drop, List.length_take]; rfl) | (have z_ : ∀ s_ : ByteArray, s_.size ≤ 9223372036854775807 → -(s_.size : Int) = wrap64 (-(s_.size : Int)) := (fun s_ h_ => by unfold wrap64; omega); rw [← z_ _ (by omega)]; rfl)) ?_
    with_reducible refine (num_Add.calls k t450 t451 t453 _ A7.out).mono ?_
    rintro e w30 ⟨rfl, hb⟩
    refine ⟨_, rfl, ?_⟩
    have n0_ := bb_ BK441 hb
    have n1_ := bb_ BK442 hb
    have n2_ := bb_ BK443 hb
    have n3_ := Aside0.mk (below_step (bl_ HB).out hb)
    clear BK441
    clear BK442
    clear BK443
    clear HB
    have BK441 := n0_
    have BK442 := n1_
    have BK443 := n2_
    have HB := n3_
    clear n0_ n1_ n2_ n3_
    (try clear hb)
    (try clear hb2)
    (try clear hk)
    (try clear hi)
    refine hK.out _ _ ⟨(blk_cell BK441.out 0).trans rfl, (blk_cell BK441.out 1).trans rfl, (blk_cell BK441.out 2).trans rfl⟩ (fun hHeld => ?_)
    clear hK K
    refine norm_ (a' := ?_) ?_ ?_
    rotate_left
    · show Act.put _ (some 32) _ = _
      simp only [Act.put, List.setIfInBounds_toArray, List.set_cons_zero, List.set_cons_succ, i64_w, i32_w]
      rfl
    refine one_ (i := 6) (N := some 34) #[true, true, true, true, true, true, true, false] rfl rfl (one_of HT_.out (by kernel_rfl)) (by decide) (fun K hK => ?_)
    refine goes_ Tryd.func22 (by kernel_rfl) rfl #[.bool t444, .string t453, .int .i64 t452] (by rfl) rfl rfl (by (try simp only [List.map_toArray, List.map_cons, List.map_nil]); first | done | rfl | (simp only [List.length_drop, List.length_take]; rfl) | (have z_ : ∀ s_ : ByteArray, s_.size ≤ 9223372036854775807 → -(s_.size : Int) = wrap64 (-(s_.size : Int)) := (fun s_ h_ => by unfold wrap64; omega); rw [← z_ _ (by omega)]; rfl)) ?_
    with_reducible refine (dec_Made.calls k t444 t453 t452 t454 t455 t456 _ A8.out).mono ?_
    rintro e w31 ⟨rfl, hb⟩
    refine ⟨_, rfl, ?_⟩
    have n0_ := bb_ BK441 hb
    have n1_ := bb_ BK442 hb
    have n2_ := bb_ BK443 hb
    have n3_ := Aside0.mk (below_step (bl_ HB).out hb)
    clear BK441
    clear BK442
    clear BK443
    clear HB
    have BK441 := n0_
    have BK442 := n1_
    have BK443 := n2_
    have HB := n3_
    clear n0_ n1_ n2_ n3_
    (try clear hb)
    (try clear hb2)
    (try clear hk)
    (try clear hi)
    refine hK.out _ _ ⟨(blk_cell BK441.out 0).trans rfl, (blk_cell BK441.out 1).trans rfl, (blk_cell BK441.out 2).trans rfl⟩ (fun hHeld => ?_)
    clear hK K
    refine norm_ (a' := ?_) ?_ ?_
    rotate_left
    · show Act.put _ (some 34) _ = _
      simp only [Act.put, List.setIfInBounds_toArray, List.set_cons_zero, List.set_cons_succ, i64_w, i32_w]
      rfl
    refine one_ (i := 7) (N := none) #[true, true, true, true, true, true, true, true] rfl rfl (one_of HT_.out (by kernel_rfl)) (by decide) (fun K hK => ?_)
    have hs32 : w31.cell? ⟨gb443, 0, none⟩ = some (.bool false) := (blk_cell BK443.out 0).trans rfl
    have hfs32 := blk_frozen BK443.out 0
    have hns32_0 := NB441_443.out
    have hns32_1 := NB442_443.out
    have hms32_0 := NB443_441.out
    have hms32_1 := NB443_442.out
    have hs33 : w31.cell? ⟨gb443, 1, none⟩ = some (.string (⟨#[]⟩ : ByteArray)) := (blk_cell BK443.out 1).trans rfl
    have hfs33 := blk_frozen BK443.out 1
    have hns33_0 := NB441_443.out
    have hns33_1 := NB442_443.out
    have hms33_0 := NB443_441.out
    have hms33_1 := NB443_442.out
    have hs34 : w31.cell? ⟨gb443, 2, none⟩ = some (.int .i64 0) := (blk_cell BK443.out 2).trans rfl
    have hfs34 := blk_frozen BK443.out 2
    have hns34_0 := NB441_443.out
    have hns34_1 := NB442_443.out
    have hms34_0 := NB443_441.out
    have hms34_1 := NB443_442.out
    refine skip_ (w1 := ?_) (by rfl) rfl ?_ ?_
    rotate_left
    · go_simp
      rfl
    refine hK.out _ _ ⟨((cell_far (p := ⟨gb443, _, none⟩) NB441_443.out _).trans (((cell_far (p := ⟨gb443, _, none⟩) NB441_443.out _).trans (((cell_far (p := ⟨gb443, _, none⟩) NB441_443.out _).trans (hHeld.1)))))), ((cell_far (p := ⟨gb443, _, none⟩) NB441_443.out _).trans (((cell_far (p := ⟨gb443, _, none⟩) NB441_443.out _).trans (((cell_far (p := ⟨gb443, _, none⟩) NB441_443.out _).trans (hHeld.2.1)))))), ((cell_far (p := ⟨gb443, _, none⟩) NB441_443.out _).trans (((cell_far (p := ⟨gb443, _, none⟩) NB441_443.out _).trans (((cell_far (p := ⟨gb443, _, none⟩) NB441_443.out _).trans (hHeld.2.2))))))⟩ (fun hHeld => ?_)
    clear hK K
    refine done_ (done_of HT_.out (by kernel_rfl)) ?_
    try go_wp2
    refine bodyPost_ret (results_cell_row rfl _ _ gb443 24 #[.bool t454, .string t455, .int .i64 t456] (0, 0) _ rfl (by (with_reducible repeat (first | refine blk_drewN ?_ _ | refine blk_drew ?_ | refine blk_alloc ?_ _)); refine blk_put (cs := #[.bool t454, .string t455, .int .i64 0]) ?_ 2 _ rfl; (with_reducible repeat (first | refine blk_drewN ?_ _ | refine blk_drew ?_ | refine blk_alloc ?_ _)); refine blk_put (cs := #[.bool t454, .string (⟨#[]⟩ : ByteArray), .int .i64 0]) ?_ 1 _ rfl; (with_reducible repeat (first | refine blk_drewN ?_ _ | refine blk_drew ?_ | refine blk_alloc ?_ _)); refine blk_put (cs := #[.bool false, .string (⟨#[]⟩ : ByteArray), .int .i64 0]) ?_ 0 _ rfl; (with_reducible repeat (first | refine blk_drewN ?_ _ | refine blk_drew ?_ | refine blk_alloc ?_ _)); exact BK443.out) Tryd.underlying24 rfl (by kernel_rfl)) rfl ?_
    exact ⟨by first | rfl | (simp [errW_none, errW_some] <;> rfl) | (simp [*, errW_none, errW_some] <;> first | rfl | exact given_isEmpty _ | exact (given_isEmpty _).symm), by repeat (first | (with_reducible first | exact HB.out | apply below_alloc | apply pw_below_drewN | apply below_drew1 | refine below_set ?_ GE441.out | refine below_set ?_ GE442.out | refine below_set ?_ GE443.out) | exact HB.out)⟩
  · rw [if_neg c6] at H
    have c6b0 : (t444 == t447) = false := by simpa using c6
    (try (have c6b1 : decide (t444 = t447) = false := by simpa using c6))
    (try (have c6b2 : (t444 == t447) = false := by simpa using c6))
    (try (have c6b3 : ¬ (t444 = t447) := by simpa using c6))
    clear c6
    replace H := Option.bind_eq_some_iff.mp H
    obtain ⟨⟨t457, t458⟩, A350, H⟩ := H
    replace H : (if t458 = true then ((dec_Made.f k t444 t457 t452).bind fun bt459 => (some (bt459.1, bt459.2.1, bt459.2.2))) else ((num_Sub.f k t451 t450).bind fun bt462 => ((dec_Made.f k t447 bt462.1 t452).bind fun bt464 => (some (bt464.1, bt464.2.1, bt464.2.2))))) = some (r1, r2, r3) := H
    have A35 := Aside0.mk A350
    clear A350
    by_cases c36 : t458 = true
    · subst c36
      have H1 : ((dec_Made.f k t444 t457 t452).bind fun bt459 => (some (bt459.1, bt459.2.1, bt459.2.2))) = some (r1, r2, r3) := by rw [if_pos rfl] at H; exact H
      clear H
      have H := H1
      clear H1
      replace H := Option.bind_eq_some_iff.mp H
      obtain ⟨⟨t459, t460, t461⟩, A370, H⟩ := H
      replace H : (some (t459, t460, t461)) = some (r1, r2, r3) := H
      have A37 := Aside0.mk A370
      clear A370
      simp only [Option.some.injEq, Prod.mk.injEq] at H
      obtain ⟨rfl, rfl, rfl⟩ := H
      go_enter Tryd.func32, Tryd.ntmps32
      try go_wp2_with (first | ((with_reducible refine gate_dst (N := 2) rfl ?_); refine box_event ?hg (N := 2) ?hd (cs := #[.bool a0_0, .string a0_1, .int .i64 a0_2]) (t := 24) ?hr ?_; (case hd => rfl); (case hg => rfl); (case hr => first | (go_simp; done) | (go_simp; rfl)); intro gb441 hg w38 hbox hb; have n0_ := Aside0.mk (below_step (bl_ HB).out hb); have n1_ := Aside0.mk (hbox); have n2_ := Aside0.mk ((by rw [hg]; exact (below_size (bl_ HB).out) : w.heap.size ≤ gb441)); have n3_ := Aside0.mk ((by rw [hg]; exact (below_size (bl_ HB).out) : w.heap.size ≤ gb441)); clear HB; have HB := n0_; have BK441 := n1_; have GW441 := n2_; have GE441 := n3_; clear n0_ n1_ n2_ n3_; clear hb hbox hg) | ((with_reducible refine gate_dst (N := 3) rfl ?_); refine box_event ?hg (N := 3) ?hd (cs := #[.bool a1_0, .string a1_1, .int .i64 a1_2]) (t := 24) ?hr ?_; (case hd => rfl); (case hg => rfl); (case hr => first | (go_simp; done) | (go_simp; rfl)); intro gb442 hg w39 hbox hb; have n0_ := bb_ BK441 hb; have n1_ := Aside0.mk (below_step (bl_ HB).out hb); have n2_ := Aside0.mk (hbox); have n3_ := Aside0.mk ((by rw [hg]; exact (below_size (bl_ HB).out) : w.heap.size ≤ gb442)); have n4_ := Aside0.mk ((by rw [hg]; exact (below_size (bl_ HB).out) : w.heap.size ≤ gb442)); have n5_ := Aside0.mk ((by rw [hg]; exact Nat.ne_of_lt (blk_lt (g := gb441) (o := .cells #[.bool a0_0, .string a0_1, .int .i64 a0_2] 24 (0, 0)) (by (with_reducible repeat (first | refine blk_drewN ?_ _ | refine blk_drew ?_ | refine blk_alloc ?_ _)); exact BK441.out)) : gb441 ≠ gb442)); have n6_ := Aside0.mk ((by rw [hg]; exact Nat.ne_of_gt (blk_lt (g := gb441) (o := .cells #[.bool a0_0, .string a0_1, .int .i64 a0_2] 24 (0, 0)) (by (with_reducible repeat (first | refine blk_drewN ?_ _ | refine blk_drew ?_ | refine blk_alloc ?_ _)); exact BK441.out)) : gb442 ≠ gb441)); clear BK441; clear HB; have BK441 := n0_; have HB := n1_; have BK442 := n2_; have GW442 := n3_; have GE442 := n4_; have NB441_442 := n5_; have NB442_441 := n6_; clear n0_ n1_ n2_ n3_ n4_ n5_ n6_; clear hb hbox hg) | ((with_reducible refine gate_dst (N := 4) rfl ?_); refine box_event ?hg (N := 4) ?hd (cs := #[.bool false, .string (⟨#[]⟩ : ByteArray), .int .i64 0]) (t := 24) ?hr ?_; (case hd => rfl); (case hg => rfl); (case hr => first | (go_simp; done) | (go_simp; rfl)); intro gb443 hg w40 hbox hb; have n0_ := bb_ BK441 hb; have n1_ := bb_ BK442 hb; have n2_ := Aside0.mk (below_step (bl_ HB).out hb); have n3_ := Aside0.mk (hbox); have n4_ := Aside0.mk ((by rw [hg]; exact (below_size (bl_ HB).out) : w.heap.size ≤ gb443)); have n5_ := Aside0.mk ((by rw [hg]; exact (below_size (bl_ HB).out) : w.heap.size ≤ gb443)); have n6_ := Aside0.mk ((by rw [hg]; exact Nat.ne_of_lt (blk_lt (g := gb441) (o := .cells #[.bool a0_0, .string a0_1, .int .i64 a0_2] 24 (0, 0)) (by (with_reducible repeat (first | refine blk_drewN ?_ _ | refine blk_drew ?_ | refine blk_alloc ?_ _)); exact BK441.out)) : gb441 ≠ gb443)); have n7_ := Aside0.mk ((by rw [hg]; exact Nat.ne_of_gt (blk_lt (g := gb441) (o := .cells #[.bool a0_0, .string a0_1, .int .i64 a0_2] 24 (0, 0)) (by (with_reducible repeat (first | refine blk_drewN ?_ _ | refine blk_drew ?_ | refine blk_alloc ?_ _)); exact BK441.out)) : gb443 ≠ gb441)); have n8_ := Aside0.mk ((by rw [hg]; exact Nat.ne_of_lt (blk_lt (g := gb442) (o := .cells #[.bool a1_0, .string a1_1, .int .i64 a1_2] 24 (0, 0)) (by (with_reducible repeat (first | refine blk_drewN ?_ _ | refine blk_drew ?_ | refine blk_alloc ?_ _)); exact BK442.out)) : gb442 ≠ gb443)); have n9_ := Aside0.mk ((by rw [hg]; exact Nat.ne_of_gt (blk_lt (g := gb442) (o := .cells #[.bool a1_0, .string a1_1, .int .i64 a1_2] 24 (0, 0)) (by (with_reducible repeat (first | refine blk_drewN ?_ _ | refine blk_drew ?_ | refine blk_alloc ?_ _)); exact BK442.out)) : gb443 ≠ gb442)); clear BK441; clear BK442; clear HB; have BK441 := n0_; have BK442 := n1_; have HB := n2_; have BK443 := n3_; have GW443 := n4_; have GE443 := n5_; have NB441_443 := n6_; have NB443_441 := n7_; have NB442_443 := n8_; have NB443_442 := n9_; clear n0_ n1_ n2_ n3_ n4_ n5_ n6_ n7_ n8_ n9_; clear hb hbox hg))
      have n0_ := Aside0.mk (blk_drew BK441.out)
      have n1_ := Aside0.mk (blk_drew BK442.out)
      have n2_ := Aside0.mk (blk_drew BK443.out)
      have n3_ := Aside0.mk (below_drew1 HB.out)
      clear BK441
      clear BK442
      clear BK443
      clear HB
      have BK441 := n0_
      have BK442 := n1_
      have BK443 := n2_
      have HB := n3_
      clear n0_ n1_ n2_ n3_
      refine start_ (n := 6) (S := fun w' => w'.cell? ⟨gb441, 0, none⟩ = some (.bool a0_0) ∧ w'.cell? ⟨gb441, 1, none⟩ = some (.string a0_1) ∧ w'.cell? ⟨gb441, 2, none⟩ = some (.int .i64 a0_2) ∧ w'.cell? ⟨gb442, 0, none⟩ = some (.bool a1_0) ∧ w'.cell? ⟨gb442, 1, none⟩ = some (.string a1_1) ∧ w'.cell? ⟨gb442, 2, none⟩ = some (.int .i64 a1_2)) (ds := [4, 5]) #[false, false, false, false, false, false] (by kernel_rfl) rfl rfl ⟨(blk_cell BK441.out 0).trans rfl, (blk_cell BK441.out 1).trans rfl, (blk_cell BK441.out 2).trans rfl, (blk_cell BK442.out 0).trans rfl, (blk_cell BK442.out 1).trans rfl, (blk_cell BK442.out 2).trans rfl⟩ (fun hHeld => ?_)
      generalize w40.drew = w41 at BK441 BK442 BK443 HB hHeld ⊢
      refine take_ (i := 0) (N := some 12) (v := ?_) (a' := ?_) #[true, false, false, false, false, false] rfl rfl (by kernel_rfl) (fun _ _ _ h => h) (Or.inl ⟨by rfl, ?_⟩) hHeld ?_ ?_
      rotate_left
      · rintro w' ⟨s0, s1, s2, s3, s4, s5⟩
        go_simp
        with_reducible rfl
      rotate_left
      · simp only [Act.put, List.setIfInBounds_toArray, List.set_cons_zero, List.set_cons_succ, i64_w, i32_w]
        rfl
      refine take_ (i := 2) (N := some 14) (v := ?_) (a' := ?_) #[true, false, true, false, false, false] rfl rfl (by kernel_rfl) (fun _ _ _ h => h) (Or.inl ⟨by rfl, ?_⟩) hHeld ?_ ?_
      rotate_left
      · rintro w' ⟨s0, s1, s2, s3, s4, s5⟩
        go_simp
        with_reducible rfl
      rotate_left
      · simp only [Act.put, List.setIfInBounds_toArray, List.set_cons_zero, List.set_cons_succ, i64_w, i32_w]
        rfl
      refine one_ (i := 1) (N := some 13) #[true, true, true, false, false, false] rfl rfl (by kernel_rfl) (by decide) (fun K hK => ?_)
      refine goes_ Tryd.func19 (by kernel_rfl) rfl #[.agg #[.bool a0_0, .string a0_1, .int .i64 a0_2]] (by rfl) rfl rfl (by (try simp only [List.map_toArray, List.map_cons, List.map_nil]); first | done | rfl | (simp only [List.length_drop, List.length_take]; rfl) | (have z_ : ∀ s_ : ByteArray, s_.size ≤ 9223372036854775807 → -(s_.size : Int) = wrap64 (-(s_.size : Int)) := (fun s_ h_ => by unfold wrap64; omega); rw [← z_ _ (by omega)]; rfl)) ?_
      with_reducible refine (dec_Dec_Norm.calls k a0_0 a0_1 a0_2 t444 t445 t446 _ A3.out).mono ?_
      rintro e w42 ⟨rfl, hb⟩
      refine ⟨_, rfl, ?_⟩
      have n0_ := bb_ BK441 hb
      have n1_ := bb_ BK442 hb
      have n2_ := bb_ BK443 hb
      have n3_ := Aside0.mk (below_step (bl_ HB).out hb)
      clear BK441
      clear BK442
      clear BK443
      clear HB
      have BK441 := n0_
      have BK442 := n1_
      have BK443 := n2_
      have HB := n3_
      clear n0_ n1_ n2_ n3_
      (try clear hb)
      (try clear hb2)
      (try clear hk)
      (try clear hi)
      refine hK.out _ _ ⟨(blk_cell BK441.out 0).trans rfl, (blk_cell BK441.out 1).trans rfl, (blk_cell BK441.out 2).trans rfl, (blk_cell BK442.out 0).trans rfl, (blk_cell BK442.out 1).trans rfl, (blk_cell BK442.out 2).trans rfl⟩ (fun hHeld => ?_)
      clear hK K
      refine norm_ (a' := ?_) ?_ ?_
      rotate_left
      · show Act.put _ (some 13) _ = _
        simp only [Act.put, List.setIfInBounds_toArray, List.set_cons_zero, List.set_cons_succ, i64_w, i32_w]
        rfl
      refine one_ (i := 3) (N := some 15) #[true, true, true, true, false, false] rfl rfl (by kernel_rfl) (by decide) (fun K hK => ?_)
      refine goes_ Tryd.func19 (by kernel_rfl) rfl #[.agg #[.bool a1_0, .string a1_1, .int .i64 a1_2]] (by rfl) rfl rfl (by (try simp only [List.map_toArray, List.map_cons, List.map_nil]); first | done | rfl | (simp only [List.length_drop, List.length_take]; rfl) | (have z_ : ∀ s_ : ByteArray, s_.size ≤ 9223372036854775807 → -(s_.size : Int) = wrap64 (-(s_.size : Int)) := (fun s_ h_ => by unfold wrap64; omega); rw [← z_ _ (by omega)]; rfl)) ?_
      with_reducible refine (dec_Dec_Norm.calls k a1_0 a1_1 a1_2 t447 t448 t449 _ A4.out).mono ?_
      rintro e w43 ⟨rfl, hb⟩
      refine ⟨_, rfl, ?_⟩
      have n0_ := bb_ BK441 hb
      have n1_ := bb_ BK442 hb
      have n2_ := bb_ BK443 hb
      have n3_ := Aside0.mk (below_step (bl_ HB).out hb)
      clear BK441
      clear BK442
      clear BK443
      clear HB
      have BK441 := n0_
      have BK442 := n1_
      have BK443 := n2_
      have HB := n3_
      clear n0_ n1_ n2_ n3_
      (try clear hb)
      (try clear hb2)
      (try clear hk)
      (try clear hi)
      refine hK.out _ _ ⟨(blk_cell BK441.out 0).trans rfl, (blk_cell BK441.out 1).trans rfl, (blk_cell BK441.out 2).trans rfl, (blk_cell BK442.out 0).trans rfl, (blk_cell BK442.out 1).trans rfl, (blk_cell BK442.out 2).trans rfl⟩ (fun hHeld => ?_)
      clear hK K
      refine norm_ (a' := ?_) ?_ ?_
      rotate_left
      · show Act.put _ (some 15) _ = _
        simp only [Act.put, List.setIfInBounds_toArray, List.set_cons_zero, List.set_cons_succ, i64_w, i32_w]
        rfl
      refine last_ (i := 4) (N := none) #[true, true, true, true, true, false] rfl rfl (by kernel_rfl) (by decide) (fun K hK => ?_)
      have hs44 : w43.cell? ⟨gb441, 0, none⟩ = some (.bool a0_0) := (blk_cell BK441.out 0).trans rfl
      have hfs44 := blk_frozen BK441.out 0
      have hns44_1 := NB442_441.out
      have hns44_2 := NB443_441.out
      have hms44_1 := NB441_442.out
      have hms44_2 := NB441_443.out
      have hs45 : w43.cell? ⟨gb441, 1, none⟩ = some (.string a0_1) := (blk_cell BK441.out 1).trans rfl
      have hfs45 := blk_frozen BK441.out 1
      have hns45_1 := NB442_441.out
      have hns45_2 := NB443_441.out
      have hms45_1 := NB441_442.out
      have hms45_2 := NB441_443.out
      have hs46 : w43.cell? ⟨gb441, 2, none⟩ = some (.int .i64 a0_2) := (blk_cell BK441.out 2).trans rfl
      have hfs46 := blk_frozen BK441.out 2
      have hns46_1 := NB442_441.out
      have hns46_2 := NB443_441.out
      have hms46_1 := NB441_442.out
      have hms46_2 := NB441_443.out
      refine skip_ (w1 := ?_) (by rfl) rfl ?_ ?_
      rotate_left
      · go_simp
        rfl
      refine hK.out _ _ ?_
      clear hK K
      refine last_ (i := 5) (N := none) #[true, true, true, true, true, true] rfl rfl (by kernel_rfl) (by decide) (fun K hK => ?_)
      have hs47 : w43.cell? ⟨gb442, 0, none⟩ = some (.bool a1_0) := (blk_cell BK442.out 0).trans rfl
      have hfs47 := blk_frozen BK442.out 0
      have hns47_0 := NB441_442.out
      have hns47_2 := NB443_442.out
      have hms47_0 := NB442_441.out
      have hms47_2 := NB442_443.out
      have hs48 : w43.cell? ⟨gb442, 1, none⟩ = some (.string a1_1) := (blk_cell BK442.out 1).trans rfl
      have hfs48 := blk_frozen BK442.out 1
      have hns48_0 := NB441_442.out
      have hns48_2 := NB443_442.out
      have hms48_0 := NB442_441.out
      have hms48_2 := NB442_443.out
      have hs49 : w43.cell? ⟨gb442, 2, none⟩ = some (.int .i64 a1_2) := (blk_cell BK442.out 2).trans rfl
      have hfs49 := blk_frozen BK442.out 2
      have hns49_0 := NB441_442.out
      have hns49_2 := NB443_442.out
      have hms49_0 := NB442_441.out
      have hms49_2 := NB442_443.out
      refine skip_ (w1 := ?_) (by rfl) rfl ?_ ?_
      rotate_left
      · go_simp
        rfl
      refine hK.out _ _ ?_
      clear hK K
      refine done_ (by kernel_rfl) ?_
      have hnb50 := NB441_442.out
      have hnc50 := NB442_441.out
      have hnb51 := NB441_443.out
      have hnc51 := NB443_441.out
      have hcz52_0 : w43.cell? ⟨gb441, 0, none⟩ = some (.bool a0_0) := (blk_cell BK441.out 0).trans rfl
      have hcz52_1 : w43.cell? ⟨gb441, 1, none⟩ = some (.string a0_1) := (blk_cell BK441.out 1).trans rfl
      have hcz52_2 : w43.cell? ⟨gb441, 2, none⟩ = some (.int .i64 a0_2) := (blk_cell BK441.out 2).trans rfl
      have hfz52_0 := blk_frozen BK441.out 0
      have hfz52_1 := blk_frozen BK441.out 1
      have hfz52_2 := blk_frozen BK441.out 2
      have hnb53 := NB442_443.out
      have hnc53 := NB443_442.out
      have hcz54_0 : w43.cell? ⟨gb442, 0, none⟩ = some (.bool a1_0) := (blk_cell BK442.out 0).trans rfl
      have hcz54_1 : w43.cell? ⟨gb442, 1, none⟩ = some (.string a1_1) := (blk_cell BK442.out 1).trans rfl
      have hcz54_2 : w43.cell? ⟨gb442, 2, none⟩ = some (.int .i64 a1_2) := (blk_cell BK442.out 2).trans rfl
      have hfz54_0 := blk_frozen BK442.out 0
      have hfz54_1 := blk_frozen BK442.out 1
      have hfz54_2 := blk_frozen BK442.out 2
      try go_wp2_with (first | ((with_reducible refine gate_callee (f := 54) rfl ?_); refine goesL_ (some 19) rfl rfl Tryd.func54 (by kernel_rfl) rfl #[.agg #[.bool t444, .string t445, .int .i64 t446], .agg #[.bool t447, .string t448, .int .i64 t449]] rfl (by (try simp only [List.map_toArray, List.map_cons, List.map_nil]); first | done | rfl | (simp only [List.length_drop, List.length_take]; rfl) | (have z_ : ∀ s_ : ByteArray, s_.size ≤ 9223372036854775807 → -(s_.size : Int) = wrap64 (-(s_.size : Int)) := (fun s_ h_ => by unfold wrap64; omega); rw [← z_ _ (by omega)]; rfl)) ?_; (with_reducible refine (dec_both.calls t444 t445 t446 t447 t448 t449 t450 t451 t452 _ A5.out).mono ?_); rintro e w55 ⟨rfl, hb⟩; refine ⟨_, rfl, ?_⟩; have n0_ := Aside0.mk (blk_below (g := gb441) (o := .cells #[.bool t444, .string t445, .int .i64 t446] 24 (0, 0)) (by (with_reducible repeat (first | refine blk_drewN ?_ _ | refine blk_drew ?_ | refine blk_alloc ?_ _)); refine blk_far ?_ NB441_442.out _; (with_reducible repeat (first | refine blk_drewN ?_ _ | refine blk_drew ?_ | refine blk_alloc ?_ _)); refine blk_far ?_ NB441_442.out _; (with_reducible repeat (first | refine blk_drewN ?_ _ | refine blk_drew ?_ | refine blk_alloc ?_ _)); refine blk_far ?_ NB441_442.out _; (with_reducible repeat (first | refine blk_drewN ?_ _ | refine blk_drew ?_ | refine blk_alloc ?_ _)); refine blk_put (cs := #[.bool t444, .string t445, .int .i64 a0_2]) ?_ 2 _ rfl; (with_reducible repeat (first | refine blk_drewN ?_ _ | refine blk_drew ?_ | refine blk_alloc ?_ _)); refine blk_put (cs := #[.bool t444, .string a0_1, .int .i64 a0_2]) ?_ 1 _ rfl; (with_reducible repeat (first | refine blk_drewN ?_ _ | refine blk_drew ?_ | refine blk_alloc ?_ _)); refine blk_put (cs := #[.bool a0_0, .string a0_1, .int .i64 a0_2]) ?_ 0 _ rfl; (with_reducible repeat (first | refine blk_drewN ?_ _ | refine blk_drew ?_ | refine blk_alloc ?_ _)); exact BK441.out) hb); have n1_ := Aside0.mk (blk_below (g := gb442) (o := .cells #[.bool t447, .string t448, .int .i64 t449] 24 (0, 0)) (by (with_reducible repeat (first | refine blk_drewN ?_ _ | refine blk_drew ?_ | refine blk_alloc ?_ _)); refine blk_put (cs := #[.bool t447, .string t448, .int .i64 a1_2]) ?_ 2 _ rfl; (with_reducible repeat (first | refine blk_drewN ?_ _ | refine blk_drew ?_ | refine blk_alloc ?_ _)); refine blk_put (cs := #[.bool t447, .string a1_1, .int .i64 a1_2]) ?_ 1 _ rfl; (with_reducible repeat (first | refine blk_drewN ?_ _ | refine blk_drew ?_ | refine blk_alloc ?_ _)); refine blk_put (cs := #[.bool a1_0, .string a1_1, .int .i64 a1_2]) ?_ 0 _ rfl; (with_reducible repeat (first | refine blk_drewN ?_ _ | refine blk_drew ?_ | refine blk_alloc ?_ _)); refine blk_far ?_ NB442_441.out _; (with_reducible repeat (first | refine blk_drewN ?_ _ | refine blk_drew ?_ | refine blk_alloc ?_ _)); refine blk_far ?_ NB442_441.out _; (with_reducible repeat (first | refine blk_drewN ?_ _ | refine blk_drew ?_ | refine blk_alloc ?_ _)); refine blk_far ?_ NB442_441.out _; (with_reducible repeat (first | refine blk_drewN ?_ _ | refine blk_drew ?_ | refine blk_alloc ?_ _)); exact BK442.out) hb); have n2_ := Aside0.mk (blk_below (g := gb443) (o := .cells #[.bool false, .string (⟨#[]⟩ : ByteArray), .int .i64 0] 24 (0, 0)) (by (with_reducible repeat (first | refine blk_drewN ?_ _ | refine blk_drew ?_ | refine blk_alloc ?_ _)); refine blk_far ?_ NB443_442.out _; (with_reducible repeat (first | refine blk_drewN ?_ _ | refine blk_drew ?_ | refine blk_alloc ?_ _)); refine blk_far ?_ NB443_442.out _; (with_reducible repeat (first | refine blk_drewN ?_ _ | refine blk_drew ?_ | refine blk_alloc ?_ _)); refine blk_far ?_ NB443_442.out _; (with_reducible repeat (first | refine blk_drewN ?_ _ | refine blk_drew ?_ | refine blk_alloc ?_ _)); refine blk_far ?_ NB443_441.out _; (with_reducible repeat (first | refine blk_drewN ?_ _ | refine blk_drew ?_ | refine blk_alloc ?_ _)); refine blk_far ?_ NB443_441.out _; (with_reducible repeat (first | refine blk_drewN ?_ _ | refine blk_drew ?_ | refine blk_alloc ?_ _)); refine blk_far ?_ NB443_441.out _; (with_reducible repeat (first | refine blk_drewN ?_ _ | refine blk_drew ?_ | refine blk_alloc ?_ _)); exact BK443.out) hb); have n3_ := Aside0.mk (below_step (bl_ HB).out hb); clear BK441; clear BK442; clear BK443; clear HB; have BK441 := n0_; have BK442 := n1_; have BK443 := n2_; have HB := n3_; clear n0_ n1_ n2_ n3_; (try clear hb); (try clear hb2); (try clear hk); (try clear hi); have hcz56_0 : w55.cell? ⟨gb441, 0, none⟩ = some (.bool t444) := (blk_cell BK441.out 0).trans rfl; have hcz56_1 : w55.cell? ⟨gb441, 1, none⟩ = some (.string t445) := (blk_cell BK441.out 1).trans rfl; have hcz56_2 : w55.cell? ⟨gb441, 2, none⟩ = some (.int .i64 t446) := (blk_cell BK441.out 2).trans rfl; have hfz56_0 := blk_frozen BK441.out 0; have hfz56_1 := blk_frozen BK441.out 1; have hfz56_2 := blk_frozen BK441.out 2; have hcz57_0 : w55.cell? ⟨gb442, 0, none⟩ = some (.bool t447) := (blk_cell BK442.out 0).trans rfl; have hcz57_1 : w55.cell? ⟨gb442, 1, none⟩ = some (.string t448) := (blk_cell BK442.out 1).trans rfl; have hcz57_2 : w55.cell? ⟨gb442, 2, none⟩ = some (.int .i64 t449) := (blk_cell BK442.out 2).trans rfl; have hfz57_0 := blk_frozen BK442.out 0; have hfz57_1 := blk_frozen BK442.out 1; have hfz57_2 := blk_frozen BK442.out 2) | ((with_reducible refine gate_callee (f := 36) rfl ?_); refine goesL_ (some 38) rfl rfl Tryd.func36 (by kernel_rfl) rfl #[.string t450, .string t451] rfl (by (try simp only [List.map_toArray, List.map_cons, List.map_nil]); first | done | rfl | (simp only [List.length_drop, List.length_take]; rfl) | (have z_ : ∀ s_ : ByteArray, s_.size ≤ 9223372036854775807 → -(s_.size : Int) = wrap64 (-(s_.size : Int)) := (fun s_ h_ => by unfold wrap64; omega); rw [← z_ _ (by omega)]; rfl)) ?_; (with_reducible refine (num_Sub.calls k t450 t451 t457 true _ A35.out).mono ?_); rintro e w58 ⟨rfl, hb⟩; refine ⟨_, rfl, ?_⟩; have n0_ := bb_ BK441 hb; have n1_ := bb_ BK442 hb; have n2_ := bb_ BK443 hb; have n3_ := Aside0.mk (below_step (bl_ HB).out hb); clear BK441; clear BK442; clear BK443; clear HB; have BK441 := n0_; have BK442 := n1_; have BK443 := n2_; have HB := n3_; clear n0_ n1_ n2_ n3_; (try clear hb); (try clear hb2); (try clear hk); (try clear hi); have hcz59_0 : w58.cell? ⟨gb441, 0, none⟩ = some (.bool t444) := (blk_cell BK441.out 0).trans rfl; have hcz59_1 : w58.cell? ⟨gb441, 1, none⟩ = some (.string t445) := (blk_cell BK441.out 1).trans rfl; have hcz59_2 : w58.cell? ⟨gb441, 2, none⟩ = some (.int .i64 t446) := (blk_cell BK441.out 2).trans rfl; have hfz59_0 := blk_frozen BK441.out 0; have hfz59_1 := blk_frozen BK441.out 1; have hfz59_2 := blk_frozen BK441.out 2) | ((with_reducible refine gate_callee (f := 22) rfl ?_); refine goesL_ (some 46) rfl rfl Tryd.func22 (by kernel_rfl) rfl #[.bool t444, .string t457, .int .i64 t452] rfl (by (try simp only [List.map_toArray, List.map_cons, List.map_nil]); first | done | rfl | (simp only [List.length_drop, List.length_take]; rfl) | (have z_ : ∀ s_ : ByteArray, s_.size ≤ 9223372036854775807 → -(s_.size : Int) = wrap64 (-(s_.size : Int)) := (fun s_ h_ => by unfold wrap64; omega); rw [← z_ _ (by omega)]; rfl)) ?_; (with_reducible refine (dec_Made.calls k t444 t457 t452 t459 t460 t461 _ A37.out).mono ?_); rintro e w60 ⟨rfl, hb⟩; refine ⟨_, rfl, ?_⟩; have n0_ := bb_ BK441 hb; have n1_ := bb_ BK442 hb; have n2_ := bb_ BK443 hb; have n3_ := Aside0.mk (below_step (bl_ HB).out hb); clear BK441; clear BK442; clear BK443; clear HB; have BK441 := n0_; have BK442 := n1_; have BK443 := n2_; have HB := n3_; clear n0_ n1_ n2_ n3_; (try clear hb); (try clear hb2); (try clear hk); (try clear hi); have hcz61_0 : w60.cell? ⟨gb443, 0, none⟩ = some (.bool false) := (blk_cell BK443.out 0).trans rfl; have hcz61_1 : w60.cell? ⟨gb443, 1, none⟩ = some (.string (⟨#[]⟩ : ByteArray)) := (blk_cell BK443.out 1).trans rfl; have hcz61_2 : w60.cell? ⟨gb443, 2, none⟩ = some (.int .i64 0) := (blk_cell BK443.out 2).trans rfl; have hfz61_0 := blk_frozen BK443.out 0; have hfz61_1 := blk_frozen BK443.out 1; have hfz61_2 := blk_frozen BK443.out 2))
      refine bodyPost_ret (results_cell_row rfl _ _ gb443 24 #[.bool t459, .string t460, .int .i64 t461] (0, 0) _ rfl (by (with_reducible repeat (first | refine blk_drewN ?_ _ | refine blk_drew ?_ | refine blk_alloc ?_ _)); refine blk_put (cs := #[.bool t459, .string t460, .int .i64 0]) ?_ 2 _ rfl; (with_reducible repeat (first | refine blk_drewN ?_ _ | refine blk_drew ?_ | refine blk_alloc ?_ _)); refine blk_put (cs := #[.bool t459, .string (⟨#[]⟩ : ByteArray), .int .i64 0]) ?_ 1 _ rfl; (with_reducible repeat (first | refine blk_drewN ?_ _ | refine blk_drew ?_ | refine blk_alloc ?_ _)); refine blk_put (cs := #[.bool false, .string (⟨#[]⟩ : ByteArray), .int .i64 0]) ?_ 0 _ rfl; (with_reducible repeat (first | refine blk_drewN ?_ _ | refine blk_drew ?_ | refine blk_alloc ?_ _)); exact BK443.out) Tryd.underlying24 rfl (by kernel_rfl)) rfl ?_
      exact ⟨by first | rfl | (simp [errW_none, errW_some] <;> rfl) | (simp [*, errW_none, errW_some] <;> first | rfl | exact given_isEmpty _ | exact (given_isEmpty _).symm), by repeat (first | (with_reducible first | exact HB.out | apply below_alloc | apply pw_below_drewN | apply below_drew1 | refine below_set ?_ GE441.out | refine below_set ?_ GE442.out | refine below_set ?_ GE443.out) | exact HB.out)⟩
    · replace c36 := Bool.eq_false_iff.mpr c36
      subst c36
      have H1 : ((num_Sub.f k t451 t450).bind fun bt462 => ((dec_Made.f k t447 bt462.1 t452).bind fun bt464 => (some (bt464.1, bt464.2.1, bt464.2.2)))) = some (r1, r2, r3) := by rw [if_neg (show ¬ (false = true) by decide)] at H; exact H
      clear H
      have H := H1
      clear H1
      replace H := Option.bind_eq_some_iff.mp H
      obtain ⟨⟨t462, t463⟩, A620, H⟩ := H
      replace H : ((dec_Made.f k t447 t462 t452).bind fun bt464 => (some (bt464.1, bt464.2.1, bt464.2.2))) = some (r1, r2, r3) := H
      have A62 := Aside0.mk A620
      clear A620
      replace H := Option.bind_eq_some_iff.mp H
      obtain ⟨⟨t464, t465, t466⟩, A630, H⟩ := H
      replace H : (some (t464, t465, t466)) = some (r1, r2, r3) := H
      have A63 := Aside0.mk A630
      clear A630
      simp only [Option.some.injEq, Prod.mk.injEq] at H
      obtain ⟨rfl, rfl, rfl⟩ := H
      go_enter Tryd.func32, Tryd.ntmps32
      try go_wp2_with (first | ((with_reducible refine gate_dst (N := 2) rfl ?_); refine box_event ?hg (N := 2) ?hd (cs := #[.bool a0_0, .string a0_1, .int .i64 a0_2]) (t := 24) ?hr ?_; (case hd => rfl); (case hg => rfl); (case hr => first | (go_simp; done) | (go_simp; rfl)); intro gb441 hg w64 hbox hb; have n0_ := Aside0.mk (below_step (bl_ HB).out hb); have n1_ := Aside0.mk (hbox); have n2_ := Aside0.mk ((by rw [hg]; exact (below_size (bl_ HB).out) : w.heap.size ≤ gb441)); have n3_ := Aside0.mk ((by rw [hg]; exact (below_size (bl_ HB).out) : w.heap.size ≤ gb441)); clear HB; have HB := n0_; have BK441 := n1_; have GW441 := n2_; have GE441 := n3_; clear n0_ n1_ n2_ n3_; clear hb hbox hg) | ((with_reducible refine gate_dst (N := 3) rfl ?_); refine box_event ?hg (N := 3) ?hd (cs := #[.bool a1_0, .string a1_1, .int .i64 a1_2]) (t := 24) ?hr ?_; (case hd => rfl); (case hg => rfl); (case hr => first | (go_simp; done) | (go_simp; rfl)); intro gb442 hg w65 hbox hb; have n0_ := bb_ BK441 hb; have n1_ := Aside0.mk (below_step (bl_ HB).out hb); have n2_ := Aside0.mk (hbox); have n3_ := Aside0.mk ((by rw [hg]; exact (below_size (bl_ HB).out) : w.heap.size ≤ gb442)); have n4_ := Aside0.mk ((by rw [hg]; exact (below_size (bl_ HB).out) : w.heap.size ≤ gb442)); have n5_ := Aside0.mk ((by rw [hg]; exact Nat.ne_of_lt (blk_lt (g := gb441) (o := .cells #[.bool a0_0, .string a0_1, .int .i64 a0_2] 24 (0, 0)) (by (with_reducible repeat (first | refine blk_drewN ?_ _ | refine blk_drew ?_ | refine blk_alloc ?_ _)); exact BK441.out)) : gb441 ≠ gb442)); have n6_ := Aside0.mk ((by rw [hg]; exact Nat.ne_of_gt (blk_lt (g := gb441) (o := .cells #[.bool a0_0, .string a0_1, .int .i64 a0_2] 24 (0, 0)) (by (with_reducible repeat (first | refine blk_drewN ?_ _ | refine blk_drew ?_ | refine blk_alloc ?_ _)); exact BK441.out)) : gb442 ≠ gb441)); clear BK441; clear HB; have BK441 := n0_; have HB := n1_; have BK442 := n2_; have GW442 := n3_; have GE442 := n4_; have NB441_442 := n5_; have NB442_441 := n6_; clear n0_ n1_ n2_ n3_ n4_ n5_ n6_; clear hb hbox hg) | ((with_reducible refine gate_dst (N := 4) rfl ?_); refine box_event ?hg (N := 4) ?hd (cs := #[.bool false, .string (⟨#[]⟩ : ByteArray), .int .i64 0]) (t := 24) ?hr ?_; (case hd => rfl); (case hg => rfl); (case hr => first | (go_simp; done) | (go_simp; rfl)); intro gb443 hg w66 hbox hb; have n0_ := bb_ BK441 hb; have n1_ := bb_ BK442 hb; have n2_ := Aside0.mk (below_step (bl_ HB).out hb); have n3_ := Aside0.mk (hbox); have n4_ := Aside0.mk ((by rw [hg]; exact (below_size (bl_ HB).out) : w.heap.size ≤ gb443)); have n5_ := Aside0.mk ((by rw [hg]; exact (below_size (bl_ HB).out) : w.heap.size ≤ gb443)); have n6_ := Aside0.mk ((by rw [hg]; exact Nat.ne_of_lt (blk_lt (g := gb441) (o := .cells #[.bool a0_0, .string a0_1, .int .i64 a0_2] 24 (0, 0)) (by (with_reducible repeat (first | refine blk_drewN ?_ _ | refine blk_drew ?_ | refine blk_alloc ?_ _)); exact BK441.out)) : gb441 ≠ gb443)); have n7_ := Aside0.mk ((by rw [hg]; exact Nat.ne_of_gt (blk_lt (g := gb441) (o := .cells #[.bool a0_0, .string a0_1, .int .i64 a0_2] 24 (0, 0)) (by (with_reducible repeat (first | refine blk_drewN ?_ _ | refine blk_drew ?_ | refine blk_alloc ?_ _)); exact BK441.out)) : gb443 ≠ gb441)); have n8_ := Aside0.mk ((by rw [hg]; exact Nat.ne_of_lt (blk_lt (g := gb442) (o := .cells #[.bool a1_0, .string a1_1, .int .i64 a1_2] 24 (0, 0)) (by (with_reducible repeat (first | refine blk_drewN ?_ _ | refine blk_drew ?_ | refine blk_alloc ?_ _)); exact BK442.out)) : gb442 ≠ gb443)); have n9_ := Aside0.mk ((by rw [hg]; exact Nat.ne_of_gt (blk_lt (g := gb442) (o := .cells #[.bool a1_0, .string a1_1, .int .i64 a1_2] 24 (0, 0)) (by (with_reducible repeat (first | refine blk_drewN ?_ _ | refine blk_drew ?_ | refine blk_alloc ?_ _)); exact BK442.out)) : gb443 ≠ gb442)); clear BK441; clear BK442; clear HB; have BK441 := n0_; have BK442 := n1_; have HB := n2_; have BK443 := n3_; have GW443 := n4_; have GE443 := n5_; have NB441_443 := n6_; have NB443_441 := n7_; have NB442_443 := n8_; have NB443_442 := n9_; clear n0_ n1_ n2_ n3_ n4_ n5_ n6_ n7_ n8_ n9_; clear hb hbox hg))
      have n0_ := Aside0.mk (blk_drew BK441.out)
      have n1_ := Aside0.mk (blk_drew BK442.out)
      have n2_ := Aside0.mk (blk_drew BK443.out)
      have n3_ := Aside0.mk (below_drew1 HB.out)
      clear BK441
      clear BK442
      clear BK443
      clear HB
      have BK441 := n0_
      have BK442 := n1_
      have BK443 := n2_
      have HB := n3_
      clear n0_ n1_ n2_ n3_
      refine start_ (n := 6) (S := fun w' => w'.cell? ⟨gb441, 0, none⟩ = some (.bool a0_0) ∧ w'.cell? ⟨gb441, 1, none⟩ = some (.string a0_1) ∧ w'.cell? ⟨gb441, 2, none⟩ = some (.int .i64 a0_2) ∧ w'.cell? ⟨gb442, 0, none⟩ = some (.bool a1_0) ∧ w'.cell? ⟨gb442, 1, none⟩ = some (.string a1_1) ∧ w'.cell? ⟨gb442, 2, none⟩ = some (.int .i64 a1_2)) (ds := [4, 5]) #[false, false, false, false, false, false] (by kernel_rfl) rfl rfl ⟨(blk_cell BK441.out 0).trans rfl, (blk_cell BK441.out 1).trans rfl, (blk_cell BK441.out 2).trans rfl, (blk_cell BK442.out 0).trans rfl, (blk_cell BK442.out 1).trans rfl, (blk_cell BK442.out 2).trans rfl⟩ (fun hHeld => ?_)
      generalize w66.drew = w67 at BK441 BK442 BK443 HB hHeld ⊢
      refine take_ (i := 0) (N := some 12) (v := ?_) (a' := ?_) #[true, false, false, false, false, false] rfl rfl (by kernel_rfl) (fun _ _ _ h => h) (Or.inl ⟨by rfl, ?_⟩) hHeld ?_ ?_
      rotate_left
      · rintro w' ⟨s0, s1, s2, s3, s4, s5⟩
        go_simp
        with_reducible rfl
      rotate_left
      · simp only [Act.put, List.setIfInBounds_toArray, List.set_cons_zero, List.set_cons_succ, i64_w, i32_w]
        rfl
      refine take_ (i := 2) (N := some 14) (v := ?_) (a' := ?_) #[true, false, true, false, false, false] rfl rfl (by kernel_rfl) (fun _ _ _ h => h) (Or.inl ⟨by rfl, ?_⟩) hHeld ?_ ?_
      rotate_left
      · rintro w' ⟨s0, s1, s2, s3, s4, s5⟩
        go_simp
        with_reducible rfl
      rotate_left
      · simp only [Act.put, List.setIfInBounds_toArray, List.set_cons_zero, List.set_cons_succ, i64_w, i32_w]
        rfl
      refine one_ (i := 1) (N := some 13) #[true, true, true, false, false, false] rfl rfl (by kernel_rfl) (by decide) (fun K hK => ?_)
      refine goes_ Tryd.func19 (by kernel_rfl) rfl #[.agg #[.bool a0_0, .string a0_1, .int .i64 a0_2]] (by rfl) rfl rfl (by (try simp only [List.map_toArray, List.map_cons, List.map_nil]); first | done | rfl | (simp only [List.length_drop, List.length_take]; rfl) | (have z_ : ∀ s_ : ByteArray, s_.size ≤ 9223372036854775807 → -(s_.size : Int) = wrap64 (-(s_.size : Int)) := (fun s_ h_ => by unfold wrap64; omega); rw [← z_ _ (by omega)]; rfl)) ?_
      with_reducible refine (dec_Dec_Norm.calls k a0_0 a0_1 a0_2 t444 t445 t446 _ A3.out).mono ?_
      rintro e w68 ⟨rfl, hb⟩
      refine ⟨_, rfl, ?_⟩
      have n0_ := bb_ BK441 hb
      have n1_ := bb_ BK442 hb
      have n2_ := bb_ BK443 hb
      have n3_ := Aside0.mk (below_step (bl_ HB).out hb)
      clear BK441
      clear BK442
      clear BK443
      clear HB
      have BK441 := n0_
      have BK442 := n1_
      have BK443 := n2_
      have HB := n3_
      clear n0_ n1_ n2_ n3_
      (try clear hb)
      (try clear hb2)
      (try clear hk)
      (try clear hi)
      refine hK.out _ _ ⟨(blk_cell BK441.out 0).trans rfl, (blk_cell BK441.out 1).trans rfl, (blk_cell BK441.out 2).trans rfl, (blk_cell BK442.out 0).trans rfl, (blk_cell BK442.out 1).trans rfl, (blk_cell BK442.out 2).trans rfl⟩ (fun hHeld => ?_)
      clear hK K
      refine norm_ (a' := ?_) ?_ ?_
      rotate_left
      · show Act.put _ (some 13) _ = _
        simp only [Act.put, List.setIfInBounds_toArray, List.set_cons_zero, List.set_cons_succ, i64_w, i32_w]
        rfl
      refine one_ (i := 3) (N := some 15) #[true, true, true, true, false, false] rfl rfl (by kernel_rfl) (by decide) (fun K hK => ?_)
      refine goes_ Tryd.func19 (by kernel_rfl) rfl #[.agg #[.bool a1_0, .string a1_1, .int .i64 a1_2]] (by rfl) rfl rfl (by (try simp only [List.map_toArray, List.map_cons, List.map_nil]); first | done | rfl | (simp only [List.length_drop, List.length_take]; rfl) | (have z_ : ∀ s_ : ByteArray, s_.size ≤ 9223372036854775807 → -(s_.size : Int) = wrap64 (-(s_.size : Int)) := (fun s_ h_ => by unfold wrap64; omega); rw [← z_ _ (by omega)]; rfl)) ?_
      with_reducible refine (dec_Dec_Norm.calls k a1_0 a1_1 a1_2 t447 t448 t449 _ A4.out).mono ?_
      rintro e w69 ⟨rfl, hb⟩
      refine ⟨_, rfl, ?_⟩
      have n0_ := bb_ BK441 hb
      have n1_ := bb_ BK442 hb
      have n2_ := bb_ BK443 hb
      have n3_ := Aside0.mk (below_step (bl_ HB).out hb)
      clear BK441
      clear BK442
      clear BK443
      clear HB
      have BK441 := n0_
      have BK442 := n1_
      have BK443 := n2_
      have HB := n3_
      clear n0_ n1_ n2_ n3_
      (try clear hb)
      (try clear hb2)
      (try clear hk)
      (try clear hi)
      refine hK.out _ _ ⟨(blk_cell BK441.out 0).trans rfl, (blk_cell BK441.out 1).trans rfl, (blk_cell BK441.out 2).trans rfl, (blk_cell BK442.out 0).trans rfl, (blk_cell BK442.out 1).trans rfl, (blk_cell BK442.out 2).trans rfl⟩ (fun hHeld => ?_)
      clear hK K
      refine norm_ (a' := ?_) ?_ ?_
      rotate_left
      · show Act.put _ (some 15) _ = _
        simp only [Act.put, List.setIfInBounds_toArray, List.set_cons_zero, List.set_cons_succ, i64_w, i32_w]
        rfl
      refine last_ (i := 4) (N := none) #[true, true, true, true, true, false] rfl rfl (by kernel_rfl) (by decide) (fun K hK => ?_)
      have hs70 : w69.cell? ⟨gb441, 0, none⟩ = some (.bool a0_0) := (blk_cell BK441.out 0).trans rfl
      have hfs70 := blk_frozen BK441.out 0
      have hns70_1 := NB442_441.out
      have hns70_2 := NB443_441.out
      have hms70_1 := NB441_442.out
      have hms70_2 := NB441_443.out
      have hs71 : w69.cell? ⟨gb441, 1, none⟩ = some (.string a0_1) := (blk_cell BK441.out 1).trans rfl
      have hfs71 := blk_frozen BK441.out 1
      have hns71_1 := NB442_441.out
      have hns71_2 := NB443_441.out
      have hms71_1 := NB441_442.out
      have hms71_2 := NB441_443.out
      have hs72 : w69.cell? ⟨gb441, 2, none⟩ = some (.int .i64 a0_2) := (blk_cell BK441.out 2).trans rfl
      have hfs72 := blk_frozen BK441.out 2
      have hns72_1 := NB442_441.out
      have hns72_2 := NB443_441.out
      have hms72_1 := NB441_442.out
      have hms72_2 := NB441_443.out
      refine skip_ (w1 := ?_) (by rfl) rfl ?_ ?_
      rotate_left
      · go_simp
        rfl
      refine hK.out _ _ ?_
      clear hK K
      refine last_ (i := 5) (N := none) #[true, true, true, true, true, true] rfl rfl (by kernel_rfl) (by decide) (fun K hK => ?_)
      have hs73 : w69.cell? ⟨gb442, 0, none⟩ = some (.bool a1_0) := (blk_cell BK442.out 0).trans rfl
      have hfs73 := blk_frozen BK442.out 0
      have hns73_0 := NB441_442.out
      have hns73_2 := NB443_442.out
      have hms73_0 := NB442_441.out
      have hms73_2 := NB442_443.out
      have hs74 : w69.cell? ⟨gb442, 1, none⟩ = some (.string a1_1) := (blk_cell BK442.out 1).trans rfl
      have hfs74 := blk_frozen BK442.out 1
      have hns74_0 := NB441_442.out
      have hns74_2 := NB443_442.out
      have hms74_0 := NB442_441.out
      have hms74_2 := NB442_443.out
      have hs75 : w69.cell? ⟨gb442, 2, none⟩ = some (.int .i64 a1_2) := (blk_cell BK442.out 2).trans rfl
      have hfs75 := blk_frozen BK442.out 2
      have hns75_0 := NB441_442.out
      have hns75_2 := NB443_442.out
      have hms75_0 := NB442_441.out
      have hms75_2 := NB442_443.out
      refine skip_ (w1 := ?_) (by rfl) rfl ?_ ?_
      rotate_left
      · go_simp
        rfl
      refine hK.out _ _ ?_
      clear hK K
      refine done_ (by kernel_rfl) ?_
      have hnb76 := NB441_442.out
      have hnc76 := NB442_441.out
      have hnb77 := NB441_443.out
      have hnc77 := NB443_441.out
      have hcz78_0 : w69.cell? ⟨gb441, 0, none⟩ = some (.bool a0_0) := (blk_cell BK441.out 0).trans rfl
      have hcz78_1 : w69.cell? ⟨gb441, 1, none⟩ = some (.string a0_1) := (blk_cell BK441.out 1).trans rfl
      have hcz78_2 : w69.cell? ⟨gb441, 2, none⟩ = some (.int .i64 a0_2) := (blk_cell BK441.out 2).trans rfl
      have hfz78_0 := blk_frozen BK441.out 0
      have hfz78_1 := blk_frozen BK441.out 1
      have hfz78_2 := blk_frozen BK441.out 2
      have hnb79 := NB442_443.out
      have hnc79 := NB443_442.out
      have hcz80_0 : w69.cell? ⟨gb442, 0, none⟩ = some (.bool a1_0) := (blk_cell BK442.out 0).trans rfl
      have hcz80_1 : w69.cell? ⟨gb442, 1, none⟩ = some (.string a1_1) := (blk_cell BK442.out 1).trans rfl
      have hcz80_2 : w69.cell? ⟨gb442, 2, none⟩ = some (.int .i64 a1_2) := (blk_cell BK442.out 2).trans rfl
      have hfz80_0 := blk_frozen BK442.out 0
      have hfz80_1 := blk_frozen BK442.out 1
      have hfz80_2 := blk_frozen BK442.out 2
      try go_wp2_with (first | ((with_reducible refine gate_callee (f := 54) rfl ?_); refine goesL_ (some 19) rfl rfl Tryd.func54 (by kernel_rfl) rfl #[.agg #[.bool t444, .string t445, .int .i64 t446], .agg #[.bool t447, .string t448, .int .i64 t449]] rfl (by (try simp only [List.map_toArray, List.map_cons, List.map_nil]); first | done | rfl | (simp only [List.length_drop, List.length_take]; rfl) | (have z_ : ∀ s_ : ByteArray, s_.size ≤ 9223372036854775807 → -(s_.size : Int) = wrap64 (-(s_.size : Int)) := (fun s_ h_ => by unfold wrap64; omega); rw [← z_ _ (by omega)]; rfl)) ?_; (with_reducible refine (dec_both.calls t444 t445 t446 t447 t448 t449 t450 t451 t452 _ A5.out).mono ?_); rintro e w81 ⟨rfl, hb⟩; refine ⟨_, rfl, ?_⟩; have n0_ := Aside0.mk (blk_below (g := gb441) (o := .cells #[.bool t444, .string t445, .int .i64 t446] 24 (0, 0)) (by (with_reducible repeat (first | refine blk_drewN ?_ _ | refine blk_drew ?_ | refine blk_alloc ?_ _)); refine blk_far ?_ NB441_442.out _; (with_reducible repeat (first | refine blk_drewN ?_ _ | refine blk_drew ?_ | refine blk_alloc ?_ _)); refine blk_far ?_ NB441_442.out _; (with_reducible repeat (first | refine blk_drewN ?_ _ | refine blk_drew ?_ | refine blk_alloc ?_ _)); refine blk_far ?_ NB441_442.out _; (with_reducible repeat (first | refine blk_drewN ?_ _ | refine blk_drew ?_ | refine blk_alloc ?_ _)); refine blk_put (cs := #[.bool t444, .string t445, .int .i64 a0_2]) ?_ 2 _ rfl; (with_reducible repeat (first | refine blk_drewN ?_ _ | refine blk_drew ?_ | refine blk_alloc ?_ _)); refine blk_put (cs := #[.bool t444, .string a0_1, .int .i64 a0_2]) ?_ 1 _ rfl; (with_reducible repeat (first | refine blk_drewN ?_ _ | refine blk_drew ?_ | refine blk_alloc ?_ _)); refine blk_put (cs := #[.bool a0_0, .string a0_1, .int .i64 a0_2]) ?_ 0 _ rfl; (with_reducible repeat (first | refine blk_drewN ?_ _ | refine blk_drew ?_ | refine blk_alloc ?_ _)); exact BK441.out) hb); have n1_ := Aside0.mk (blk_below (g := gb442) (o := .cells #[.bool t447, .string t448, .int .i64 t449] 24 (0, 0)) (by (with_reducible repeat (first | refine blk_drewN ?_ _ | refine blk_drew ?_ | refine blk_alloc ?_ _)); refine blk_put (cs := #[.bool t447, .string t448, .int .i64 a1_2]) ?_ 2 _ rfl; (with_reducible repeat (first | refine blk_drewN ?_ _ | refine blk_drew ?_ | refine blk_alloc ?_ _)); refine blk_put (cs := #[.bool t447, .string a1_1, .int .i64 a1_2]) ?_ 1 _ rfl; (with_reducible repeat (first | refine blk_drewN ?_ _ | refine blk_drew ?_ | refine blk_alloc ?_ _)); refine blk_put (cs := #[.bool a1_0, .string a1_1, .int .i64 a1_2]) ?_ 0 _ rfl; (with_reducible repeat (first | refine blk_drewN ?_ _ | refine blk_drew ?_ | refine blk_alloc ?_ _)); refine blk_far ?_ NB442_441.out _; (with_reducible repeat (first | refine blk_drewN ?_ _ | refine blk_drew ?_ | refine blk_alloc ?_ _)); refine blk_far ?_ NB442_441.out _; (with_reducible repeat (first | refine blk_drewN ?_ _ | refine blk_drew ?_ | refine blk_alloc ?_ _)); refine blk_far ?_ NB442_441.out _; (with_reducible repeat (first | refine blk_drewN ?_ _ | refine blk_drew ?_ | refine blk_alloc ?_ _)); exact BK442.out) hb); have n2_ := Aside0.mk (blk_below (g := gb443) (o := .cells #[.bool false, .string (⟨#[]⟩ : ByteArray), .int .i64 0] 24 (0, 0)) (by (with_reducible repeat (first | refine blk_drewN ?_ _ | refine blk_drew ?_ | refine blk_alloc ?_ _)); refine blk_far ?_ NB443_442.out _; (with_reducible repeat (first | refine blk_drewN ?_ _ | refine blk_drew ?_ | refine blk_alloc ?_ _)); refine blk_far ?_ NB443_442.out _; (with_reducible repeat (first | refine blk_drewN ?_ _ | refine blk_drew ?_ | refine blk_alloc ?_ _)); refine blk_far ?_ NB443_442.out _; (with_reducible repeat (first | refine blk_drewN ?_ _ | refine blk_drew ?_ | refine blk_alloc ?_ _)); refine blk_far ?_ NB443_441.out _; (with_reducible repeat (first | refine blk_drewN ?_ _ | refine blk_drew ?_ | refine blk_alloc ?_ _)); refine blk_far ?_ NB443_441.out _; (with_reducible repeat (first | refine blk_drewN ?_ _ | refine blk_drew ?_ | refine blk_alloc ?_ _)); refine blk_far ?_ NB443_441.out _; (with_reducible repeat (first | refine blk_drewN ?_ _ | refine blk_drew ?_ | refine blk_alloc ?_ _)); exact BK443.out) hb); have n3_ := Aside0.mk (below_step (bl_ HB).out hb); clear BK441; clear BK442; clear BK443; clear HB; have BK441 := n0_; have BK442 := n1_; have BK443 := n2_; have HB := n3_; clear n0_ n1_ n2_ n3_; (try clear hb); (try clear hb2); (try clear hk); (try clear hi); have hcz82_0 : w81.cell? ⟨gb441, 0, none⟩ = some (.bool t444) := (blk_cell BK441.out 0).trans rfl; have hcz82_1 : w81.cell? ⟨gb441, 1, none⟩ = some (.string t445) := (blk_cell BK441.out 1).trans rfl; have hcz82_2 : w81.cell? ⟨gb441, 2, none⟩ = some (.int .i64 t446) := (blk_cell BK441.out 2).trans rfl; have hfz82_0 := blk_frozen BK441.out 0; have hfz82_1 := blk_frozen BK441.out 1; have hfz82_2 := blk_frozen BK441.out 2; have hcz83_0 : w81.cell? ⟨gb442, 0, none⟩ = some (.bool t447) := (blk_cell BK442.out 0).trans rfl; have hcz83_1 : w81.cell? ⟨gb442, 1, none⟩ = some (.string t448) := (blk_cell BK442.out 1).trans rfl; have hcz83_2 : w81.cell? ⟨gb442, 2, none⟩ = some (.int .i64 t449) := (blk_cell BK442.out 2).trans rfl; have hfz83_0 := blk_frozen BK442.out 0; have hfz83_1 := blk_frozen BK442.out 1; have hfz83_2 := blk_frozen BK442.out 2) | ((with_reducible refine gate_callee (f := 36) rfl ?_); refine goesL_ (some 38) rfl rfl Tryd.func36 (by kernel_rfl) rfl #[.string t450, .string t451] rfl (by (try simp only [List.map_toArray, List.map_cons, List.map_nil]); first | done | rfl | (simp only [List.length_drop, List.length_take]; rfl) | (have z_ : ∀ s_ : ByteArray, s_.size ≤ 9223372036854775807 → -(s_.size : Int) = wrap64 (-(s_.size : Int)) := (fun s_ h_ => by unfold wrap64; omega); rw [← z_ _ (by omega)]; rfl)) ?_; (with_reducible refine (num_Sub.calls k t450 t451 t457 false _ A35.out).mono ?_); rintro e w84 ⟨rfl, hb⟩; refine ⟨_, rfl, ?_⟩; have n0_ := bb_ BK441 hb; have n1_ := bb_ BK442 hb; have n2_ := bb_ BK443 hb; have n3_ := Aside0.mk (below_step (bl_ HB).out hb); clear BK441; clear BK442; clear BK443; clear HB; have BK441 := n0_; have BK442 := n1_; have BK443 := n2_; have HB := n3_; clear n0_ n1_ n2_ n3_; (try clear hb); (try clear hb2); (try clear hk); (try clear hi)) | ((with_reducible refine gate_callee (f := 36) rfl ?_); refine goesL_ (some 50) rfl rfl Tryd.func36 (by kernel_rfl) rfl #[.string t451, .string t450] rfl (by (try simp only [List.map_toArray, List.map_cons, List.map_nil]); first | done | rfl | (simp only [List.length_drop, List.length_take]; rfl) | (have z_ : ∀ s_ : ByteArray, s_.size ≤ 9223372036854775807 → -(s_.size : Int) = wrap64 (-(s_.size : Int)) := (fun s_ h_ => by unfold wrap64; omega); rw [← z_ _ (by omega)]; rfl)) ?_; (with_reducible refine (num_Sub.calls k t451 t450 t462 t463 _ A62.out).mono ?_); rintro e w85 ⟨rfl, hb⟩; refine ⟨_, rfl, ?_⟩; have n0_ := bb_ BK441 hb; have n1_ := bb_ BK442 hb; have n2_ := bb_ BK443 hb; have n3_ := Aside0.mk (below_step (bl_ HB).out hb); clear BK441; clear BK442; clear BK443; clear HB; have BK441 := n0_; have BK442 := n1_; have BK443 := n2_; have HB := n3_; clear n0_ n1_ n2_ n3_; (try clear hb); (try clear hb2); (try clear hk); (try clear hi); have hcz86_0 : w85.cell? ⟨gb442, 0, none⟩ = some (.bool t447) := (blk_cell BK442.out 0).trans rfl; have hcz86_1 : w85.cell? ⟨gb442, 1, none⟩ = some (.string t448) := (blk_cell BK442.out 1).trans rfl; have hcz86_2 : w85.cell? ⟨gb442, 2, none⟩ = some (.int .i64 t449) := (blk_cell BK442.out 2).trans rfl; have hfz86_0 := blk_frozen BK442.out 0; have hfz86_1 := blk_frozen BK442.out 1; have hfz86_2 := blk_frozen BK442.out 2) | ((with_reducible refine gate_callee (f := 22) rfl ?_); refine goesL_ (some 57) rfl rfl Tryd.func22 (by kernel_rfl) rfl #[.bool t447, .string t462, .int .i64 t452] rfl (by (try simp only [List.map_toArray, List.map_cons, List.map_nil]); first | done | rfl | (simp only [List.length_drop, List.length_take]; rfl) | (have z_ : ∀ s_ : ByteArray, s_.size ≤ 9223372036854775807 → -(s_.size : Int) = wrap64 (-(s_.size : Int)) := (fun s_ h_ => by unfold wrap64; omega); rw [← z_ _ (by omega)]; rfl)) ?_; (with_reducible refine (dec_Made.calls k t447 t462 t452 t464 t465 t466 _ A63.out).mono ?_); rintro e w87 ⟨rfl, hb⟩; refine ⟨_, rfl, ?_⟩; have n0_ := bb_ BK441 hb; have n1_ := bb_ BK442 hb; have n2_ := bb_ BK443 hb; have n3_ := Aside0.mk (below_step (bl_ HB).out hb); clear BK441; clear BK442; clear BK443; clear HB; have BK441 := n0_; have BK442 := n1_; have BK443 := n2_; have HB := n3_; clear n0_ n1_ n2_ n3_; (try clear hb); (try clear hb2); (try clear hk); (try clear hi); have hcz88_0 : w87.cell? ⟨gb443, 0, none⟩ = some (.bool false) := (blk_cell BK443.out 0).trans rfl; have hcz88_1 : w87.cell? ⟨gb443, 1, none⟩ = some (.string (⟨#[]⟩ : ByteArray)) := (blk_cell BK443.out 1).trans rfl; have hcz88_2 : w87.cell? ⟨gb443, 2, none⟩ = some (.int .i64 0) := (blk_cell BK443.out 2).trans rfl; have hfz88_0 := blk_frozen BK443.out 0; have hfz88_1 := blk_frozen BK443.out 1; have hfz88_2 := blk_frozen BK443.out 2))
      refine bodyPost_ret (results_cell_row rfl _ _ gb443 24 #[.bool t464, .string t465, .int .i64 t466] (0, 0) _ rfl (by (with_reducible repeat (first | refine blk_drewN ?_ _ | refine blk_drew ?_ | refine blk_alloc ?_ _)); refine blk_put (cs := #[.bool t464, .string t465, .int .i64 0]) ?_ 2 _ rfl; (with_reducible repeat (first | refine blk_drewN ?_ _ | refine blk_drew ?_ | refine blk_alloc ?_ _)); refine blk_put (cs := #[.bool t464, .string (⟨#[]⟩ : ByteArray), .int .i64 0]) ?_ 1 _ rfl; (with_reducible repeat (first | refine blk_drewN ?_ _ | refine blk_drew ?_ | refine blk_alloc ?_ _)); refine blk_put (cs := #[.bool false, .string (⟨#[]⟩ : ByteArray), .int .i64 0]) ?_ 0 _ rfl; (with_reducible repeat (first | refine blk_drewN ?_ _ | refine blk_drew ?_ | refine blk_alloc ?_ _)); exact BK443.out) Tryd.underlying24 rfl (by kernel_rfl)) rfl ?_
      exact ⟨by first | rfl | (simp [errW_none, errW_some] <;> rfl) | (simp [*, errW_none, errW_some] <;> first | rfl | exact given_isEmpty _ | exact (given_isEmpty _).symm), by repeat (first | (with_reducible first | exact HB.out | apply below_alloc | apply pw_below_drewN | apply below_drew1 | refine below_set ?_ GE441.out | refine below_set ?_ GE442.out | refine below_set ?_ GE443.out) | exact HB.out)⟩

/-! ### dec_Dec_Minus: function 34 -/
def dec_Dec_Minus.f (k : Nat) (a0_0 : Bool) (a0_1 : ByteArray) (a0_2 : Int) : Option (Bool × ByteArray × Int) := (dec_Made.f k (!a0_0) a0_1 a0_2).bind fun bt469 => (some (bt469.1, bt469.2.1, bt469.2.2))
theorem dec_Dec_Minus.mono : ∀ a0 a1 a2 k, LeO (dec_Dec_Minus.f k a0 a1 a2) (dec_Dec_Minus.f (k + 1) a0 a1 a2) := by
  intro a0 a1 a2 k
  unfold dec_Dec_Minus.f
  repeat' first
      | (with_reducible exact dec_Made.mono _ _ _ _)
      | (with_reducible exact LeO.refl _)
      | (with_reducible exact LeO.none _)
      | (with_reducible refine LeO.ite ?_ ?_)
      | (with_reducible refine LeO.bind ?_ (fun _ => ?_))
      | exact dec_Made.mono _ _ _ _
      | exact LeO.none _
      | refine LeO.ite ?_ ?_
      | refine LeO.bind ?_ (fun _ => ?_)
set_option maxHeartbeats 8000000 in
set_option maxRecDepth 100000 in
theorem dec_Dec_Minus.calls (k : Nat) (a0_0 : Bool) (a0_1 : ByteArray) (a0_2 : Int) (r1 : Bool) (r2 : ByteArray) (r3 : Int) (w : World) (h : dec_Dec_Minus.f k a0_0 a0_1 a0_2 = some (r1, r2, r3)) :
    Calls Tryd.prog 34 #[.agg #[.bool a0_0, .string a0_1, .int .i64 a0_2]] w fun e w' => e = .returned (.agg #[.bool r1, .string r2, .int .i64 r3]) ∧ Below w.heap.size w w' := by
  have hu24 := Tryd.underlying24
  have HB := Aside0.mk (Below.refl w.heap.size w)
  have H : ((dec_Made.f k (!a0_0) a0_1 a0_2).bind fun bt469 => (some (bt469.1, bt469.2.1, bt469.2.2))) = some (r1, r2, r3) := h
  clear h
  replace H := Option.bind_eq_some_iff.mp H
  obtain ⟨⟨t469, t470, t471⟩, A20, H⟩ := H
  replace H : (some (t469, t470, t471)) = some (r1, r2, r3) := H
  have A2 := Aside0.mk A20
  clear A20
  simp only [Option.some.injEq, Prod.mk.injEq] at H
  obtain ⟨rfl, rfl, rfl⟩ := H
  go_enter Tryd.func34, Tryd.ntmps34
  go_wp2_with (first | ((with_reducible refine gate_dst (N := 1) rfl ?_); refine box_event ?hg (N := 1) ?hd (cs := #[.bool a0_0, .string a0_1, .int .i64 a0_2]) (t := 24) ?hr ?_; (case hd => rfl); (case hg => rfl); (case hr => first | (go_simp; done) | (go_simp; rfl)); intro gb467 hg w3 hbox hb; have n0_ := Aside0.mk (below_step (bl_ HB).out hb); have n1_ := Aside0.mk (hbox); have n2_ := Aside0.mk ((by rw [hg]; exact (below_size (bl_ HB).out) : w.heap.size ≤ gb467)); have n3_ := Aside0.mk ((by rw [hg]; exact (below_size (bl_ HB).out) : w.heap.size ≤ gb467)); clear HB; have HB := n0_; have BK467 := n1_; have GW467 := n2_; have GE467 := n3_; clear n0_ n1_ n2_ n3_; clear hb hbox hg) | ((with_reducible refine gate_dst (N := 2) rfl ?_); refine box_event ?hg (N := 2) ?hd (cs := #[.bool false, .string (⟨#[]⟩ : ByteArray), .int .i64 0]) (t := 24) ?hr ?_; (case hd => rfl); (case hg => rfl); (case hr => first | (go_simp; done) | (go_simp; rfl)); intro gb468 hg w4 hbox hb; have n0_ := bb_ BK467 hb; have n1_ := Aside0.mk (below_step (bl_ HB).out hb); have n2_ := Aside0.mk (hbox); have n3_ := Aside0.mk ((by rw [hg]; exact (below_size (bl_ HB).out) : w.heap.size ≤ gb468)); have n4_ := Aside0.mk ((by rw [hg]; exact (below_size (bl_ HB).out) : w.heap.size ≤ gb468)); have n5_ := Aside0.mk ((by rw [hg]; exact Nat.ne_of_lt (blk_lt (g := gb467) (o := .cells #[.bool a0_0, .string a0_1, .int .i64 a0_2] 24 (0, 0)) (by (with_reducible repeat (first | refine blk_drewN ?_ _ | refine blk_drew ?_ | refine blk_alloc ?_ _)); exact BK467.out)) : gb467 ≠ gb468)); have n6_ := Aside0.mk ((by rw [hg]; exact Nat.ne_of_gt (blk_lt (g := gb467) (o := .cells #[.bool a0_0, .string a0_1, .int .i64 a0_2] 24 (0, 0)) (by (with_reducible repeat (first | refine blk_drewN ?_ _ | refine blk_drew ?_ | refine blk_alloc ?_ _)); exact BK467.out)) : gb468 ≠ gb467)); clear BK467; clear HB; have BK467 := n0_; have HB := n1_; have BK468 := n2_; have GW468 := n3_; have GE468 := n4_; have NB467_468 := n5_; have NB468_467 := n6_; clear n0_ n1_ n2_ n3_ n4_ n5_ n6_; clear hb hbox hg; have hnb5 := NB467_468.out; have hnc5 := NB468_467.out; have hcz6_0 : w4.cell? ⟨gb467, 0, none⟩ = some (.bool a0_0) := (blk_cell BK467.out 0).trans rfl; have hcz6_1 : w4.cell? ⟨gb467, 1, none⟩ = some (.string a0_1) := (blk_cell BK467.out 1).trans rfl; have hcz6_2 : w4.cell? ⟨gb467, 2, none⟩ = some (.int .i64 a0_2) := (blk_cell BK467.out 2).trans rfl; have hfz6_0 := blk_frozen BK467.out 0; have hfz6_1 := blk_frozen BK467.out 1; have hfz6_2 := blk_frozen BK467.out 2) | ((with_reducible refine gate_callee (f := 22) rfl ?_); refine goesL_ (some 10) rfl rfl Tryd.func22 (by kernel_rfl) rfl #[.bool (!a0_0), .string a0_1, .int .i64 a0_2] rfl (by (try simp only [List.map_toArray, List.map_cons, List.map_nil]); first | done | rfl | (simp only [List.length_drop, List.length_take]; rfl) | (have z_ : ∀ s_ : ByteArray, s_.size ≤ 9223372036854775807 → -(s_.size : Int) = wrap64 (-(s_.size : Int)) := (fun s_ h_ => by unfold wrap64; omega); rw [← z_ _ (by omega)]; rfl)) ?_; (with_reducible refine (dec_Made.calls k (!a0_0) a0_1 a0_2 t469 t470 t471 _ A2.out).mono ?_); rintro e w7 ⟨rfl, hb⟩; refine ⟨_, rfl, ?_⟩; have n0_ := bb_ BK467 hb; have n1_ := bb_ BK468 hb; have n2_ := Aside0.mk (below_step (bl_ HB).out hb); clear BK467; clear BK468; clear HB; have BK467 := n0_; have BK468 := n1_; have HB := n2_; clear n0_ n1_ n2_; (try clear hb); (try clear hb2); (try clear hk); (try clear hi); have hcz8_0 : w7.cell? ⟨gb468, 0, none⟩ = some (.bool false) := (blk_cell BK468.out 0).trans rfl; have hcz8_1 : w7.cell? ⟨gb468, 1, none⟩ = some (.string (⟨#[]⟩ : ByteArray)) := (blk_cell BK468.out 1).trans rfl; have hcz8_2 : w7.cell? ⟨gb468, 2, none⟩ = some (.int .i64 0) := (blk_cell BK468.out 2).trans rfl; have hfz8_0 := blk_frozen BK468.out 0; have hfz8_1 := blk_frozen BK468.out 1; have hfz8_2 := blk_frozen BK468.out 2))
  refine bodyPost_ret (results_cell_row rfl _ _ gb468 24 #[.bool t469, .string t470, .int .i64 t471] (0, 0) _ rfl (by (with_reducible repeat (first | refine blk_drewN ?_ _ | refine blk_drew ?_ | refine blk_alloc ?_ _)); refine blk_put (cs := #[.bool t469, .string t470, .int .i64 0]) ?_ 2 _ rfl; (with_reducible repeat (first | refine blk_drewN ?_ _ | refine blk_drew ?_ | refine blk_alloc ?_ _)); refine blk_put (cs := #[.bool t469, .string (⟨#[]⟩ : ByteArray), .int .i64 0]) ?_ 1 _ rfl; (with_reducible repeat (first | refine blk_drewN ?_ _ | refine blk_drew ?_ | refine blk_alloc ?_ _)); refine blk_put (cs := #[.bool false, .string (⟨#[]⟩ : ByteArray), .int .i64 0]) ?_ 0 _ rfl; (with_reducible repeat (first | refine blk_drewN ?_ _ | refine blk_drew ?_ | refine blk_alloc ?_ _)); exact BK468.out) Tryd.underlying24 rfl (by kernel_rfl)) rfl ?_
  exact ⟨by first | rfl | (simp [errW_none, errW_some] <;> rfl) | (simp [*, errW_none, errW_some] <;> first | rfl | exact given_isEmpty _ | exact (given_isEmpty _).symm), by repeat (first | (with_reducible first | exact HB.out | apply below_alloc | apply pw_below_drewN | apply below_drew1 | refine below_set ?_ GE467.out | refine below_set ?_ GE468.out) | exact HB.out)⟩

/-! ### dec_Sub: function 33 -/
def dec_Sub.f (k : Nat) (a0_0 : Bool) (a0_1 : ByteArray) (a0_2 : Int) (a1_0 : Bool) (a1_1 : ByteArray) (a1_2 : Int) : Option (Bool × ByteArray × Int) := (dec_Dec_Minus.f k a1_0 a1_1 a1_2).bind fun bt475 => ((dec_Add.f k a0_0 a0_1 a0_2 bt475.1 bt475.2.1 bt475.2.2).bind fun bt478 => (some (bt478.1, bt478.2.1, bt478.2.2)))
theorem dec_Sub.mono : ∀ a0 a1 a2 a3 a4 a5 k, LeO (dec_Sub.f k a0 a1 a2 a3 a4 a5) (dec_Sub.f (k + 1) a0 a1 a2 a3 a4 a5) := by
  intro a0 a1 a2 a3 a4 a5 k
  unfold dec_Sub.f
  repeat' first
      | (with_reducible exact dec_Add.mono _ _ _ _ _ _ _)
      | (with_reducible exact dec_Dec_Minus.mono _ _ _ _)
      | (with_reducible exact LeO.refl _)
      | (with_reducible exact LeO.none _)
      | (with_reducible refine LeO.ite ?_ ?_)
      | (with_reducible refine LeO.bind ?_ (fun _ => ?_))
      | exact dec_Add.mono _ _ _ _ _ _ _
      | exact dec_Dec_Minus.mono _ _ _ _
      | exact LeO.none _
      | refine LeO.ite ?_ ?_
      | refine LeO.bind ?_ (fun _ => ?_)
set_option maxHeartbeats 8000000 in
set_option maxRecDepth 100000 in
theorem dec_Sub.calls (k : Nat) (a0_0 : Bool) (a0_1 : ByteArray) (a0_2 : Int) (a1_0 : Bool) (a1_1 : ByteArray) (a1_2 : Int) (r1 : Bool) (r2 : ByteArray) (r3 : Int) (w : World) (h : dec_Sub.f k a0_0 a0_1 a0_2 a1_0 a1_1 a1_2 = some (r1, r2, r3)) :
    Calls Tryd.prog 33 #[.agg #[.bool a0_0, .string a0_1, .int .i64 a0_2], .agg #[.bool a1_0, .string a1_1, .int .i64 a1_2]] w fun e w' => e = .returned (.agg #[.bool r1, .string r2, .int .i64 r3]) ∧ Below w.heap.size w w' := by
  have hu24 := Tryd.underlying24
  have HB := Aside0.mk (Below.refl w.heap.size w)
  have H : ((dec_Dec_Minus.f k a1_0 a1_1 a1_2).bind fun bt475 => ((dec_Add.f k a0_0 a0_1 a0_2 bt475.1 bt475.2.1 bt475.2.2).bind fun bt478 => (some (bt478.1, bt478.2.1, bt478.2.2)))) = some (r1, r2, r3) := h
  clear h
  replace H := Option.bind_eq_some_iff.mp H
  obtain ⟨⟨t475, t476, t477⟩, A30, H⟩ := H
  replace H : ((dec_Add.f k a0_0 a0_1 a0_2 t475 t476 t477).bind fun bt478 => (some (bt478.1, bt478.2.1, bt478.2.2))) = some (r1, r2, r3) := H
  have A3 := Aside0.mk A30
  clear A30
  replace H := Option.bind_eq_some_iff.mp H
  obtain ⟨⟨t478, t479, t480⟩, A40, H⟩ := H
  replace H : (some (t478, t479, t480)) = some (r1, r2, r3) := H
  have A4 := Aside0.mk A40
  clear A40
  simp only [Option.some.injEq, Prod.mk.injEq] at H
  obtain ⟨rfl, rfl, rfl⟩ := H
  go_enter Tryd.func33, Tryd.ntmps33
  try go_wp2_with (first | ((with_reducible refine gate_dst (N := 2) rfl ?_); refine box_event ?hg (N := 2) ?hd (cs := #[.bool a0_0, .string a0_1, .int .i64 a0_2]) (t := 24) ?hr ?_; (case hd => rfl); (case hg => rfl); (case hr => first | (go_simp; done) | (go_simp; rfl)); intro gb472 hg w5 hbox hb; have n0_ := Aside0.mk (below_step (bl_ HB).out hb); have n1_ := Aside0.mk (hbox); have n2_ := Aside0.mk ((by rw [hg]; exact (below_size (bl_ HB).out) : w.heap.size ≤ gb472)); have n3_ := Aside0.mk ((by rw [hg]; exact (below_size (bl_ HB).out) : w.heap.size ≤ gb472)); clear HB; have HB := n0_; have BK472 := n1_; have GW472 := n2_; have GE472 := n3_; clear n0_ n1_ n2_ n3_; clear hb hbox hg) | ((with_reducible refine gate_dst (N := 3) rfl ?_); refine box_event ?hg (N := 3) ?hd (cs := #[.bool a1_0, .string a1_1, .int .i64 a1_2]) (t := 24) ?hr ?_; (case hd => rfl); (case hg => rfl); (case hr => first | (go_simp; done) | (go_simp; rfl)); intro gb473 hg w6 hbox hb; have n0_ := bb_ BK472 hb; have n1_ := Aside0.mk (below_step (bl_ HB).out hb); have n2_ := Aside0.mk (hbox); have n3_ := Aside0.mk ((by rw [hg]; exact (below_size (bl_ HB).out) : w.heap.size ≤ gb473)); have n4_ := Aside0.mk ((by rw [hg]; exact (below_size (bl_ HB).out) : w.heap.size ≤ gb473)); have n5_ := Aside0.mk ((by rw [hg]; exact Nat.ne_of_lt (blk_lt (g := gb472) (o := .cells #[.bool a0_0, .string a0_1, .int .i64 a0_2] 24 (0, 0)) (by (with_reducible repeat (first | refine blk_drewN ?_ _ | refine blk_drew ?_ | refine blk_alloc ?_ _)); exact BK472.out)) : gb472 ≠ gb473)); have n6_ := Aside0.mk ((by rw [hg]; exact Nat.ne_of_gt (blk_lt (g := gb472) (o := .cells #[.bool a0_0, .string a0_1, .int .i64 a0_2] 24 (0, 0)) (by (with_reducible repeat (first | refine blk_drewN ?_ _ | refine blk_drew ?_ | refine blk_alloc ?_ _)); exact BK472.out)) : gb473 ≠ gb472)); clear BK472; clear HB; have BK472 := n0_; have HB := n1_; have BK473 := n2_; have GW473 := n3_; have GE473 := n4_; have NB472_473 := n5_; have NB473_472 := n6_; clear n0_ n1_ n2_ n3_ n4_ n5_ n6_; clear hb hbox hg) | ((with_reducible refine gate_dst (N := 4) rfl ?_); refine box_event ?hg (N := 4) ?hd (cs := #[.bool false, .string (⟨#[]⟩ : ByteArray), .int .i64 0]) (t := 24) ?hr ?_; (case hd => rfl); (case hg => rfl); (case hr => first | (go_simp; done) | (go_simp; rfl)); intro gb474 hg w7 hbox hb; have n0_ := bb_ BK472 hb; have n1_ := bb_ BK473 hb; have n2_ := Aside0.mk (below_step (bl_ HB).out hb); have n3_ := Aside0.mk (hbox); have n4_ := Aside0.mk ((by rw [hg]; exact (below_size (bl_ HB).out) : w.heap.size ≤ gb474)); have n5_ := Aside0.mk ((by rw [hg]; exact (below_size (bl_ HB).out) : w.heap.size ≤ gb474)); have n6_ := Aside0.mk ((by rw [hg]; exact Nat.ne_of_lt (blk_lt (g := gb472) (o := .cells #[.bool a0_0, .string a0_1, .int .i64 a0_2] 24 (0, 0)) (by (with_reducible repeat (first | refine blk_drewN ?_ _ | refine blk_drew ?_ | refine blk_alloc ?_ _)); exact BK472.out)) : gb472 ≠ gb474)); have n7_ := Aside0.mk ((by rw [hg]; exact Nat.ne_of_gt (blk_lt (g := gb472) (o := .cells #[.bool a0_0, .string a0_1, .int .i64 a0_2] 24 (0, 0)) (by (with_reducible repeat (first | refine blk_drewN ?_ _ | refine blk_drew ?_ | refine blk_alloc ?_ _)); exact BK472.out)) : gb474 ≠ gb472)); have n8_ := Aside0.mk ((by rw [hg]; exact Nat.ne_of_lt (blk_lt (g := gb473) (o := .cells #[.bool a1_0, .string a1_1, .int .i64 a1_2] 24 (0, 0)) (by (with_reducible repeat (first | refine blk_drewN ?_ _ | refine blk_drew ?_ | refine blk_alloc ?_ _)); exact BK473.out)) : gb473 ≠ gb474)); have n9_ := Aside0.mk ((by rw [hg]; exact Nat.ne_of_gt (blk_lt (g := gb473) (o := .cells #[.bool a1_0, .string a1_1, .int .i64 a1_2] 24 (0, 0)) (by (with_reducible repeat (first | refine blk_drewN ?_ _ | refine blk_drew ?_ | refine blk_alloc ?_ _)); exact BK473.out)) : gb474 ≠ gb473)); clear BK472; clear BK473; clear HB; have BK472 := n0_; have BK473 := n1_; have HB := n2_; have BK474 := n3_; have GW474 := n4_; have GE474 := n5_; have NB472_474 := n6_; have NB474_472 := n7_; have NB473_474 := n8_; have NB474_473 := n9_; clear n0_ n1_ n2_ n3_ n4_ n5_ n6_ n7_ n8_ n9_; clear hb hbox hg))
  have n0_ := Aside0.mk (blk_drew BK472.out)
  have n1_ := Aside0.mk (blk_drew BK473.out)
  have n2_ := Aside0.mk (blk_drew BK474.out)
  have n3_ := Aside0.mk (below_drew1 HB.out)
  clear BK472
  clear BK473
  clear BK474
  clear HB
  have BK472 := n0_
  have BK473 := n1_
  have BK474 := n2_
  have HB := n3_
  clear n0_ n1_ n2_ n3_
  refine start_ (n := 5) (S := fun w' => w'.cell? ⟨gb472, 0, none⟩ = some (.bool a0_0) ∧ w'.cell? ⟨gb472, 1, none⟩ = some (.string a0_1) ∧ w'.cell? ⟨gb472, 2, none⟩ = some (.int .i64 a0_2) ∧ w'.cell? ⟨gb473, 0, none⟩ = some (.bool a1_0) ∧ w'.cell? ⟨gb473, 1, none⟩ = some (.string a1_1) ∧ w'.cell? ⟨gb473, 2, none⟩ = some (.int .i64 a1_2)) (ds := []) #[false, false, false, false, false] (by kernel_rfl) rfl rfl ⟨(blk_cell BK472.out 0).trans rfl, (blk_cell BK472.out 1).trans rfl, (blk_cell BK472.out 2).trans rfl, (blk_cell BK473.out 0).trans rfl, (blk_cell BK473.out 1).trans rfl, (blk_cell BK473.out 2).trans rfl⟩ (fun hHeld => ?_)
  generalize w7.drew = w8 at BK472 BK473 BK474 HB hHeld ⊢
  refine take_ (i := 0) (N := some 5) (v := ?_) (a' := ?_) #[true, false, false, false, false] rfl rfl (by kernel_rfl) (fun _ _ _ h => h) (Or.inl ⟨by rfl, ?_⟩) hHeld ?_ ?_
  rotate_left
  · rintro w' ⟨s0, s1, s2, s3, s4, s5⟩
    go_simp
    with_reducible rfl
  rotate_left
  · simp only [Act.put, List.setIfInBounds_toArray, List.set_cons_zero, List.set_cons_succ, i64_w, i32_w]
    rfl
  refine take_ (i := 1) (N := some 6) (v := ?_) (a' := ?_) #[true, true, false, false, false] rfl rfl (by kernel_rfl) (fun _ _ _ h => h) (Or.inl ⟨by rfl, ?_⟩) hHeld ?_ ?_
  rotate_left
  · rintro w' ⟨s0, s1, s2, s3, s4, s5⟩
    go_simp
    with_reducible rfl
  rotate_left
  · simp only [Act.put, List.setIfInBounds_toArray, List.set_cons_zero, List.set_cons_succ, i64_w, i32_w]
    rfl
  refine one_ (i := 2) (N := some 7) #[true, true, true, false, false] rfl rfl (by kernel_rfl) (by decide) (fun K hK => ?_)
  refine goes_ Tryd.func34 (by kernel_rfl) rfl #[.agg #[.bool a1_0, .string a1_1, .int .i64 a1_2]] (by rfl) rfl rfl (by (try simp only [List.map_toArray, List.map_cons, List.map_nil]); first | done | rfl | (simp only [List.length_drop, List.length_take]; rfl) | (have z_ : ∀ s_ : ByteArray, s_.size ≤ 9223372036854775807 → -(s_.size : Int) = wrap64 (-(s_.size : Int)) := (fun s_ h_ => by unfold wrap64; omega); rw [← z_ _ (by omega)]; rfl)) ?_
  with_reducible refine (dec_Dec_Minus.calls k a1_0 a1_1 a1_2 t475 t476 t477 _ A3.out).mono ?_
  rintro e w9 ⟨rfl, hb⟩
  refine ⟨_, rfl, ?_⟩
  have n0_ := bb_ BK472 hb
  have n1_ := bb_ BK473 hb
  have n2_ := bb_ BK474 hb
  have n3_ := Aside0.mk (below_step (bl_ HB).out hb)
  clear BK472
  clear BK473
  clear BK474
  clear HB
  have BK472 := n0_
  have BK473 := n1_
  have BK474 := n2_
  have HB := n3_
  clear n0_ n1_ n2_ n3_
  (try clear hb)
  (try clear hb2)
  (try clear hk)
  (try clear hi)
  refine hK.out _ _ ⟨(blk_cell BK472.out 0).trans rfl, (blk_cell BK472.out 1).trans rfl, (blk_cell BK472.out 2).trans rfl, (blk_cell BK473.out 0).trans rfl, (blk_cell BK473.out 1).trans rfl, (blk_cell BK473.out 2).trans rfl⟩ (fun hHeld => ?_)
  clear hK K
  refine norm_ (a' := ?_) ?_ ?_
  rotate_left
  · show Act.put _ (some 7) _ = _
    simp only [Act.put, List.setIfInBounds_toArray, List.set_cons_zero, List.set_cons_succ, i64_w, i32_w]
    rfl
  refine one_ (i := 3) (N := some 8) #[true, true, true, true, false] rfl rfl (by kernel_rfl) (by decide) (fun K hK => ?_)
  refine goes_ Tryd.func32 (by kernel_rfl) rfl #[.agg #[.bool a0_0, .string a0_1, .int .i64 a0_2], .agg #[.bool t475, .string t476, .int .i64 t477]] (by rfl) rfl rfl (by (try simp only [List.map_toArray, List.map_cons, List.map_nil]); first | done | rfl | (simp only [List.length_drop, List.length_take]; rfl) | (have z_ : ∀ s_ : ByteArray, s_.size ≤ 9223372036854775807 → -(s_.size : Int) = wrap64 (-(s_.size : Int)) := (fun s_ h_ => by unfold wrap64; omega); rw [← z_ _ (by omega)]; rfl)) ?_
  with_reducible refine (dec_Add.calls k a0_0 a0_1 a0_2 t475 t476 t477 t478 t479 t480 _ A4.out).mono ?_
  rintro e w10 ⟨rfl, hb⟩
  refine ⟨_, rfl, ?_⟩
  have n0_ := bb_ BK472 hb
  have n1_ := bb_ BK473 hb
  have n2_ := bb_ BK474 hb
  have n3_ := Aside0.mk (below_step (bl_ HB).out hb)
  clear BK472
  clear BK473
  clear BK474
  clear HB
  have BK472 := n0_
  have BK473 := n1_
  have BK474 := n2_
  have HB := n3_
  clear n0_ n1_ n2_ n3_
  (try clear hb)
  (try clear hb2)
  (try clear hk)
  (try clear hi)
  refine hK.out _ _ ⟨(blk_cell BK472.out 0).trans rfl, (blk_cell BK472.out 1).trans rfl, (blk_cell BK472.out 2).trans rfl, (blk_cell BK473.out 0).trans rfl, (blk_cell BK473.out 1).trans rfl, (blk_cell BK473.out 2).trans rfl⟩ (fun hHeld => ?_)
  clear hK K
  refine norm_ (a' := ?_) ?_ ?_
  rotate_left
  · show Act.put _ (some 8) _ = _
    simp only [Act.put, List.setIfInBounds_toArray, List.set_cons_zero, List.set_cons_succ, i64_w, i32_w]
    rfl
  refine one_ (i := 4) (N := none) #[true, true, true, true, true] rfl rfl (by kernel_rfl) (by decide) (fun K hK => ?_)
  have hs11 : w10.cell? ⟨gb474, 0, none⟩ = some (.bool false) := (blk_cell BK474.out 0).trans rfl
  have hfs11 := blk_frozen BK474.out 0
  have hns11_0 := NB472_474.out
  have hns11_1 := NB473_474.out
  have hms11_0 := NB474_472.out
  have hms11_1 := NB474_473.out
  have hs12 : w10.cell? ⟨gb474, 1, none⟩ = some (.string (⟨#[]⟩ : ByteArray)) := (blk_cell BK474.out 1).trans rfl
  have hfs12 := blk_frozen BK474.out 1
  have hns12_0 := NB472_474.out
  have hns12_1 := NB473_474.out
  have hms12_0 := NB474_472.out
  have hms12_1 := NB474_473.out
  have hs13 : w10.cell? ⟨gb474, 2, none⟩ = some (.int .i64 0) := (blk_cell BK474.out 2).trans rfl
  have hfs13 := blk_frozen BK474.out 2
  have hns13_0 := NB472_474.out
  have hns13_1 := NB473_474.out
  have hms13_0 := NB474_472.out
  have hms13_1 := NB474_473.out
  refine skip_ (w1 := ?_) (by rfl) rfl ?_ ?_
  rotate_left
  · go_simp
    rfl
  refine hK.out _ _ ⟨((cell_far (p := ⟨gb474, _, none⟩) NB472_474.out _).trans (((cell_far (p := ⟨gb474, _, none⟩) NB472_474.out _).trans (((cell_far (p := ⟨gb474, _, none⟩) NB472_474.out _).trans (hHeld.1)))))), ((cell_far (p := ⟨gb474, _, none⟩) NB472_474.out _).trans (((cell_far (p := ⟨gb474, _, none⟩) NB472_474.out _).trans (((cell_far (p := ⟨gb474, _, none⟩) NB472_474.out _).trans (hHeld.2.1)))))), ((cell_far (p := ⟨gb474, _, none⟩) NB472_474.out _).trans (((cell_far (p := ⟨gb474, _, none⟩) NB472_474.out _).trans (((cell_far (p := ⟨gb474, _, none⟩) NB472_474.out _).trans (hHeld.2.2.1)))))), ((cell_far (p := ⟨gb474, _, none⟩) NB473_474.out _).trans (((cell_far (p := ⟨gb474, _, none⟩) NB473_474.out _).trans (((cell_far (p := ⟨gb474, _, none⟩) NB473_474.out _).trans (hHeld.2.2.2.1)))))), ((cell_far (p := ⟨gb474, _, none⟩) NB473_474.out _).trans (((cell_far (p := ⟨gb474, _, none⟩) NB473_474.out _).trans (((cell_far (p := ⟨gb474, _, none⟩) NB473_474.out _).trans (hHeld.2.2.2.2.1)))))), ((cell_far (p := ⟨gb474, _, none⟩) NB473_474.out _).trans (((cell_far (p := ⟨gb474, _, none⟩) NB473_474.out _).trans (((cell_far (p := ⟨gb474, _, none⟩) NB473_474.out _).trans (hHeld.2.2.2.2.2))))))⟩ (fun hHeld => ?_)
  clear hK K
  refine done_ (by kernel_rfl) ?_
  try go_wp2
  refine bodyPost_ret (results_cell_row rfl _ _ gb474 24 #[.bool t478, .string t479, .int .i64 t480] (0, 0) _ rfl (by (with_reducible repeat (first | refine blk_drewN ?_ _ | refine blk_drew ?_ | refine blk_alloc ?_ _)); refine blk_put (cs := #[.bool t478, .string t479, .int .i64 0]) ?_ 2 _ rfl; (with_reducible repeat (first | refine blk_drewN ?_ _ | refine blk_drew ?_ | refine blk_alloc ?_ _)); refine blk_put (cs := #[.bool t478, .string (⟨#[]⟩ : ByteArray), .int .i64 0]) ?_ 1 _ rfl; (with_reducible repeat (first | refine blk_drewN ?_ _ | refine blk_drew ?_ | refine blk_alloc ?_ _)); refine blk_put (cs := #[.bool false, .string (⟨#[]⟩ : ByteArray), .int .i64 0]) ?_ 0 _ rfl; (with_reducible repeat (first | refine blk_drewN ?_ _ | refine blk_drew ?_ | refine blk_alloc ?_ _)); exact BK474.out) Tryd.underlying24 rfl (by kernel_rfl)) rfl ?_
  exact ⟨by first | rfl | (simp [errW_none, errW_some] <;> rfl) | (simp [*, errW_none, errW_some] <;> first | rfl | exact given_isEmpty _ | exact (given_isEmpty _).symm), by repeat (first | (with_reducible first | exact HB.out | apply below_alloc | apply pw_below_drewN | apply below_drew1 | refine below_set ?_ GE472.out | refine below_set ?_ GE473.out | refine below_set ?_ GE474.out) | exact HB.out)⟩

end Go.Proofs.YtlkiaeipbekpkaaDoor.P
