-- written by a program of this session (wip/p2)
import Derived.Test.YtoegmienlhgjnaaDoorPx0
import Derived.Test.YtoegmienlhgjnaaDoorPx2
import Derived.Test.YtoegmienlhgjnaaDoorPx3
import Derived.Test.YtoegmienlhgjnaaDoorPx4
import Derived.Test.YtoegmienlhgjnaaDoorPx11
namespace Go.Proofs.YtoegmienlhgjnaaDoor.P
open Go.RowKit Go.Proofs.YtoegmienlhgjnaaDoorW.PrintWords Go.Proofs.YtoegmienlhgjnaaDoorW.PrintLast Go.Proofs.YtoegmienlhgjnaaDoorW.PrintMore
attribute [local go_sem] max2_int min2_int max_two min_two max_three min_three max_four min_four   -- for this text's walks alone
set_option linter.unusedVariables false
set_option linter.unusedSimpArgs false

/-! ### dec_Dec_Mag: function 28 -/
def dec_Dec_Mag.f (k : Nat) (a0_0 : Bool) (a0_1 : ByteArray) (a0_2 : Int) : Option (Int × Bool) := (dec_Dec_Norm.f k a0_0 a0_1 a0_2).bind fun bt361 => ((dec_Dec_Zero.f k bt361.1 bt361.2.1 bt361.2.2).bind fun t364 => (if t364 = true then (some (0, false)) else (some (wrap64 ((wrap64 (bt361.2.2 + (bt361.2.1.size : Int))) - 1), true))))
theorem dec_Dec_Mag.mono : ∀ a0 a1 a2 k, LeO (dec_Dec_Mag.f k a0 a1 a2) (dec_Dec_Mag.f (k + 1) a0 a1 a2) := by
  intro a0 a1 a2 k
  unfold dec_Dec_Mag.f
  repeat' first
      | (with_reducible exact dec_Dec_Norm.mono _ _ _ _)
      | (with_reducible exact dec_Dec_Zero.mono _ _ _ _)
      | (with_reducible exact LeO.refl _)
      | (with_reducible exact LeO.none _)
      | (with_reducible refine LeO.ite ?_ ?_)
      | (with_reducible refine LeO.bind ?_ (fun _ => ?_))
      | exact dec_Dec_Norm.mono _ _ _ _
      | exact dec_Dec_Zero.mono _ _ _ _
      | exact LeO.none _
      | refine LeO.ite ?_ ?_
      | refine LeO.bind ?_ (fun _ => ?_)
set_option maxHeartbeats 8000000 in
set_option maxRecDepth 100000 in
theorem dec_Dec_Mag.calls (k : Nat) (a0_0 : Bool) (a0_1 : ByteArray) (a0_2 : Int) (r1 : Int) (r2 : Bool) (w : World) (h : dec_Dec_Mag.f k a0_0 a0_1 a0_2 = some (r1, r2)) :
    Calls Tryd.prog 28 #[.agg #[.bool a0_0, .string a0_1, .int .i64 a0_2]] w fun e w' => e = .returned (.tuple #[.int .i64 r1, .bool r2]) ∧ Below w.heap.size w w' := by
  have hu30 := Tryd.underlying30
  have HB := Aside0.mk (Below.refl w.heap.size w)
  have H : ((dec_Dec_Norm.f k a0_0 a0_1 a0_2).bind fun bt361 => ((dec_Dec_Zero.f k bt361.1 bt361.2.1 bt361.2.2).bind fun t364 => (if t364 = true then (some (0, false)) else (some (wrap64 ((wrap64 (bt361.2.2 + (bt361.2.1.size : Int))) - 1), true))))) = some (r1, r2) := h
  clear h
  replace H := Option.bind_eq_some_iff.mp H
  obtain ⟨⟨t361, t362, t363⟩, A20, H⟩ := H
  replace H : ((dec_Dec_Zero.f k t361 t362 t363).bind fun t364 => (if t364 = true then (some (0, false)) else (some (wrap64 ((wrap64 (t363 + (t362.size : Int))) - 1), true)))) = some (r1, r2) := H
  have A2 := Aside0.mk A20
  clear A20
  replace H := Option.bind_eq_some_iff.mp H
  obtain ⟨t364, A30, H⟩ := H
  replace H : (if t364 = true then (some (0, false)) else (some (wrap64 ((wrap64 (t363 + (t362.size : Int))) - 1), true))) = some (r1, r2) := H
  have A3 := Aside0.mk A30
  clear A30
  by_cases c4 : t364 = true
  · subst c4
    have H1 : (some (0, false)) = some (r1, r2) := by rw [if_pos rfl] at H; exact H
    clear H
    have H := H1
    clear H1
    simp only [Option.some.injEq, Prod.mk.injEq] at H
    obtain ⟨rfl, rfl⟩ := H
    go_enter Tryd.func28, Tryd.ntmps28
    go_wp2_with (first | ((with_reducible refine gate_dst (N := 1) rfl ?_); refine box_event ?hg (N := 1) ?hd (cs := #[.bool a0_0, .string a0_1, .int .i64 a0_2]) (t := 30) ?hr ?_; (case hd => rfl); (case hg => rfl); (case hr => first | (go_simp; done) | (go_simp; rfl)); intro gb360 hg w5 hbox hb; have n0_ := Aside0.mk (below_step (bl_ HB).out hb); have n1_ := Aside0.mk (hbox); have n2_ := Aside0.mk ((by rw [hg]; exact (below_size (bl_ HB).out) : w.heap.size ≤ gb360)); have n3_ := Aside0.mk ((by rw [hg]; exact (below_size (bl_ HB).out) : w.heap.size ≤ gb360)); clear HB; have HB := n0_; have BK360 := n1_; have GW360 := n2_; have GE360 := n3_; clear n0_ n1_ n2_ n3_; clear hb hbox hg; have hcz6_0 : w5.cell? ⟨gb360, 0, none⟩ = some (.bool a0_0) := bc_ BK360 0; have hcz6_1 : w5.cell? ⟨gb360, 1, none⟩ = some (.string a0_1) := bc_ BK360 1; have hcz6_2 : w5.cell? ⟨gb360, 2, none⟩ = some (.int .i64 a0_2) := bc_ BK360 2; have hfz6_0 := blk_frozen BK360.out 0; have hfz6_1 := blk_frozen BK360.out 1; have hfz6_2 := blk_frozen BK360.out 2) | ((with_reducible refine gate_callee (f := 22) rfl ?_); refine goesL_ (some 5) rfl rfl Tryd.func22 (by kernel_rfl) rfl #[.agg #[.bool a0_0, .string a0_1, .int .i64 a0_2]] rfl (by (try simp only [List.map_toArray, List.map_cons, List.map_nil]); first | done | rfl | (simp only [List.length_drop, List.length_take]; rfl) | (have z_ : ∀ s_ : ByteArray, s_.size ≤ 9223372036854775807 → -(s_.size : Int) = wrap64 (-(s_.size : Int)) := (fun s_ h_ => by unfold wrap64; omega); rw [← z_ _ (by omega)]; rfl) | (simp only [ByteArray.size_append]; rfl)) ?_; (with_reducible refine (dec_Dec_Norm.calls k a0_0 a0_1 a0_2 t361 t362 t363 _ A2.out).mono ?_); rintro e w7 ⟨rfl, hb⟩; refine ⟨_, rfl, ?_⟩; have n0_ := bb_ BK360 hb; have n1_ := Aside0.mk (below_step (bl_ HB).out hb); clear BK360; clear HB; have BK360 := n0_; have HB := n1_; clear n0_ n1_; (try clear hb); (try clear hb2); (try clear hk); (try clear hi); have hcz8_0 : w7.cell? ⟨gb360, 0, none⟩ = some (.bool a0_0) := bc_ BK360 0; have hcz8_1 : w7.cell? ⟨gb360, 1, none⟩ = some (.string a0_1) := bc_ BK360 1; have hcz8_2 : w7.cell? ⟨gb360, 2, none⟩ = some (.int .i64 a0_2) := bc_ BK360 2; have hfz8_0 := blk_frozen BK360.out 0; have hfz8_1 := blk_frozen BK360.out 1; have hfz8_2 := blk_frozen BK360.out 2) | ((with_reducible refine gate_callee (f := 38) rfl ?_); refine goesL_ (some 7) rfl rfl Tryd.func38 (by kernel_rfl) rfl #[.agg #[.bool t361, .string t362, .int .i64 t363]] rfl (by (try simp only [List.map_toArray, List.map_cons, List.map_nil]); first | done | rfl | (simp only [List.length_drop, List.length_take]; rfl) | (have z_ : ∀ s_ : ByteArray, s_.size ≤ 9223372036854775807 → -(s_.size : Int) = wrap64 (-(s_.size : Int)) := (fun s_ h_ => by unfold wrap64; omega); rw [← z_ _ (by omega)]; rfl) | (simp only [ByteArray.size_append]; rfl)) ?_; (with_reducible refine (dec_Dec_Zero.calls k t361 t362 t363 true _ A3.out).mono ?_); rintro e w9 ⟨rfl, hb⟩; refine ⟨_, rfl, ?_⟩; have n0_ := Aside0.mk (blk_below (g := gb360) (o := .cells #[.bool t361, .string t362, .int .i64 t363] 30 (0, 0)) (by (with_reducible repeat (first | refine blk_drewN ?_ _ | refine blk_drew ?_ | refine blk_alloc ?_ _)); refine blk_put (cs := #[.bool t361, .string t362, .int .i64 a0_2]) ?_ 2 _ rfl; (with_reducible repeat (first | refine blk_drewN ?_ _ | refine blk_drew ?_ | refine blk_alloc ?_ _)); refine blk_put (cs := #[.bool t361, .string a0_1, .int .i64 a0_2]) ?_ 1 _ rfl; (with_reducible repeat (first | refine blk_drewN ?_ _ | refine blk_drew ?_ | refine blk_alloc ?_ _)); refine blk_put (cs := #[.bool a0_0, .string a0_1, .int .i64 a0_2]) ?_ 0 _ rfl; (with_reducible repeat (first | refine blk_drewN ?_ _ | refine blk_drew ?_ | refine blk_alloc ?_ _)); exact BK360.out) hb); have n1_ := Aside0.mk (below_step (bl_ HB).out hb); clear BK360; clear HB; have BK360 := n0_; have HB := n1_; clear n0_ n1_; (try clear hb); (try clear hb2); (try clear hk); (try clear hi)))
    go_ret2
    exact ⟨by first | rfl | (simp [errW_none, errW_some] <;> rfl) | (simp [*, errW_none, errW_some] <;> first | rfl | exact given_isEmpty _ | exact (given_isEmpty _).symm), by repeat (first | (with_reducible first | exact HB.out | apply below_alloc | apply pw_below_drewN | apply below_drew1 | refine below_set ?_ GE360.out) | exact HB.out)⟩
  · replace c4 := Bool.eq_false_iff.mpr c4
    subst c4
    have H1 : (some (wrap64 ((wrap64 (t363 + (t362.size : Int))) - 1), true)) = some (r1, r2) := by rw [if_neg (show ¬ (false = true) by decide)] at H; exact H
    clear H
    have H := H1
    clear H1
    simp only [Option.some.injEq, Prod.mk.injEq] at H
    obtain ⟨rfl, rfl⟩ := H
    go_enter Tryd.func28, Tryd.ntmps28
    go_wp2_with (first | ((with_reducible refine gate_dst (N := 1) rfl ?_); refine box_event ?hg (N := 1) ?hd (cs := #[.bool a0_0, .string a0_1, .int .i64 a0_2]) (t := 30) ?hr ?_; (case hd => rfl); (case hg => rfl); (case hr => first | (go_simp; done) | (go_simp; rfl)); intro gb360 hg w10 hbox hb; have n0_ := Aside0.mk (below_step (bl_ HB).out hb); have n1_ := Aside0.mk (hbox); have n2_ := Aside0.mk ((by rw [hg]; exact (below_size (bl_ HB).out) : w.heap.size ≤ gb360)); have n3_ := Aside0.mk ((by rw [hg]; exact (below_size (bl_ HB).out) : w.heap.size ≤ gb360)); clear HB; have HB := n0_; have BK360 := n1_; have GW360 := n2_; have GE360 := n3_; clear n0_ n1_ n2_ n3_; clear hb hbox hg; have hcz11_0 : w10.cell? ⟨gb360, 0, none⟩ = some (.bool a0_0) := bc_ BK360 0; have hcz11_1 : w10.cell? ⟨gb360, 1, none⟩ = some (.string a0_1) := bc_ BK360 1; have hcz11_2 : w10.cell? ⟨gb360, 2, none⟩ = some (.int .i64 a0_2) := bc_ BK360 2; have hfz11_0 := blk_frozen BK360.out 0; have hfz11_1 := blk_frozen BK360.out 1; have hfz11_2 := blk_frozen BK360.out 2) | ((with_reducible refine gate_callee (f := 22) rfl ?_); refine goesL_ (some 5) rfl rfl Tryd.func22 (by kernel_rfl) rfl #[.agg #[.bool a0_0, .string a0_1, .int .i64 a0_2]] rfl (by (try simp only [List.map_toArray, List.map_cons, List.map_nil]); first | done | rfl | (simp only [List.length_drop, List.length_take]; rfl) | (have z_ : ∀ s_ : ByteArray, s_.size ≤ 9223372036854775807 → -(s_.size : Int) = wrap64 (-(s_.size : Int)) := (fun s_ h_ => by unfold wrap64; omega); rw [← z_ _ (by omega)]; rfl) | (simp only [ByteArray.size_append]; rfl)) ?_; (with_reducible refine (dec_Dec_Norm.calls k a0_0 a0_1 a0_2 t361 t362 t363 _ A2.out).mono ?_); rintro e w12 ⟨rfl, hb⟩; refine ⟨_, rfl, ?_⟩; have n0_ := bb_ BK360 hb; have n1_ := Aside0.mk (below_step (bl_ HB).out hb); clear BK360; clear HB; have BK360 := n0_; have HB := n1_; clear n0_ n1_; (try clear hb); (try clear hb2); (try clear hk); (try clear hi); have hcz13_0 : w12.cell? ⟨gb360, 0, none⟩ = some (.bool a0_0) := bc_ BK360 0; have hcz13_1 : w12.cell? ⟨gb360, 1, none⟩ = some (.string a0_1) := bc_ BK360 1; have hcz13_2 : w12.cell? ⟨gb360, 2, none⟩ = some (.int .i64 a0_2) := bc_ BK360 2; have hfz13_0 := blk_frozen BK360.out 0; have hfz13_1 := blk_frozen BK360.out 1; have hfz13_2 := blk_frozen BK360.out 2) | ((with_reducible refine gate_callee (f := 38) rfl ?_); refine goesL_ (some 7) rfl rfl Tryd.func38 (by kernel_rfl) rfl #[.agg #[.bool t361, .string t362, .int .i64 t363]] rfl (by (try simp only [List.map_toArray, List.map_cons, List.map_nil]); first | done | rfl | (simp only [List.length_drop, List.length_take]; rfl) | (have z_ : ∀ s_ : ByteArray, s_.size ≤ 9223372036854775807 → -(s_.size : Int) = wrap64 (-(s_.size : Int)) := (fun s_ h_ => by unfold wrap64; omega); rw [← z_ _ (by omega)]; rfl) | (simp only [ByteArray.size_append]; rfl)) ?_; (with_reducible refine (dec_Dec_Zero.calls k t361 t362 t363 false _ A3.out).mono ?_); rintro e w14 ⟨rfl, hb⟩; refine ⟨_, rfl, ?_⟩; have n0_ := Aside0.mk (blk_below (g := gb360) (o := .cells #[.bool t361, .string t362, .int .i64 t363] 30 (0, 0)) (by (with_reducible repeat (first | refine blk_drewN ?_ _ | refine blk_drew ?_ | refine blk_alloc ?_ _)); refine blk_put (cs := #[.bool t361, .string t362, .int .i64 a0_2]) ?_ 2 _ rfl; (with_reducible repeat (first | refine blk_drewN ?_ _ | refine blk_drew ?_ | refine blk_alloc ?_ _)); refine blk_put (cs := #[.bool t361, .string a0_1, .int .i64 a0_2]) ?_ 1 _ rfl; (with_reducible repeat (first | refine blk_drewN ?_ _ | refine blk_drew ?_ | refine blk_alloc ?_ _)); refine blk_put (cs := #[.bool a0_0, .string a0_1, .int .i64 a0_2]) ?_ 0 _ rfl; (with_reducible repeat (first | refine blk_drewN ?_ _ | refine blk_drew ?_ | refine blk_alloc ?_ _)); exact BK360.out) hb); have n1_ := Aside0.mk (below_step (bl_ HB).out hb); clear BK360; clear HB; have BK360 := n0_; have HB := n1_; clear n0_ n1_; (try clear hb); (try clear hb2); (try clear hk); (try clear hi); have hcz15_0 : w14.cell? ⟨gb360, 0, none⟩ = some (.bool t361) := bc_ BK360 0; have hcz15_1 : w14.cell? ⟨gb360, 1, none⟩ = some (.string t362) := bc_ BK360 1; have hcz15_2 : w14.cell? ⟨gb360, 2, none⟩ = some (.int .i64 t363) := bc_ BK360 2; have hfz15_0 := blk_frozen BK360.out 0; have hfz15_1 := blk_frozen BK360.out 1; have hfz15_2 := blk_frozen BK360.out 2))
    go_ret2
    exact ⟨by first | rfl | (simp [errW_none, errW_some] <;> rfl) | (simp [*, errW_none, errW_some] <;> first | rfl | exact given_isEmpty _ | exact (given_isEmpty _).symm), by repeat (first | (with_reducible first | exact HB.out | apply below_alloc | apply pw_below_drewN | apply below_drew1 | refine below_set ?_ GE360.out) | exact HB.out)⟩

/-! ### round_Sig: function 25 -/
def round_Sig.f (k : Nat) (a0_0 : Bool) (a0_1 : ByteArray) (a0_2 : Int) (a1 : Int) (a2 : Int) : Option (Bool × ByteArray × Int) := (dec_Dec_Mag.f k a0_0 a0_1 a0_2).bind fun bt367 => (if bt367.2 = true then ((round_At.f k a0_0 a0_1 a0_2 (wrap64 ((wrap64 (bt367.1 + 1)) - (mn (mx a1 1) 30000))) a2).bind fun bt369 => (some (bt369.1, bt369.2.1, bt369.2.2))) else (some (false, (⟨#[]⟩ : ByteArray), 0)))
theorem round_Sig.mono : ∀ a0 a1 a2 a3 a4 k, LeO (round_Sig.f k a0 a1 a2 a3 a4) (round_Sig.f (k + 1) a0 a1 a2 a3 a4) := by
  intro a0 a1 a2 a3 a4 k
  unfold round_Sig.f
  repeat' first
      | (with_reducible exact dec_Dec_Mag.mono _ _ _ _)
      | (with_reducible exact round_At.mono _ _ _ _ _ _)
      | (with_reducible exact LeO.refl _)
      | (with_reducible exact LeO.none _)
      | (with_reducible refine LeO.ite ?_ ?_)
      | (with_reducible refine LeO.bind ?_ (fun _ => ?_))
      | exact dec_Dec_Mag.mono _ _ _ _
      | exact round_At.mono _ _ _ _ _ _
      | exact LeO.none _
      | refine LeO.ite ?_ ?_
      | refine LeO.bind ?_ (fun _ => ?_)
set_option maxHeartbeats 8000000 in
set_option maxRecDepth 100000 in
theorem round_Sig.calls (k : Nat) (a0_0 : Bool) (a0_1 : ByteArray) (a0_2 : Int) (a1 : Int) (a2 : Int) (r1 : Bool) (r2 : ByteArray) (r3 : Int) (w : World) (h : round_Sig.f k a0_0 a0_1 a0_2 a1 a2 = some (r1, r2, r3)) :
    Calls Tryd.prog 25 #[.agg #[.bool a0_0, .string a0_1, .int .i64 a0_2], .int .i64 a1, .int .i64 a2] w fun e w' => e = .returned (.agg #[.bool r1, .string r2, .int .i64 r3]) ∧ Below w.heap.size w w' := by
  have hu30 := Tryd.underlying30
  have HB := Aside0.mk (Below.refl w.heap.size w)
  have H : ((dec_Dec_Mag.f k a0_0 a0_1 a0_2).bind fun bt367 => (if bt367.2 = true then ((round_At.f k a0_0 a0_1 a0_2 (wrap64 ((wrap64 (bt367.1 + 1)) - (mn (mx a1 1) 30000))) a2).bind fun bt369 => (some (bt369.1, bt369.2.1, bt369.2.2))) else (some (false, (⟨#[]⟩ : ByteArray), 0)))) = some (r1, r2, r3) := h
  clear h
  replace H := Option.bind_eq_some_iff.mp H
  obtain ⟨⟨t367, t368⟩, A40, H⟩ := H
  replace H : (if t368 = true then ((round_At.f k a0_0 a0_1 a0_2 (wrap64 ((wrap64 (t367 + 1)) - (mn (mx a1 1) 30000))) a2).bind fun bt369 => (some (bt369.1, bt369.2.1, bt369.2.2))) else (some (false, (⟨#[]⟩ : ByteArray), 0))) = some (r1, r2, r3) := H
  have A4 := Aside0.mk A40
  clear A40
  by_cases c5 : t368 = true
  · subst c5
    have H1 : ((round_At.f k a0_0 a0_1 a0_2 (wrap64 ((wrap64 (t367 + 1)) - (mn (mx a1 1) 30000))) a2).bind fun bt369 => (some (bt369.1, bt369.2.1, bt369.2.2))) = some (r1, r2, r3) := by rw [if_pos rfl] at H; exact H
    clear H
    have H := H1
    clear H1
    obtain ⟨ji6, hji6⟩ : ∃ j_ : Int, (mx a1 1) = j_ := ⟨_, rfl⟩
    replace H : ((round_At.f k a0_0 a0_1 a0_2 (wrap64 ((wrap64 (t367 + 1)) - (mn (ji6) 30000))) a2).bind fun bt369 => (some (bt369.1, bt369.2.1, bt369.2.2))) = some (r1, r2, r3) := by first | (rw [hji6] at H; exact H) | (simp only [hji6] at H ⊢; exact H)
    (try rw [hji6] at A4)
    (try (have hji6l : 1 ≤ ji6 := by (rw [← hji6]; unfold mx; (repeat' split) <;> omega)))
    (try (have hji6m : 0 ≤ ji6 := by omega))
    have hji6_ : (if a1 < 1 then 1 else a1) = ji6 := hji6
    obtain ⟨ji7, hji7⟩ : ∃ j_ : Int, (mn (ji6) 30000) = j_ := ⟨_, rfl⟩
    replace H : ((round_At.f k a0_0 a0_1 a0_2 (wrap64 ((wrap64 (t367 + 1)) - (ji7))) a2).bind fun bt369 => (some (bt369.1, bt369.2.1, bt369.2.2))) = some (r1, r2, r3) := by first | (rw [hji7] at H; exact H) | (simp only [hji7] at H ⊢; exact H)
    (try rw [hji7] at A4)
    have hji7_ : (if 30000 < (ji6) then 30000 else (ji6)) = ji7 := hji7
    replace H := Option.bind_eq_some_iff.mp H
    obtain ⟨⟨t369, t370, t371⟩, A80, H⟩ := H
    replace H : (some (t369, t370, t371)) = some (r1, r2, r3) := H
    have A8 := Aside0.mk A80
    clear A80
    simp only [Option.some.injEq, Prod.mk.injEq] at H
    obtain ⟨rfl, rfl, rfl⟩ := H
    go_enter Tryd.func25, Tryd.ntmps25
    go_wp2_with (first | ((with_reducible refine gate_dst (N := 3) rfl ?_); refine box_event ?hg (N := 3) ?hd (cs := #[.bool a0_0, .string a0_1, .int .i64 a0_2]) (t := 30) ?hr ?_; (case hd => rfl); (case hg => rfl); (case hr => first | (go_simp; done) | (go_simp; rfl)); intro gb365 hg w9 hbox hb; have n0_ := Aside0.mk (below_step (bl_ HB).out hb); have n1_ := Aside0.mk (hbox); have n2_ := Aside0.mk ((by rw [hg]; exact (below_size (bl_ HB).out) : w.heap.size ≤ gb365)); have n3_ := Aside0.mk ((by rw [hg]; exact (below_size (bl_ HB).out) : w.heap.size ≤ gb365)); clear HB; have HB := n0_; have BK365 := n1_; have GW365 := n2_; have GE365 := n3_; clear n0_ n1_ n2_ n3_; clear hb hbox hg) | ((with_reducible refine gate_dst (N := 6) rfl ?_); refine box_event ?hg (N := 6) ?hd (cs := #[.bool false, .string (⟨#[]⟩ : ByteArray), .int .i64 0]) (t := 30) ?hr ?_; (case hd => rfl); (case hg => rfl); (case hr => first | (go_simp; done) | (go_simp; rfl)); intro gb366 hg w10 hbox hb; have n0_ := bb_ BK365 hb; have n1_ := Aside0.mk (below_step (bl_ HB).out hb); have n2_ := Aside0.mk (hbox); have n3_ := Aside0.mk ((by rw [hg]; exact (below_size (bl_ HB).out) : w.heap.size ≤ gb366)); have n4_ := Aside0.mk ((by rw [hg]; exact (below_size (bl_ HB).out) : w.heap.size ≤ gb366)); have n5_ := Aside0.mk ((by rw [hg]; exact Nat.ne_of_lt (blk_lt (g := gb365) (o := .cells #[.bool a0_0, .string a0_1, .int .i64 a0_2] 30 (0, 0)) (by (with_reducible repeat (first | refine blk_drewN ?_ _ | refine blk_drew ?_ | refine blk_alloc ?_ _)); exact BK365.out)) : gb365 ≠ gb366)); have n6_ := Aside0.mk ((by rw [hg]; exact Nat.ne_of_gt (blk_lt (g := gb365) (o := .cells #[.bool a0_0, .string a0_1, .int .i64 a0_2] 30 (0, 0)) (by (with_reducible repeat (first | refine blk_drewN ?_ _ | refine blk_drew ?_ | refine blk_alloc ?_ _)); exact BK365.out)) : gb366 ≠ gb365)); clear BK365; clear HB; have BK365 := n0_; have HB := n1_; have BK366 := n2_; have GW366 := n3_; have GE366 := n4_; have NB365_366 := n5_; have NB366_365 := n6_; clear n0_ n1_ n2_ n3_ n4_ n5_ n6_; clear hb hbox hg; have hnb11 := NB365_366.out; have hnc11 := NB366_365.out; have hcz12_0 : w10.cell? ⟨gb365, 0, none⟩ = some (.bool a0_0) := bc_ BK365 0; have hcz12_1 : w10.cell? ⟨gb365, 1, none⟩ = some (.string a0_1) := bc_ BK365 1; have hcz12_2 : w10.cell? ⟨gb365, 2, none⟩ = some (.int .i64 a0_2) := bc_ BK365 2; have hfz12_0 := blk_frozen BK365.out 0; have hfz12_1 := blk_frozen BK365.out 1; have hfz12_2 := blk_frozen BK365.out 2) | ((with_reducible refine gate_callee (f := 28) rfl ?_); refine goesL_ (some 11) rfl rfl Tryd.func28 (by kernel_rfl) rfl #[.agg #[.bool a0_0, .string a0_1, .int .i64 a0_2]] rfl (by (try simp only [List.map_toArray, List.map_cons, List.map_nil]); first | done | rfl | (simp only [List.length_drop, List.length_take]; rfl) | (have z_ : ∀ s_ : ByteArray, s_.size ≤ 9223372036854775807 → -(s_.size : Int) = wrap64 (-(s_.size : Int)) := (fun s_ h_ => by unfold wrap64; omega); rw [← z_ _ (by omega)]; rfl) | (simp only [ByteArray.size_append]; rfl)) ?_; (with_reducible refine (dec_Dec_Mag.calls k a0_0 a0_1 a0_2 t367 true _ A4.out).mono ?_); rintro e w13 ⟨rfl, hb⟩; refine ⟨_, rfl, ?_⟩; have n0_ := bb_ BK365 hb; have n1_ := bb_ BK366 hb; have n2_ := Aside0.mk (below_step (bl_ HB).out hb); clear BK365; clear BK366; clear HB; have BK365 := n0_; have BK366 := n1_; have HB := n2_; clear n0_ n1_ n2_; (try clear hb); (try clear hb2); (try clear hk); (try clear hi); have hcz14_0 : w13.cell? ⟨gb365, 0, none⟩ = some (.bool a0_0) := bc_ BK365 0; have hcz14_1 : w13.cell? ⟨gb365, 1, none⟩ = some (.string a0_1) := bc_ BK365 1; have hcz14_2 : w13.cell? ⟨gb365, 2, none⟩ = some (.int .i64 a0_2) := bc_ BK365 2; have hfz14_0 := blk_frozen BK365.out 0; have hfz14_1 := blk_frozen BK365.out 1; have hfz14_2 := blk_frozen BK365.out 2) | ((with_reducible refine gate_callee (f := 13) rfl ?_); refine goesL_ (some 25) rfl rfl Tryd.func13 (by kernel_rfl) rfl #[.agg #[.bool a0_0, .string a0_1, .int .i64 a0_2], .int .i64 (wrap64 ((wrap64 (t367 + 1)) - (ji7))), .int .i64 a2] rfl (by (try simp only [List.map_toArray, List.map_cons, List.map_nil]); first | done | (simp only [hji7]; rfl) | rfl | (simp only [List.length_drop, List.length_take]; rfl) | (have z_ : ∀ s_ : ByteArray, s_.size ≤ 9223372036854775807 → -(s_.size : Int) = wrap64 (-(s_.size : Int)) := (fun s_ h_ => by unfold wrap64; omega); rw [← z_ _ (by omega)]; rfl) | (simp only [ByteArray.size_append]; rfl)) ?_; (with_reducible refine (round_At.calls k a0_0 a0_1 a0_2 (wrap64 ((wrap64 (t367 + 1)) - (ji7))) a2 t369 t370 t371 _ A8.out).mono ?_); rintro e w15 ⟨rfl, hb⟩; refine ⟨_, rfl, ?_⟩; have n0_ := bb_ BK365 hb; have n1_ := bb_ BK366 hb; have n2_ := Aside0.mk (below_step (bl_ HB).out hb); clear BK365; clear BK366; clear HB; have BK365 := n0_; have BK366 := n1_; have HB := n2_; clear n0_ n1_ n2_; (try clear hb); (try clear hb2); (try clear hk); (try clear hi); have hcz16_0 : w15.cell? ⟨gb366, 0, none⟩ = some (.bool false) := bc_ BK366 0; have hcz16_1 : w15.cell? ⟨gb366, 1, none⟩ = some (.string (⟨#[]⟩ : ByteArray)) := bc_ BK366 1; have hcz16_2 : w15.cell? ⟨gb366, 2, none⟩ = some (.int .i64 0) := bc_ BK366 2; have hfz16_0 := blk_frozen BK366.out 0; have hfz16_1 := blk_frozen BK366.out 1; have hfz16_2 := blk_frozen BK366.out 2))
    refine bodyPost_ret (results_cell_row rfl _ _ gb366 30 #[.bool t369, .string t370, .int .i64 t371] (0, 0) _ rfl (by (with_reducible repeat (first | refine blk_drewN ?_ _ | refine blk_drew ?_ | refine blk_alloc ?_ _)); refine blk_put (cs := #[.bool t369, .string t370, .int .i64 0]) ?_ 2 _ rfl; (with_reducible repeat (first | refine blk_drewN ?_ _ | refine blk_drew ?_ | refine blk_alloc ?_ _)); refine blk_put (cs := #[.bool t369, .string (⟨#[]⟩ : ByteArray), .int .i64 0]) ?_ 1 _ rfl; (with_reducible repeat (first | refine blk_drewN ?_ _ | refine blk_drew ?_ | refine blk_alloc ?_ _)); refine blk_put (cs := #[.bool false, .string (⟨#[]⟩ : ByteArray), .int .i64 0]) ?_ 0 _ rfl; (with_reducible repeat (first | refine blk_drewN ?_ _ | refine blk_drew ?_ | refine blk_alloc ?_ _)); exact BK366.out) Tryd.underlying30 rfl (by kernel_rfl)) rfl ?_
    exact ⟨by first | rfl | (simp [errW_none, errW_some] <;> rfl) | (simp only [← hji6, ← hji7]; first | rfl | (simp [errW_none, errW_some] <;> rfl)) | (simp [*, errW_none, errW_some] <;> first | rfl | exact given_isEmpty _ | exact (given_isEmpty _).symm), by repeat (first | (with_reducible first | exact HB.out | apply below_alloc | apply pw_below_drewN | apply below_drew1 | refine below_set ?_ GE365.out | refine below_set ?_ GE366.out) | exact HB.out)⟩
  · replace c5 := Bool.eq_false_iff.mpr c5
    subst c5
    have H1 : (some (false, (⟨#[]⟩ : ByteArray), 0)) = some (r1, r2, r3) := by rw [if_neg (show ¬ (false = true) by decide)] at H; exact H
    clear H
    have H := H1
    clear H1
    simp only [Option.some.injEq, Prod.mk.injEq] at H
    obtain ⟨rfl, rfl, rfl⟩ := H
    go_enter Tryd.func25, Tryd.ntmps25
    go_wp2_with (first | ((with_reducible refine gate_dst (N := 3) rfl ?_); refine box_event ?hg (N := 3) ?hd (cs := #[.bool a0_0, .string a0_1, .int .i64 a0_2]) (t := 30) ?hr ?_; (case hd => rfl); (case hg => rfl); (case hr => first | (go_simp; done) | (go_simp; rfl)); intro gb365 hg w17 hbox hb; have n0_ := Aside0.mk (below_step (bl_ HB).out hb); have n1_ := Aside0.mk (hbox); have n2_ := Aside0.mk ((by rw [hg]; exact (below_size (bl_ HB).out) : w.heap.size ≤ gb365)); have n3_ := Aside0.mk ((by rw [hg]; exact (below_size (bl_ HB).out) : w.heap.size ≤ gb365)); clear HB; have HB := n0_; have BK365 := n1_; have GW365 := n2_; have GE365 := n3_; clear n0_ n1_ n2_ n3_; clear hb hbox hg) | ((with_reducible refine gate_dst (N := 6) rfl ?_); refine box_event ?hg (N := 6) ?hd (cs := #[.bool false, .string (⟨#[]⟩ : ByteArray), .int .i64 0]) (t := 30) ?hr ?_; (case hd => rfl); (case hg => rfl); (case hr => first | (go_simp; done) | (go_simp; rfl)); intro gb366 hg w18 hbox hb; have n0_ := bb_ BK365 hb; have n1_ := Aside0.mk (below_step (bl_ HB).out hb); have n2_ := Aside0.mk (hbox); have n3_ := Aside0.mk ((by rw [hg]; exact (below_size (bl_ HB).out) : w.heap.size ≤ gb366)); have n4_ := Aside0.mk ((by rw [hg]; exact (below_size (bl_ HB).out) : w.heap.size ≤ gb366)); have n5_ := Aside0.mk ((by rw [hg]; exact Nat.ne_of_lt (blk_lt (g := gb365) (o := .cells #[.bool a0_0, .string a0_1, .int .i64 a0_2] 30 (0, 0)) (by (with_reducible repeat (first | refine blk_drewN ?_ _ | refine blk_drew ?_ | refine blk_alloc ?_ _)); exact BK365.out)) : gb365 ≠ gb366)); have n6_ := Aside0.mk ((by rw [hg]; exact Nat.ne_of_gt (blk_lt (g := gb365) (o := .cells #[.bool a0_0, .string a0_1, .int .i64 a0_2] 30 (0, 0)) (by (with_reducible repeat (first | refine blk_drewN ?_ _ | refine blk_drew ?_ | refine blk_alloc ?_ _)); exact BK365.out)) : gb366 ≠ gb365)); clear BK365; clear HB; have BK365 := n0_; have HB := n1_; have BK366 := n2_; have GW366 := n3_; have GE366 := n4_; have NB365_366 := n5_; have NB366_365 := n6_; clear n0_ n1_ n2_ n3_ n4_ n5_ n6_; clear hb hbox hg; have hnb19 := NB365_366.out; have hnc19 := NB366_365.out; have hcz20_0 : w18.cell? ⟨gb365, 0, none⟩ = some (.bool a0_0) := bc_ BK365 0; have hcz20_1 : w18.cell? ⟨gb365, 1, none⟩ = some (.string a0_1) := bc_ BK365 1; have hcz20_2 : w18.cell? ⟨gb365, 2, none⟩ = some (.int .i64 a0_2) := bc_ BK365 2; have hfz20_0 := blk_frozen BK365.out 0; have hfz20_1 := blk_frozen BK365.out 1; have hfz20_2 := blk_frozen BK365.out 2) | ((with_reducible refine gate_callee (f := 28) rfl ?_); refine goesL_ (some 11) rfl rfl Tryd.func28 (by kernel_rfl) rfl #[.agg #[.bool a0_0, .string a0_1, .int .i64 a0_2]] rfl (by (try simp only [List.map_toArray, List.map_cons, List.map_nil]); first | done | rfl | (simp only [List.length_drop, List.length_take]; rfl) | (have z_ : ∀ s_ : ByteArray, s_.size ≤ 9223372036854775807 → -(s_.size : Int) = wrap64 (-(s_.size : Int)) := (fun s_ h_ => by unfold wrap64; omega); rw [← z_ _ (by omega)]; rfl) | (simp only [ByteArray.size_append]; rfl)) ?_; (with_reducible refine (dec_Dec_Mag.calls k a0_0 a0_1 a0_2 t367 false _ A4.out).mono ?_); rintro e w21 ⟨rfl, hb⟩; refine ⟨_, rfl, ?_⟩; have n0_ := bb_ BK365 hb; have n1_ := bb_ BK366 hb; have n2_ := Aside0.mk (below_step (bl_ HB).out hb); clear BK365; clear BK366; clear HB; have BK365 := n0_; have BK366 := n1_; have HB := n2_; clear n0_ n1_ n2_; (try clear hb); (try clear hb2); (try clear hk); (try clear hi); have hcz22_0 : w21.cell? ⟨gb366, 0, none⟩ = some (.bool false) := bc_ BK366 0; have hcz22_1 : w21.cell? ⟨gb366, 1, none⟩ = some (.string (⟨#[]⟩ : ByteArray)) := bc_ BK366 1; have hcz22_2 : w21.cell? ⟨gb366, 2, none⟩ = some (.int .i64 0) := bc_ BK366 2; have hfz22_0 := blk_frozen BK366.out 0; have hfz22_1 := blk_frozen BK366.out 1; have hfz22_2 := blk_frozen BK366.out 2))
    refine bodyPost_ret (results_cell_row rfl _ _ gb366 30 #[.bool false, .string (⟨#[]⟩ : ByteArray), .int .i64 0] (0, 0) _ rfl (by (with_reducible repeat (first | refine blk_drewN ?_ _ | refine blk_drew ?_ | refine blk_alloc ?_ _)); refine blk_put (cs := #[.bool false, .string (⟨#[]⟩ : ByteArray), .int .i64 0]) ?_ 2 _ rfl; (with_reducible repeat (first | refine blk_drewN ?_ _ | refine blk_drew ?_ | refine blk_alloc ?_ _)); refine blk_put (cs := #[.bool false, .string (⟨#[]⟩ : ByteArray), .int .i64 0]) ?_ 1 _ rfl; (with_reducible repeat (first | refine blk_drewN ?_ _ | refine blk_drew ?_ | refine blk_alloc ?_ _)); refine blk_put (cs := #[.bool false, .string (⟨#[]⟩ : ByteArray), .int .i64 0]) ?_ 0 _ rfl; (with_reducible repeat (first | refine blk_drewN ?_ _ | refine blk_drew ?_ | refine blk_alloc ?_ _)); exact BK366.out) Tryd.underlying30 rfl (by kernel_rfl)) rfl ?_
    exact ⟨by first | rfl | (simp [errW_none, errW_some] <;> rfl) | (simp [*, errW_none, errW_some] <;> first | rfl | exact given_isEmpty _ | exact (given_isEmpty _).symm), by repeat (first | (with_reducible first | exact HB.out | apply below_alloc | apply pw_below_drewN | apply below_drew1 | refine below_set ?_ GE365.out | refine below_set ?_ GE366.out) | exact HB.out)⟩

/-! ### num_Int: function 61 -/
theorem num_Int.below_bytes (B : Nat) (w W : World) (u : ByteArray) (h : Below B w W) (hB : B ≤ W.heap.size) : Below B w (Lib.bytesWorld W 5 u) :=
  h.trans ⟨rfl, rfl, rfl, by rw [Lib.bytesWorld_size]; omega, fun k hk => Lib.bytesWorld_at_old _ _ _ k (by omega)⟩
theorem num_Int.ret_ {k : IntKind} {a b : Int} (h : a = b) : Value.int k a = .int k b := by rw [h]
def num_Int.step (n : Int) (c : UInt8) : Int := wrap64 (wrap64 (10 * n) + ((c.toNat : Int) - 48) % 256)
def num_Int.go (l : List UInt8) : Int := l.foldl num_Int.step 0
theorem num_Int.go_take (s : ByteArray) (k : Nat) (h : k < s.size) : num_Int.go (s.data.toList.take (k + 1)) = num_Int.step (num_Int.go (s.data.toList.take k)) (s.data.toList.getD k 0) := by
  unfold num_Int.go
  have h' : k < s.data.toList.length := by simpa using h
  rw [List.take_succ_eq_append_getElem h', List.foldl_append]
  simp only [List.foldl_cons, List.foldl_nil, List.getD_eq_getElem?_getD, List.getElem?_eq_getElem h', Option.getD_some]
def num_Int.f (k : Nat) (a0 : ByteArray) : Option (Int × Bool) := (num_Is.f k a0).bind fun t => if t = true then (num_Trim.f k a0).bind fun u => (if 18 < u.size then some (0, false) else some (num_Int.go u.data.toList, true)) else some (0, false)
theorem num_Int.mono : ∀ a0 k, LeO (num_Int.f k a0) (num_Int.f (k + 1) a0) := by
  intro a0 k
  unfold num_Int.f
  repeat' first
  | (with_reducible exact num_Is.mono _ _)
  | (with_reducible exact num_Trim.mono _ _)
  | (with_reducible exact LeO.refl _)
  | (with_reducible exact LeO.none _)
  | (with_reducible refine LeO.ite ?_ ?_)
  | (with_reducible refine LeO.bind ?_ (fun _ => ?_))
set_option maxHeartbeats 1000000 in
theorem num_Int.calls (k : Nat) (a0 : ByteArray) (r1 : Int) (r2 : Bool) (w : World) (h : num_Int.f k a0 = some (r1, r2)) :
    Calls Tryd.prog 61 #[.string a0] w fun e w' => e = .returned (.tuple #[.int .i64 r1, .bool r2]) ∧ Below w.heap.size w w' := by
  unfold num_Int.f at h
  replace h := Option.bind_eq_some_iff.mp h
  obtain ⟨t, h1, h⟩ := h
  have h1' := Aside0.mk h1
  clear h1
  cases t with
  | false =>
    rw [if_neg (by decide)] at h
    simp only [Option.some.injEq, Prod.mk.injEq] at h
    obtain ⟨rfl, rfl⟩ := h
    go_enter Tryd.func61, Tryd.ntmps61
    go_wp2_with (go_at_call 55; refine (num_Is.calls k a0 _ _ h1'.out).mono ?_; rintro e w' ⟨rfl, ⟨m, rfl⟩⟩)
    go_ret2
    exact ⟨rfl, pw_below_drewN (Below.refl _ _) m⟩
  | true =>
    rw [if_pos rfl] at h
    replace h := Option.bind_eq_some_iff.mp h
    obtain ⟨u, h2, h⟩ := h
    have h2' := Aside0.mk h2
    clear h2
    by_cases h18 : 18 < u.size
    · rw [if_pos h18] at h
      simp only [Option.some.injEq, Prod.mk.injEq] at h
      obtain ⟨rfl, rfl⟩ := h
      have d18 : decide ((18 : Int) < (u.size : Int)) = true := decide_eq_true (by omega)
      clear h18
      go_enter Tryd.func61, Tryd.ntmps61
      go_wp2_with (first | (go_at_call 55; refine (num_Is.calls k a0 _ _ h1'.out).mono ?_; rintro e w' ⟨rfl, ⟨m, rfl⟩⟩) | (go_at_call 39; refine (num_Trim.calls k a0 _ _ h2'.out).mono ?_; rintro e w' ⟨rfl, ⟨m, rfl⟩⟩))
      go_ret2
      exact ⟨rfl, by repeat (first | exact Below.refl _ _ | apply pw_below_drewN)⟩
    · rw [if_neg h18] at h
      simp only [Option.some.injEq, Prod.mk.injEq] at h
      obtain ⟨rfl, rfl⟩ := h
      have d18 : decide ((18 : Int) < (u.size : Int)) = false := decide_eq_false (by omega)
      clear h18
      have hcv := fun w : World => Lib.run_convert_string_bytes (P := Tryd.prog) w 9 22 5 u Tryd.underlying9 Tryd.underlying22 Tryd.underlying5
      go_enter Tryd.func61, Tryd.ntmps61
      go_wp2_with (first | (go_at_call 55; refine (num_Is.calls k a0 _ _ h1'.out).mono ?_; rintro e w' ⟨rfl, ⟨m, rfl⟩⟩) | (go_at_call 39; refine (num_Trim.calls k a0 _ _ h2'.out).mono ?_; rintro e w' ⟨rfl, ⟨m', rfl⟩⟩))
      have hu : u.size ≤ 18 := by have := of_decide_eq_false d18; omega
      rename_i q _ _
      obtain ⟨W, hW⟩ : ∃ W, Lib.bytesWorld (w.drewN (m + q + m')) 5 u = W := ⟨_, rfl⟩
      have hcell : ∀ j, j < u.size → W.cell? ⟨w.heap.size, j, none⟩ = some (.int .u8 (u.data.toList.getD j 0).toNat) := by
        intro j hj
        rw [← hW]
        exact Lib.bytesWorld_cell (w.drewN _) 5 u j hj
      have hB : Below w.heap.size w W := by
        rw [← hW]
        exact num_Int.below_bytes _ _ _ _ (pw_below_drewN (Below.refl _ _) _) (Nat.le_refl _)
      rw [hW]
      clear hW hcv d18
      go_loop [4, 20] (fun n i => ∃ j : Nat, j ≤ u.size ∧ i = .int .i64 j ∧ n = .int .i64 (num_Int.go (u.data.toList.take j))) (fun _ i => u.size - (intOf i).toNat)
      case atStart => exact ⟨0, Nat.zero_le _, rfl, rfl⟩
      case round =>
        obtain ⟨j, hj, rfl, rfl⟩ := hrel
        by_cases hlt : j < u.size
        · have hc := hcell j hlt
          have hg := Aside0.mk (num_Int.go_take u j hlt)
          obtain ⟨c, hcc⟩ : ∃ c : UInt8, u.data.toList.getD j 0 = c := ⟨_, rfl⟩
          rw [hcc] at hc hg
          clear hcc
          have hd : decide (j < u.size) = true := decide_eq_true hlt
          have hHB := Aside0.mk hB
          have hlt' := Aside0.mk hlt
          clear hcell hB hd
          go_wp2
          go_round
          case rel => exact ⟨j + 1, by have := hlt'.out; omega, by have := hlt'.out; go_num, by rw [hg.out]; exact num_Int.ret_ (by unfold num_Int.step; try simp only [i64_w])⟩
          case measure => have := hlt'.out; simp [intOf]; omega
        · have hHB := Aside0.mk hB
          clear hcell hB
          go_wp2
          go_ret2
          exact ⟨by rw [List.take_of_length_le (by simp; omega)]; rfl, hHB.out⟩

/-! ### round_whole: function 42 -/
def round_whole.f (k : Nat) (a0_0 : Bool) (a0_1 : ByteArray) (a0_2 : Int) : Option (Int × Bool) := (dec_Dec_Norm.f k a0_0 a0_1 a0_2).bind fun bt373 => ((num_Int.f k bt373.2.1).bind fun bt376 => (if bt376.2 = true then (if bt373.1 = true then (some (bt376.1, false)) else (if bt376.1 ≥ 1 then (some (bt376.1, decide (bt376.1 ≤ 1000000000))) else (some (bt376.1, false)))) else (some (bt376.1, false))))
theorem round_whole.mono : ∀ a0 a1 a2 k, LeO (round_whole.f k a0 a1 a2) (round_whole.f (k + 1) a0 a1 a2) := by
  intro a0 a1 a2 k
  unfold round_whole.f
  repeat' first
      | (with_reducible exact dec_Dec_Norm.mono _ _ _ _)
      | (with_reducible exact num_Int.mono _ _)
      | (with_reducible exact LeO.refl _)
      | (with_reducible exact LeO.none _)
      | (with_reducible refine LeO.ite ?_ ?_)
      | (with_reducible refine LeO.bind ?_ (fun _ => ?_))
      | exact dec_Dec_Norm.mono _ _ _ _
      | exact num_Int.mono _ _
      | exact LeO.none _
      | refine LeO.ite ?_ ?_
      | refine LeO.bind ?_ (fun _ => ?_)
set_option maxHeartbeats 8000000 in
set_option maxRecDepth 100000 in
theorem round_whole.calls (k : Nat) (a0_0 : Bool) (a0_1 : ByteArray) (a0_2 : Int) (r1 : Int) (r2 : Bool) (w : World) (h : round_whole.f k a0_0 a0_1 a0_2 = some (r1, r2)) :
    Calls Tryd.prog 42 #[.agg #[.bool a0_0, .string a0_1, .int .i64 a0_2]] w fun e w' => e = .returned (.tuple #[.int .i64 r1, .bool r2]) ∧ Below w.heap.size w w' := by
  have hu30 := Tryd.underlying30
  have HB := Aside0.mk (Below.refl w.heap.size w)
  have H : ((dec_Dec_Norm.f k a0_0 a0_1 a0_2).bind fun bt373 => ((num_Int.f k bt373.2.1).bind fun bt376 => (if bt376.2 = true then (if bt373.1 = true then (some (bt376.1, false)) else (if bt376.1 ≥ 1 then (some (bt376.1, decide (bt376.1 ≤ 1000000000))) else (some (bt376.1, false)))) else (some (bt376.1, false))))) = some (r1, r2) := h
  clear h
  replace H := Option.bind_eq_some_iff.mp H
  obtain ⟨⟨t373, t374, t375⟩, A20, H⟩ := H
  replace H : ((num_Int.f k t374).bind fun bt376 => (if bt376.2 = true then (if t373 = true then (some (bt376.1, false)) else (if bt376.1 ≥ 1 then (some (bt376.1, decide (bt376.1 ≤ 1000000000))) else (some (bt376.1, false)))) else (some (bt376.1, false)))) = some (r1, r2) := H
  have A2 := Aside0.mk A20
  clear A20
  replace H := Option.bind_eq_some_iff.mp H
  obtain ⟨⟨t376, t377⟩, A30, H⟩ := H
  replace H : (if t377 = true then (if t373 = true then (some (t376, false)) else (if t376 ≥ 1 then (some (t376, decide (t376 ≤ 1000000000))) else (some (t376, false)))) else (some (t376, false))) = some (r1, r2) := H
  have A3 := Aside0.mk A30
  clear A30
  by_cases c4 : t377 = true
  · subst c4
    have H1 : (if t373 = true then (some (t376, false)) else (if t376 ≥ 1 then (some (t376, decide (t376 ≤ 1000000000))) else (some (t376, false)))) = some (r1, r2) := by rw [if_pos rfl] at H; exact H
    clear H
    have H := H1
    clear H1
    by_cases c5 : t373 = true
    · subst c5
      have H1 : (some (t376, false)) = some (r1, r2) := by rw [if_pos rfl] at H; exact H
      clear H
      have H := H1
      clear H1
      simp only [Option.some.injEq, Prod.mk.injEq] at H
      obtain ⟨rfl, rfl⟩ := H
      go_enter Tryd.func42, Tryd.ntmps42
      go_wp2_with (first | ((with_reducible refine gate_dst (N := 1) rfl ?_); refine box_event ?hg (N := 1) ?hd (cs := #[.bool a0_0, .string a0_1, .int .i64 a0_2]) (t := 30) ?hr ?_; (case hd => rfl); (case hg => rfl); (case hr => first | (go_simp; done) | (go_simp; rfl)); intro gb372 hg w6 hbox hb; have n0_ := Aside0.mk (below_step (bl_ HB).out hb); have n1_ := Aside0.mk (hbox); have n2_ := Aside0.mk ((by rw [hg]; exact (below_size (bl_ HB).out) : w.heap.size ≤ gb372)); have n3_ := Aside0.mk ((by rw [hg]; exact (below_size (bl_ HB).out) : w.heap.size ≤ gb372)); clear HB; have HB := n0_; have BK372 := n1_; have GW372 := n2_; have GE372 := n3_; clear n0_ n1_ n2_ n3_; clear hb hbox hg; have hcz7_0 : w6.cell? ⟨gb372, 0, none⟩ = some (.bool a0_0) := bc_ BK372 0; have hcz7_1 : w6.cell? ⟨gb372, 1, none⟩ = some (.string a0_1) := bc_ BK372 1; have hcz7_2 : w6.cell? ⟨gb372, 2, none⟩ = some (.int .i64 a0_2) := bc_ BK372 2; have hfz7_0 := blk_frozen BK372.out 0; have hfz7_1 := blk_frozen BK372.out 1; have hfz7_2 := blk_frozen BK372.out 2) | ((with_reducible refine gate_callee (f := 22) rfl ?_); refine goesL_ (some 7) rfl rfl Tryd.func22 (by kernel_rfl) rfl #[.agg #[.bool a0_0, .string a0_1, .int .i64 a0_2]] rfl (by (try simp only [List.map_toArray, List.map_cons, List.map_nil]); first | done | rfl | (simp only [List.length_drop, List.length_take]; rfl) | (have z_ : ∀ s_ : ByteArray, s_.size ≤ 9223372036854775807 → -(s_.size : Int) = wrap64 (-(s_.size : Int)) := (fun s_ h_ => by unfold wrap64; omega); rw [← z_ _ (by omega)]; rfl) | (simp only [ByteArray.size_append]; rfl)) ?_; (with_reducible refine (dec_Dec_Norm.calls k a0_0 a0_1 a0_2 true t374 t375 _ A2.out).mono ?_); rintro e w8 ⟨rfl, hb⟩; refine ⟨_, rfl, ?_⟩; have n0_ := bb_ BK372 hb; have n1_ := Aside0.mk (below_step (bl_ HB).out hb); clear BK372; clear HB; have BK372 := n0_; have HB := n1_; clear n0_ n1_; (try clear hb); (try clear hb2); (try clear hk); (try clear hi); have hcz9_0 : w8.cell? ⟨gb372, 0, none⟩ = some (.bool a0_0) := bc_ BK372 0; have hcz9_1 : w8.cell? ⟨gb372, 1, none⟩ = some (.string a0_1) := bc_ BK372 1; have hcz9_2 : w8.cell? ⟨gb372, 2, none⟩ = some (.int .i64 a0_2) := bc_ BK372 2; have hfz9_0 := blk_frozen BK372.out 0; have hfz9_1 := blk_frozen BK372.out 1; have hfz9_2 := blk_frozen BK372.out 2) | ((with_reducible refine gate_callee (f := 61) rfl ?_); refine goesL_ (some 11) rfl rfl Tryd.func61 (by kernel_rfl) rfl #[.string t374] rfl (by (try simp only [List.map_toArray, List.map_cons, List.map_nil]); first | done | rfl | (simp only [List.length_drop, List.length_take]; rfl) | (have z_ : ∀ s_ : ByteArray, s_.size ≤ 9223372036854775807 → -(s_.size : Int) = wrap64 (-(s_.size : Int)) := (fun s_ h_ => by unfold wrap64; omega); rw [← z_ _ (by omega)]; rfl) | (simp only [ByteArray.size_append]; rfl)) ?_; (with_reducible refine (num_Int.calls k t374 t376 true _ A3.out).mono ?_); rintro e w10 ⟨rfl, hb⟩; refine ⟨_, rfl, ?_⟩; have n0_ := Aside0.mk (blk_below (g := gb372) (o := .cells #[.bool true, .string t374, .int .i64 t375] 30 (0, 0)) (by (with_reducible repeat (first | refine blk_drewN ?_ _ | refine blk_drew ?_ | refine blk_alloc ?_ _)); refine blk_put (cs := #[.bool true, .string t374, .int .i64 a0_2]) ?_ 2 _ rfl; (with_reducible repeat (first | refine blk_drewN ?_ _ | refine blk_drew ?_ | refine blk_alloc ?_ _)); refine blk_put (cs := #[.bool true, .string a0_1, .int .i64 a0_2]) ?_ 1 _ rfl; (with_reducible repeat (first | refine blk_drewN ?_ _ | refine blk_drew ?_ | refine blk_alloc ?_ _)); refine blk_put (cs := #[.bool a0_0, .string a0_1, .int .i64 a0_2]) ?_ 0 _ rfl; (with_reducible repeat (first | refine blk_drewN ?_ _ | refine blk_drew ?_ | refine blk_alloc ?_ _)); exact BK372.out) hb); have n1_ := Aside0.mk (below_step (bl_ HB).out hb); clear BK372; clear HB; have BK372 := n0_; have HB := n1_; clear n0_ n1_; (try clear hb); (try clear hb2); (try clear hk); (try clear hi); have hcz11_0 : w10.cell? ⟨gb372, 0, none⟩ = some (.bool true) := bc_ BK372 0; have hcz11_1 : w10.cell? ⟨gb372, 1, none⟩ = some (.string t374) := bc_ BK372 1; have hcz11_2 : w10.cell? ⟨gb372, 2, none⟩ = some (.int .i64 t375) := bc_ BK372 2; have hfz11_0 := blk_frozen BK372.out 0; have hfz11_1 := blk_frozen BK372.out 1; have hfz11_2 := blk_frozen BK372.out 2))
      go_ret2
      exact ⟨by first | rfl | (simp [errW_none, errW_some] <;> rfl) | (simp [*, errW_none, errW_some] <;> first | rfl | exact given_isEmpty _ | exact (given_isEmpty _).symm), by repeat (first | (with_reducible first | exact HB.out | apply below_alloc | apply pw_below_drewN | apply below_drew1 | refine below_set ?_ GE372.out) | exact HB.out)⟩
    · replace c5 := Bool.eq_false_iff.mpr c5
      subst c5
      have H1 : (if t376 ≥ 1 then (some (t376, decide (t376 ≤ 1000000000))) else (some (t376, false))) = some (r1, r2) := by rw [if_neg (show ¬ (false = true) by decide)] at H; exact H
      clear H
      have H := H1
      clear H1
      by_cases c12 : t376 ≥ 1
      · rw [if_pos c12] at H
        have c12b0 : decide (1 ≤ t376) = true := decide_eq_true c12
        clear c12
        simp only [Option.some.injEq, Prod.mk.injEq] at H
        obtain ⟨rfl, rfl⟩ := H
        go_enter Tryd.func42, Tryd.ntmps42
        go_wp2_with (first | ((with_reducible refine gate_dst (N := 1) rfl ?_); refine box_event ?hg (N := 1) ?hd (cs := #[.bool a0_0, .string a0_1, .int .i64 a0_2]) (t := 30) ?hr ?_; (case hd => rfl); (case hg => rfl); (case hr => first | (go_simp; done) | (go_simp; rfl)); intro gb372 hg w13 hbox hb; have n0_ := Aside0.mk (below_step (bl_ HB).out hb); have n1_ := Aside0.mk (hbox); have n2_ := Aside0.mk ((by rw [hg]; exact (below_size (bl_ HB).out) : w.heap.size ≤ gb372)); have n3_ := Aside0.mk ((by rw [hg]; exact (below_size (bl_ HB).out) : w.heap.size ≤ gb372)); clear HB; have HB := n0_; have BK372 := n1_; have GW372 := n2_; have GE372 := n3_; clear n0_ n1_ n2_ n3_; clear hb hbox hg; have hcz14_0 : w13.cell? ⟨gb372, 0, none⟩ = some (.bool a0_0) := bc_ BK372 0; have hcz14_1 : w13.cell? ⟨gb372, 1, none⟩ = some (.string a0_1) := bc_ BK372 1; have hcz14_2 : w13.cell? ⟨gb372, 2, none⟩ = some (.int .i64 a0_2) := bc_ BK372 2; have hfz14_0 := blk_frozen BK372.out 0; have hfz14_1 := blk_frozen BK372.out 1; have hfz14_2 := blk_frozen BK372.out 2) | ((with_reducible refine gate_callee (f := 22) rfl ?_); refine goesL_ (some 7) rfl rfl Tryd.func22 (by kernel_rfl) rfl #[.agg #[.bool a0_0, .string a0_1, .int .i64 a0_2]] rfl (by (try simp only [List.map_toArray, List.map_cons, List.map_nil]); first | done | rfl | (simp only [List.length_drop, List.length_take]; rfl) | (have z_ : ∀ s_ : ByteArray, s_.size ≤ 9223372036854775807 → -(s_.size : Int) = wrap64 (-(s_.size : Int)) := (fun s_ h_ => by unfold wrap64; omega); rw [← z_ _ (by omega)]; rfl) | (simp only [ByteArray.size_append]; rfl)) ?_; (with_reducible refine (dec_Dec_Norm.calls k a0_0 a0_1 a0_2 false t374 t375 _ A2.out).mono ?_); rintro e w15 ⟨rfl, hb⟩; refine ⟨_, rfl, ?_⟩; have n0_ := bb_ BK372 hb; have n1_ := Aside0.mk (below_step (bl_ HB).out hb); clear BK372; clear HB; have BK372 := n0_; have HB := n1_; clear n0_ n1_; (try clear hb); (try clear hb2); (try clear hk); (try clear hi); have hcz16_0 : w15.cell? ⟨gb372, 0, none⟩ = some (.bool a0_0) := bc_ BK372 0; have hcz16_1 : w15.cell? ⟨gb372, 1, none⟩ = some (.string a0_1) := bc_ BK372 1; have hcz16_2 : w15.cell? ⟨gb372, 2, none⟩ = some (.int .i64 a0_2) := bc_ BK372 2; have hfz16_0 := blk_frozen BK372.out 0; have hfz16_1 := blk_frozen BK372.out 1; have hfz16_2 := blk_frozen BK372.out 2) | ((with_reducible refine gate_callee (f := 61) rfl ?_); refine goesL_ (some 11) rfl rfl Tryd.func61 (by kernel_rfl) rfl #[.string t374] rfl (by (try simp only [List.map_toArray, List.map_cons, List.map_nil]); first | done | rfl | (simp only [List.length_drop, List.length_take]; rfl) | (have z_ : ∀ s_ : ByteArray, s_.size ≤ 9223372036854775807 → -(s_.size : Int) = wrap64 (-(s_.size : Int)) := (fun s_ h_ => by unfold wrap64; omega); rw [← z_ _ (by omega)]; rfl) | (simp only [ByteArray.size_append]; rfl)) ?_; (with_reducible refine (num_Int.calls k t374 t376 true _ A3.out).mono ?_); rintro e w17 ⟨rfl, hb⟩; refine ⟨_, rfl, ?_⟩; have n0_ := Aside0.mk (blk_below (g := gb372) (o := .cells #[.bool false, .string t374, .int .i64 t375] 30 (0, 0)) (by (with_reducible repeat (first | refine blk_drewN ?_ _ | refine blk_drew ?_ | refine blk_alloc ?_ _)); refine blk_put (cs := #[.bool false, .string t374, .int .i64 a0_2]) ?_ 2 _ rfl; (with_reducible repeat (first | refine blk_drewN ?_ _ | refine blk_drew ?_ | refine blk_alloc ?_ _)); refine blk_put (cs := #[.bool false, .string a0_1, .int .i64 a0_2]) ?_ 1 _ rfl; (with_reducible repeat (first | refine blk_drewN ?_ _ | refine blk_drew ?_ | refine blk_alloc ?_ _)); refine blk_put (cs := #[.bool a0_0, .string a0_1, .int .i64 a0_2]) ?_ 0 _ rfl; (with_reducible repeat (first | refine blk_drewN ?_ _ | refine blk_drew ?_ | refine blk_alloc ?_ _)); exact BK372.out) hb); have n1_ := Aside0.mk (below_step (bl_ HB).out hb); clear BK372; clear HB; have BK372 := n0_; have HB := n1_; clear n0_ n1_; (try clear hb); (try clear hb2); (try clear hk); (try clear hi); have hcz18_0 : w17.cell? ⟨gb372, 0, none⟩ = some (.bool false) := bc_ BK372 0; have hcz18_1 : w17.cell? ⟨gb372, 1, none⟩ = some (.string t374) := bc_ BK372 1; have hcz18_2 : w17.cell? ⟨gb372, 2, none⟩ = some (.int .i64 t375) := bc_ BK372 2; have hfz18_0 := blk_frozen BK372.out 0; have hfz18_1 := blk_frozen BK372.out 1; have hfz18_2 := blk_frozen BK372.out 2))
        go_ret2
        exact ⟨by first | rfl | (simp [errW_none, errW_some] <;> rfl) | (simp [*, errW_none, errW_some] <;> first | rfl | exact given_isEmpty _ | exact (given_isEmpty _).symm), by repeat (first | (with_reducible first | exact HB.out | apply below_alloc | apply pw_below_drewN | apply below_drew1 | refine below_set ?_ GE372.out) | exact HB.out)⟩
      · rw [if_neg c12] at H
        have c12b0 : decide (1 ≤ t376) = false := decide_eq_false c12
        clear c12
        simp only [Option.some.injEq, Prod.mk.injEq] at H
        obtain ⟨rfl, rfl⟩ := H
        go_enter Tryd.func42, Tryd.ntmps42
        go_wp2_with (first | ((with_reducible refine gate_dst (N := 1) rfl ?_); refine box_event ?hg (N := 1) ?hd (cs := #[.bool a0_0, .string a0_1, .int .i64 a0_2]) (t := 30) ?hr ?_; (case hd => rfl); (case hg => rfl); (case hr => first | (go_simp; done) | (go_simp; rfl)); intro gb372 hg w19 hbox hb; have n0_ := Aside0.mk (below_step (bl_ HB).out hb); have n1_ := Aside0.mk (hbox); have n2_ := Aside0.mk ((by rw [hg]; exact (below_size (bl_ HB).out) : w.heap.size ≤ gb372)); have n3_ := Aside0.mk ((by rw [hg]; exact (below_size (bl_ HB).out) : w.heap.size ≤ gb372)); clear HB; have HB := n0_; have BK372 := n1_; have GW372 := n2_; have GE372 := n3_; clear n0_ n1_ n2_ n3_; clear hb hbox hg; have hcz20_0 : w19.cell? ⟨gb372, 0, none⟩ = some (.bool a0_0) := bc_ BK372 0; have hcz20_1 : w19.cell? ⟨gb372, 1, none⟩ = some (.string a0_1) := bc_ BK372 1; have hcz20_2 : w19.cell? ⟨gb372, 2, none⟩ = some (.int .i64 a0_2) := bc_ BK372 2; have hfz20_0 := blk_frozen BK372.out 0; have hfz20_1 := blk_frozen BK372.out 1; have hfz20_2 := blk_frozen BK372.out 2) | ((with_reducible refine gate_callee (f := 22) rfl ?_); refine goesL_ (some 7) rfl rfl Tryd.func22 (by kernel_rfl) rfl #[.agg #[.bool a0_0, .string a0_1, .int .i64 a0_2]] rfl (by (try simp only [List.map_toArray, List.map_cons, List.map_nil]); first | done | rfl | (simp only [List.length_drop, List.length_take]; rfl) | (have z_ : ∀ s_ : ByteArray, s_.size ≤ 9223372036854775807 → -(s_.size : Int) = wrap64 (-(s_.size : Int)) := (fun s_ h_ => by unfold wrap64; omega); rw [← z_ _ (by omega)]; rfl) | (simp only [ByteArray.size_append]; rfl)) ?_; (with_reducible refine (dec_Dec_Norm.calls k a0_0 a0_1 a0_2 false t374 t375 _ A2.out).mono ?_); rintro e w21 ⟨rfl, hb⟩; refine ⟨_, rfl, ?_⟩; have n0_ := bb_ BK372 hb; have n1_ := Aside0.mk (below_step (bl_ HB).out hb); clear BK372; clear HB; have BK372 := n0_; have HB := n1_; clear n0_ n1_; (try clear hb); (try clear hb2); (try clear hk); (try clear hi); have hcz22_0 : w21.cell? ⟨gb372, 0, none⟩ = some (.bool a0_0) := bc_ BK372 0; have hcz22_1 : w21.cell? ⟨gb372, 1, none⟩ = some (.string a0_1) := bc_ BK372 1; have hcz22_2 : w21.cell? ⟨gb372, 2, none⟩ = some (.int .i64 a0_2) := bc_ BK372 2; have hfz22_0 := blk_frozen BK372.out 0; have hfz22_1 := blk_frozen BK372.out 1; have hfz22_2 := blk_frozen BK372.out 2) | ((with_reducible refine gate_callee (f := 61) rfl ?_); refine goesL_ (some 11) rfl rfl Tryd.func61 (by kernel_rfl) rfl #[.string t374] rfl (by (try simp only [List.map_toArray, List.map_cons, List.map_nil]); first | done | rfl | (simp only [List.length_drop, List.length_take]; rfl) | (have z_ : ∀ s_ : ByteArray, s_.size ≤ 9223372036854775807 → -(s_.size : Int) = wrap64 (-(s_.size : Int)) := (fun s_ h_ => by unfold wrap64; omega); rw [← z_ _ (by omega)]; rfl) | (simp only [ByteArray.size_append]; rfl)) ?_; (with_reducible refine (num_Int.calls k t374 t376 true _ A3.out).mono ?_); rintro e w23 ⟨rfl, hb⟩; refine ⟨_, rfl, ?_⟩; have n0_ := Aside0.mk (blk_below (g := gb372) (o := .cells #[.bool false, .string t374, .int .i64 t375] 30 (0, 0)) (by (with_reducible repeat (first | refine blk_drewN ?_ _ | refine blk_drew ?_ | refine blk_alloc ?_ _)); refine blk_put (cs := #[.bool false, .string t374, .int .i64 a0_2]) ?_ 2 _ rfl; (with_reducible repeat (first | refine blk_drewN ?_ _ | refine blk_drew ?_ | refine blk_alloc ?_ _)); refine blk_put (cs := #[.bool false, .string a0_1, .int .i64 a0_2]) ?_ 1 _ rfl; (with_reducible repeat (first | refine blk_drewN ?_ _ | refine blk_drew ?_ | refine blk_alloc ?_ _)); refine blk_put (cs := #[.bool a0_0, .string a0_1, .int .i64 a0_2]) ?_ 0 _ rfl; (with_reducible repeat (first | refine blk_drewN ?_ _ | refine blk_drew ?_ | refine blk_alloc ?_ _)); exact BK372.out) hb); have n1_ := Aside0.mk (below_step (bl_ HB).out hb); clear BK372; clear HB; have BK372 := n0_; have HB := n1_; clear n0_ n1_; (try clear hb); (try clear hb2); (try clear hk); (try clear hi); have hcz24_0 : w23.cell? ⟨gb372, 0, none⟩ = some (.bool false) := bc_ BK372 0; have hcz24_1 : w23.cell? ⟨gb372, 1, none⟩ = some (.string t374) := bc_ BK372 1; have hcz24_2 : w23.cell? ⟨gb372, 2, none⟩ = some (.int .i64 t375) := bc_ BK372 2; have hfz24_0 := blk_frozen BK372.out 0; have hfz24_1 := blk_frozen BK372.out 1; have hfz24_2 := blk_frozen BK372.out 2))
        go_ret2
        exact ⟨by first | rfl | (simp [errW_none, errW_some] <;> rfl) | (simp [*, errW_none, errW_some] <;> first | rfl | exact given_isEmpty _ | exact (given_isEmpty _).symm), by repeat (first | (with_reducible first | exact HB.out | apply below_alloc | apply pw_below_drewN | apply below_drew1 | refine below_set ?_ GE372.out) | exact HB.out)⟩
  · replace c4 := Bool.eq_false_iff.mpr c4
    subst c4
    have H1 : (some (t376, false)) = some (r1, r2) := by rw [if_neg (show ¬ (false = true) by decide)] at H; exact H
    clear H
    have H := H1
    clear H1
    simp only [Option.some.injEq, Prod.mk.injEq] at H
    obtain ⟨rfl, rfl⟩ := H
    go_enter Tryd.func42, Tryd.ntmps42
    go_wp2_with (first | ((with_reducible refine gate_dst (N := 1) rfl ?_); refine box_event ?hg (N := 1) ?hd (cs := #[.bool a0_0, .string a0_1, .int .i64 a0_2]) (t := 30) ?hr ?_; (case hd => rfl); (case hg => rfl); (case hr => first | (go_simp; done) | (go_simp; rfl)); intro gb372 hg w25 hbox hb; have n0_ := Aside0.mk (below_step (bl_ HB).out hb); have n1_ := Aside0.mk (hbox); have n2_ := Aside0.mk ((by rw [hg]; exact (below_size (bl_ HB).out) : w.heap.size ≤ gb372)); have n3_ := Aside0.mk ((by rw [hg]; exact (below_size (bl_ HB).out) : w.heap.size ≤ gb372)); clear HB; have HB := n0_; have BK372 := n1_; have GW372 := n2_; have GE372 := n3_; clear n0_ n1_ n2_ n3_; clear hb hbox hg; have hcz26_0 : w25.cell? ⟨gb372, 0, none⟩ = some (.bool a0_0) := bc_ BK372 0; have hcz26_1 : w25.cell? ⟨gb372, 1, none⟩ = some (.string a0_1) := bc_ BK372 1; have hcz26_2 : w25.cell? ⟨gb372, 2, none⟩ = some (.int .i64 a0_2) := bc_ BK372 2; have hfz26_0 := blk_frozen BK372.out 0; have hfz26_1 := blk_frozen BK372.out 1; have hfz26_2 := blk_frozen BK372.out 2) | ((with_reducible refine gate_callee (f := 22) rfl ?_); refine goesL_ (some 7) rfl rfl Tryd.func22 (by kernel_rfl) rfl #[.agg #[.bool a0_0, .string a0_1, .int .i64 a0_2]] rfl (by (try simp only [List.map_toArray, List.map_cons, List.map_nil]); first | done | rfl | (simp only [List.length_drop, List.length_take]; rfl) | (have z_ : ∀ s_ : ByteArray, s_.size ≤ 9223372036854775807 → -(s_.size : Int) = wrap64 (-(s_.size : Int)) := (fun s_ h_ => by unfold wrap64; omega); rw [← z_ _ (by omega)]; rfl) | (simp only [ByteArray.size_append]; rfl)) ?_; (with_reducible refine (dec_Dec_Norm.calls k a0_0 a0_1 a0_2 t373 t374 t375 _ A2.out).mono ?_); rintro e w27 ⟨rfl, hb⟩; refine ⟨_, rfl, ?_⟩; have n0_ := bb_ BK372 hb; have n1_ := Aside0.mk (below_step (bl_ HB).out hb); clear BK372; clear HB; have BK372 := n0_; have HB := n1_; clear n0_ n1_; (try clear hb); (try clear hb2); (try clear hk); (try clear hi); have hcz28_0 : w27.cell? ⟨gb372, 0, none⟩ = some (.bool a0_0) := bc_ BK372 0; have hcz28_1 : w27.cell? ⟨gb372, 1, none⟩ = some (.string a0_1) := bc_ BK372 1; have hcz28_2 : w27.cell? ⟨gb372, 2, none⟩ = some (.int .i64 a0_2) := bc_ BK372 2; have hfz28_0 := blk_frozen BK372.out 0; have hfz28_1 := blk_frozen BK372.out 1; have hfz28_2 := blk_frozen BK372.out 2) | ((with_reducible refine gate_callee (f := 61) rfl ?_); refine goesL_ (some 11) rfl rfl Tryd.func61 (by kernel_rfl) rfl #[.string t374] rfl (by (try simp only [List.map_toArray, List.map_cons, List.map_nil]); first | done | rfl | (simp only [List.length_drop, List.length_take]; rfl) | (have z_ : ∀ s_ : ByteArray, s_.size ≤ 9223372036854775807 → -(s_.size : Int) = wrap64 (-(s_.size : Int)) := (fun s_ h_ => by unfold wrap64; omega); rw [← z_ _ (by omega)]; rfl) | (simp only [ByteArray.size_append]; rfl)) ?_; (with_reducible refine (num_Int.calls k t374 t376 false _ A3.out).mono ?_); rintro e w29 ⟨rfl, hb⟩; refine ⟨_, rfl, ?_⟩; have n0_ := Aside0.mk (blk_below (g := gb372) (o := .cells #[.bool t373, .string t374, .int .i64 t375] 30 (0, 0)) (by (with_reducible repeat (first | refine blk_drewN ?_ _ | refine blk_drew ?_ | refine blk_alloc ?_ _)); refine blk_put (cs := #[.bool t373, .string t374, .int .i64 a0_2]) ?_ 2 _ rfl; (with_reducible repeat (first | refine blk_drewN ?_ _ | refine blk_drew ?_ | refine blk_alloc ?_ _)); refine blk_put (cs := #[.bool t373, .string a0_1, .int .i64 a0_2]) ?_ 1 _ rfl; (with_reducible repeat (first | refine blk_drewN ?_ _ | refine blk_drew ?_ | refine blk_alloc ?_ _)); refine blk_put (cs := #[.bool a0_0, .string a0_1, .int .i64 a0_2]) ?_ 0 _ rfl; (with_reducible repeat (first | refine blk_drewN ?_ _ | refine blk_drew ?_ | refine blk_alloc ?_ _)); exact BK372.out) hb); have n1_ := Aside0.mk (below_step (bl_ HB).out hb); clear BK372; clear HB; have BK372 := n0_; have HB := n1_; clear n0_ n1_; (try clear hb); (try clear hb2); (try clear hk); (try clear hi)))
    go_ret2
    exact ⟨by first | rfl | (simp [errW_none, errW_some] <;> rfl) | (simp [*, errW_none, errW_some] <;> first | rfl | exact given_isEmpty _ | exact (given_isEmpty _).symm), by repeat (first | (with_reducible first | exact HB.out | apply below_alloc | apply pw_below_drewN | apply below_drew1 | refine below_set ?_ GE372.out) | exact HB.out)⟩

/-! ### num_Div: function 44 -/
def num_Div.renWB : Go.Shelf.Ren := ⟨fun | 167 => 62 | n => Tryd.lays105_ren.f n, Tryd.lays105_ren.t, Tryd.lays105_ren.g⟩
set_option maxRecDepth 100000 in
theorem num_Div.laysWB : Go.Proofs.Lays.n167 Tryd.prog num_Div.renWB := by
  have L := Tryd.lays105
  exact { mixed := L.mixed, f167 := Tryd.func62.trans (congrArg some (by kernel_rfl)), f240 := L.f240, f276 := L.f276,
          t0 := L.t0, a0 := L.a0, z0 := L.z0, v0 := L.v0, t4 := L.t4, a4 := L.a4, z4 := L.z4, v4 := L.v4, t5 := L.t5, a5 := L.a5, z5 := L.z5, v5 := L.v5,
          t9 := L.t9, a9 := L.a9, z9 := L.z9, v9 := L.v9, t20 := L.t20, a20 := L.a20, z20 := L.z20, v20 := L.v20, t37 := L.t37, a37 := L.a37, z37 := L.z37, v37 := L.v37,
          t70 := L.t70, a70 := L.a70, z70 := L.z70, v70 := L.v70, t72 := L.t72, a72 := L.a72, z72 := L.z72, v72 := L.v72, t75 := L.t75, a75 := L.a75, z75 := L.z75, v75 := L.v75, t164 := L.t164, a164 := L.a164, z164 := L.z164, v164 := L.v164 }
set_option maxRecDepth 100000 in
theorem num_Div.extraWB : Builder.Extra Tryd.prog num_Div.renWB := by
  have X := Tryd.Builder_Extra_105
  exact { sizeBuilder := X.sizeBuilder, liesBuilder := X.liesBuilder, t5 := X.t5, a5 := X.a5, z5 := X.z5, v5 := X.v5, infoByte := X.infoByte, cellsByte := X.cellsByte, sizeByte := X.sizeByte, neB5 := X.neB5 }
set_option maxRecDepth 100000 in
theorem num_Div.WriteByte (B b : Nat) (bs : List Value) (c : Int) (w : World) (h : Lib.IsBuilder 81 5 B b bs w) (hlen : bs.length + 1 ≤ 140737488355328) (hBw : B ≤ w.heap.size) :
    Calls Tryd.prog 62 #[.pointer (some ⟨b, 0, none⟩), .int .u8 c] w fun e w' => e = .returned .nilIface ∧ (Lib.BuilderAt 81 5 B b (.pointer (some ⟨b, 0, none⟩)) (bs ++ [.int .u8 c]) w' ∧ Below B w w') := Any.Builder_WriteByte num_Div.laysWB num_Div.extraWB B b bs c w h hlen hBw

def num_Div.rest (m r : Int) (c : UInt8) : Int := 10 * r + ((c.toNat : Int) - 48) % 256
def num_Div.step (m : Int) (p : List UInt8 × Int) (c : UInt8) : List UInt8 × Int :=
  (p.1 ++ [UInt8.ofNat ((48 + num_Div.rest m p.2 c / m) % 256).toNat], num_Div.rest m p.2 c % m)
def num_Div.go (m : Int) (l : List UInt8) : List UInt8 × Int := l.foldl (num_Div.step m) ([], 0)
theorem num_Div.go_take (m : Int) (s : ByteArray) (k : Nat) (h : k < s.size) : num_Div.go m (s.data.toList.take (k + 1)) = num_Div.step m (num_Div.go m (s.data.toList.take k)) (s.data.toList.getD k 0) := by
  unfold num_Div.go
  have h' : k < s.data.toList.length := by simpa using h
  rw [List.take_succ_eq_append_getElem h', List.foldl_append]
  simp only [List.foldl_cons, List.foldl_nil, List.getD_eq_getElem?_getD, List.getElem?_eq_getElem h', Option.getD_some]
theorem num_Div.go_inv (m : Int) (hm : 1 ≤ m) (l : List UInt8) : (num_Div.go m l).1.length = l.length ∧ 0 ≤ (num_Div.go m l).2 ∧ (num_Div.go m l).2 < m := by
  unfold num_Div.go
  suffices H : ∀ (l : List UInt8) (p : List UInt8 × Int), 0 ≤ p.2 → p.2 < m → (l.foldl (num_Div.step m) p).1.length = p.1.length + l.length ∧ 0 ≤ (l.foldl (num_Div.step m) p).2 ∧ (l.foldl (num_Div.step m) p).2 < m by
    have := H l ([], 0) (by simp) (by simp; omega)
    simpa using this
  intro l
  induction l with
  | nil => intro p h1 h2; exact ⟨rfl, h1, h2⟩
  | cons c l ih =>
    intro p h1 h2
    rw [List.foldl_cons]
    have h3 := ih (num_Div.step m p c) (Int.emod_nonneg _ (by omega)) (Int.emod_lt_of_pos _ (by omega))
    refine ⟨?_, h3.2⟩
    rw [h3.1]; simp [num_Div.step]; omega
def num_Div.f (k : Nat) (a0 : ByteArray) (a1 : Int) : Option (ByteArray × Int) := (num_Is.f k a0).bind fun t => if t = true then (if a1 < 1 then some (⟨#[]⟩, 0) else if 1000000000 < a1 then some (⟨#[]⟩, 0) else if a0.size < 140737488355328 then (num_Trim.f k ⟨(num_Div.go a1 a0.data.toList).1.toArray⟩).bind fun u => some (u, (num_Div.go a1 a0.data.toList).2) else none) else some (⟨#[]⟩, 0)
theorem num_Div.getD_ (s : ByteArray) (j : Nat) (h : j < s.size) : s.data.toList.getD j 0 = s[j] := by
  have h' : j < s.data.toList.length := by simpa using h
  simp only [List.getD_eq_getElem?_getD, List.getElem?_eq_getElem h', Option.getD_some]
  rfl
theorem num_Div.cells_snoc {T e B b : Nat} {p : Value} {l : List UInt8} {x : Int} {w : World} (h : Lib.BuilderAt T e B b p (Lib.byteCells l ++ [.int .u8 (x % 256)]) w) : Lib.BuilderAt T e B b p (Lib.byteCells (l ++ [UInt8.ofNat (x % 256).toNat])) w := by
  have e1 : Lib.byteCells (l ++ [UInt8.ofNat (x % 256).toNat]) = Lib.byteCells l ++ [.int .u8 (x % 256)] := by
    unfold Lib.byteCells
    rw [List.map_append, List.map_cons, List.map_nil]
    have h1 : (x % 256).toNat < 256 := by omega
    have h2 : ((UInt8.ofNat (x % 256).toNat).toNat : Int) = x % 256 := by
      rw [UInt8.toNat_ofNat_of_lt' (by simpa using h1)]; omega
    rw [h2]
  rw [e1]; exact h
theorem num_Div.mono : ∀ a0 a1 k, LeO (num_Div.f k a0 a1) (num_Div.f (k + 1) a0 a1) := by
  intro a0 a1 k
  unfold num_Div.f
  repeat' first
  | (with_reducible exact num_Is.mono _ _)
  | (with_reducible exact num_Trim.mono _ _)
  | (with_reducible exact LeO.refl _)
  | (with_reducible exact LeO.none _)
  | (with_reducible refine LeO.ite ?_ ?_)
  | (with_reducible refine LeO.bind ?_ (fun _ => ?_))
set_option maxHeartbeats 1000000 in
theorem num_Div.calls (k : Nat) (a0 : ByteArray) (a1 : Int) (r1 : ByteArray) (r2 : Int) (w : World) (h : num_Div.f k a0 a1 = some (r1, r2)) :
    Calls Tryd.prog 44 #[.string a0, .int .i64 a1] w fun e w' => e = .returned (.tuple #[.string r1, .int .i64 r2]) ∧ Below w.heap.size w w' := by
  unfold num_Div.f at h
  replace h := Option.bind_eq_some_iff.mp h
  obtain ⟨t, h1, h⟩ := h
  have h1' := Aside0.mk h1
  clear h1
  cases t with
  | false =>
    rw [if_neg (by decide)] at h
    simp only [Option.some.injEq, Prod.mk.injEq] at h
    obtain ⟨rfl, rfl⟩ := h
    go_enter Tryd.func44, Tryd.ntmps44
    go_wp2_with (go_at_call 55; refine (num_Is.calls k a0 _ _ h1'.out).mono ?_; rintro e w' ⟨rfl, ⟨m, rfl⟩⟩)
    go_ret2
    exact ⟨rfl, pw_below_drewN (Below.refl _ _) m⟩
  | true =>
    rw [if_pos rfl] at h
    by_cases hlo : a1 < 1
    · rw [if_pos hlo] at h
      simp only [Option.some.injEq, Prod.mk.injEq] at h
      obtain ⟨rfl, rfl⟩ := h
      have d1 : decide (a1 < 1) = true := decide_eq_true hlo
      clear hlo
      go_enter Tryd.func44, Tryd.ntmps44
      go_wp2_with (go_at_call 55; refine (num_Is.calls k a0 _ _ h1'.out).mono ?_; rintro e w' ⟨rfl, ⟨m, rfl⟩⟩)
      go_ret2
      exact ⟨rfl, by repeat (first | exact Below.refl _ _ | apply pw_below_drewN)⟩
    · rw [if_neg hlo] at h
      by_cases hhi : 1000000000 < a1
      · rw [if_pos hhi] at h
        simp only [Option.some.injEq, Prod.mk.injEq] at h
        obtain ⟨rfl, rfl⟩ := h
        have d1 : decide (a1 < 1) = false := decide_eq_false hlo
        have d2 : decide (1000000000 < a1) = true := decide_eq_true hhi
        clear hlo hhi
        go_enter Tryd.func44, Tryd.ntmps44
        go_wp2_with (go_at_call 55; refine (num_Is.calls k a0 _ _ h1'.out).mono ?_; rintro e w' ⟨rfl, ⟨m, rfl⟩⟩)
        go_ret2
        exact ⟨rfl, by repeat (first | exact Below.refl _ _ | apply pw_below_drewN)⟩
      · rw [if_neg hhi] at h
        by_cases hsz : a0.size < 140737488355328
        · rw [if_pos hsz] at h
          replace h := Option.bind_eq_some_iff.mp h
          obtain ⟨u, h2, h⟩ := h
          have h2' := Aside0.mk h2
          clear h2
          simp only [Option.some.injEq, Prod.mk.injEq] at h
          obtain ⟨rfl, rfl⟩ := h
          have d1 : decide (a1 < 1) = false := decide_eq_false hlo
          have d2 : decide (1000000000 < a1) = false := decide_eq_false hhi
          have hlo' := Aside0.mk (show 1 ≤ a1 by omega)
          have hhi' := Aside0.mk (show a1 ≤ 1000000000 by omega)
          clear hlo hhi
          go_enter Tryd.func44, Tryd.ntmps44
          go_wp2_with (go_at_call 55; refine (num_Is.calls k a0 _ _ h1'.out).mono ?_; rintro e w' ⟨rfl, ⟨m, rfl⟩⟩)
          have hB0 : Lib.IsBuilder 81 5 w.heap.size w.heap.size (Lib.byteCells (num_Div.go a1 (a0.data.toList.take 0)).1) ((w.drewN m).alloc (.cells #[.pointer none, .slice none 0 0] 81)) := Lib.fresh_isBuilder 81 5 (w.drewN m)
          have hW0 : Below w.heap.size w ((w.drewN m).alloc (.cells #[.pointer none, .slice none 0 0] 81)) := (pw_below_drewN (Below.refl _ _) m).alloc (Nat.le_refl _) _
          have hB0' := Aside0.mk hB0
          have hW0' := Aside0.mk hW0
          clear hB0 hW0 d1 d2
          go_loopw [7, 22] (fun r i wr => ∃ j : Nat, j ≤ a0.size ∧ i = .int .i64 j ∧ r = .int .i64 (num_Div.go a1 (a0.data.toList.take j)).2 ∧ Aside0 (Lib.IsBuilder 81 5 w.heap.size w.heap.size (Lib.byteCells (num_Div.go a1 (a0.data.toList.take j)).1) wr) ∧ Aside0 (Below w.heap.size w wr)) (fun _ i _ => a0.size - (intOf i).toNat)
          case atStart => exact ⟨0, Nat.zero_le _, rfl, rfl, hB0', hW0'⟩
          case round =>
            clear hB0' hW0'
            obtain ⟨j, hj, rfl, rfl, hb, hbel⟩ := hrel
            by_cases hlt : j < a0.size
            · have inv := num_Div.go_inv a1 hlo'.out (a0.data.toList.take j)
              obtain ⟨R, hR⟩ : ∃ R, (num_Div.go a1 (a0.data.toList.take j)).2 = R := ⟨_, rfl⟩
              rw [hR] at inv ⊢
              have hR' := Aside0.mk hR
              clear hR
              have i1 := inv.2.1
              have i2 := Int.lt_of_lt_of_le inv.2.2 hhi'.out
              have hg := Aside0.mk (num_Div.go_take a1 a0 j hlt)
              have inv' := Aside0.mk inv
              clear inv
              have hlo := hlo'.out
              go_wp2_with fail
              refine (num_Div.WriteByte w.heap.size w.heap.size _ _ wr hb.out (by rw [Lib.byteCells_length, inv'.out.1]; simp; omega) hbel.out.size).mono ?_
              rintro e W1 ⟨rfl, hb1, hbel1⟩
              have hb1' := Aside0.mk (num_Div.cells_snoc hb1)
              have hbel1' := Aside0.mk (hbel.out.trans hbel1)
              clear hb1 hbel1 hb hbel
              go_wp2
              go_roundw
              case rel => exact ⟨j + 1, by omega, by go_num, by rw [hg.out, num_Div.step, hR'.out, num_Div.getD_ a0 j hlt]; rfl, by rw [hg.out, num_Div.step, hR'.out, num_Div.getD_ a0 j hlt]; exact ⟨.inr hb1'.out⟩, hbel1'⟩
              case measure => simp [intOf]; omega
            · have hfull : a0.data.toList.take j = a0.data.toList := List.take_of_length_le (by simp; omega)
              rw [hfull] at hb ⊢
              go_wp2_with (first | (go_at_call 63; refine (Tryd.Builder_String_any w.heap.size w.heap.size _ wr hb.out hbel.out.size).mono ?_; rintro e W1 ⟨rfl, hbel1⟩) | (go_at_call 39; refine (num_Trim.calls k _ _ _ h2'.out).mono ?_; rintro e w' ⟨rfl, ⟨m', rfl⟩⟩))
              go_ret2
              exact ⟨rfl, pw_below_drewN (hbel.out.trans hbel1) _⟩
        · rw [if_neg hsz] at h
          cases h

/-! ### round_between: function 45 -/
mutual
def round_between.j0 : Nat → Int → Int → Bool → Option (Int)
  | 0, _, _, _ => none
  | k + 1, x7, x8, x15 => if x15 = true then (some 0) else (if x8 ≥ 2 then (round_between.j1 k x7 x8 (decide (x8 ≥ 2))) else (if x8 = 1 then (round_between.j1 k x7 x8 (decide (x7 < 2))) else (round_between.j1 k x7 x8 false)))
def round_between.j1 : Nat → Int → Int → Bool → Option (Int)
  | 0, _, _, _ => none
  | k + 1, x7, x8, x22 => if x22 = true then (some 1) else (if x8 = 1 then (round_between.j2 k x7 x8 (x7 == 2)) else (round_between.j2 k x7 x8 false))
def round_between.j2 : Nat → Int → Int → Bool → Option (Int)
  | 0, _, _, _ => none
  | k + 1, x7, x8, x31 => if x31 = true then (some 2) else (if x8 = 0 then (if x7 = 0 then (some 2) else (some 3)) else (some 3))
end
def round_between.f (k : Nat) (a0 : Int) (a1 : ByteArray) (a2 : Int) : Option (Int) := (round_tail.f a1).bind fun t378 => (if a0 = 0 then (round_between.j0 k t378 (wrap64 (a2 - (wrap64 (2 * a0)))) (t378 == 0)) else (round_between.j0 k t378 (wrap64 (a2 - (wrap64 (2 * a0)))) false))
theorem round_between.mono_l : ∀ k, (∀ y0 y1 y2, LeO (round_between.j0 k y0 y1 y2) (round_between.j0 (k + 1) y0 y1 y2)) ∧ (∀ y0 y1 y2, LeO (round_between.j1 k y0 y1 y2) (round_between.j1 (k + 1) y0 y1 y2)) ∧ (∀ y0 y1 y2, LeO (round_between.j2 k y0 y1 y2) (round_between.j2 (k + 1) y0 y1 y2))
  | 0 => ⟨fun _ _ _ r h => by simp [round_between.j0] at h, fun _ _ _ r h => by simp [round_between.j1] at h, fun _ _ _ r h => by simp [round_between.j2] at h⟩
  | k + 1 => by
    obtain ⟨ih0, ih1, ih2⟩ := round_between.mono_l k
    refine ⟨?_, ?_, ?_⟩
    · intro y0 y1 y2
      unfold round_between.j0
      repeat' first
      | (with_reducible exact ih0 _ _ _)
      | (with_reducible exact ih1 _ _ _)
      | (with_reducible exact ih2 _ _ _)
      | (with_reducible exact LeO.refl _)
      | (with_reducible exact LeO.none _)
      | (with_reducible refine LeO.ite ?_ ?_)
      | (with_reducible refine LeO.bind ?_ (fun _ => ?_))
      | exact ih0 _ _ _
      | exact ih1 _ _ _
      | exact ih2 _ _ _
      | exact LeO.none _
      | refine LeO.ite ?_ ?_
      | refine LeO.bind ?_ (fun _ => ?_)
    · intro y0 y1 y2
      unfold round_between.j1
      repeat' first
      | (with_reducible exact ih0 _ _ _)
      | (with_reducible exact ih1 _ _ _)
      | (with_reducible exact ih2 _ _ _)
      | (with_reducible exact LeO.refl _)
      | (with_reducible exact LeO.none _)
      | (with_reducible refine LeO.ite ?_ ?_)
      | (with_reducible refine LeO.bind ?_ (fun _ => ?_))
      | exact ih0 _ _ _
      | exact ih1 _ _ _
      | exact ih2 _ _ _
      | exact LeO.none _
      | refine LeO.ite ?_ ?_
      | refine LeO.bind ?_ (fun _ => ?_)
    · intro y0 y1 y2
      unfold round_between.j2
      repeat' first
      | (with_reducible exact ih0 _ _ _)
      | (with_reducible exact ih1 _ _ _)
      | (with_reducible exact ih2 _ _ _)
      | (with_reducible exact LeO.refl _)
      | (with_reducible exact LeO.none _)
      | (with_reducible refine LeO.ite ?_ ?_)
      | (with_reducible refine LeO.bind ?_ (fun _ => ?_))
      | exact ih0 _ _ _
      | exact ih1 _ _ _
      | exact ih2 _ _ _
      | exact LeO.none _
      | refine LeO.ite ?_ ?_
      | refine LeO.bind ?_ (fun _ => ?_)
theorem round_between.mono : ∀ a0 a1 a2 k, LeO (round_between.f k a0 a1 a2) (round_between.f (k + 1) a0 a1 a2) := by
  intro a0 a1 a2 k
  obtain ⟨ih0, ih1, ih2⟩ := round_between.mono_l k
  unfold round_between.f
  repeat' first
      | (with_reducible exact ih0 _ _ _)
      | (with_reducible exact ih1 _ _ _)
      | (with_reducible exact ih2 _ _ _)
      | (with_reducible exact LeO.refl _)
      | (with_reducible exact LeO.none _)
      | (with_reducible refine LeO.ite ?_ ?_)
      | (with_reducible refine LeO.bind ?_ (fun _ => ?_))
      | exact ih0 _ _ _
      | exact ih1 _ _ _
      | exact ih2 _ _ _
      | exact LeO.none _
      | refine LeO.ite ?_ ?_
      | refine LeO.bind ?_ (fun _ => ?_)
set_option maxHeartbeats 8000000 in
set_option maxRecDepth 100000 in
theorem round_between.calls (k : Nat) (a0 : Int) (a1 : ByteArray) (a2 : Int) (r : Int) (w : World) (h : round_between.f k a0 a1 a2 = some r) :
    Calls Tryd.prog 45 #[.int .i64 a0, .string a1, .int .i64 a2] w fun e w' => e = .returned (.int .i64 r) ∧ Drawn0 w w' := by
  have H : ((round_tail.f a1).bind fun t378 => (if a0 = 0 then (round_between.j0 k t378 (wrap64 (a2 - (wrap64 (2 * a0)))) (t378 == 0)) else (round_between.j0 k t378 (wrap64 (a2 - (wrap64 (2 * a0)))) false))) = some r := h
  clear h
  replace H := Option.bind_eq_some_iff.mp H
  obtain ⟨t378, A40, H⟩ := H
  replace H : (if a0 = 0 then (round_between.j0 k t378 (wrap64 (a2 - (wrap64 (2 * a0)))) (t378 == 0)) else (round_between.j0 k t378 (wrap64 (a2 - (wrap64 (2 * a0)))) false)) = some r := H
  have A4 := Aside0.mk A40
  clear A40
  have HC5 := Aside0.mk H
  clear H
  go_enter Tryd.func45, Tryd.ntmps45
  go_upto_region 3 with (first | ((with_reducible refine gate_callee (f := 36) rfl ?_); refine goesL_ (some 10) rfl rfl Tryd.func36 (by kernel_rfl) rfl #[.string a1] rfl (by (try simp only [List.map_toArray, List.map_cons, List.map_nil]); first | done | rfl | (simp only [List.length_drop, List.length_take]; rfl) | (have z_ : ∀ s_ : ByteArray, s_.size ≤ 9223372036854775807 → -(s_.size : Int) = wrap64 (-(s_.size : Int)) := (fun s_ h_ => by unfold wrap64; omega); rw [← z_ _ (by omega)]; rfl) | (simp only [ByteArray.size_append]; rfl)) ?_; (with_reducible refine (round_tail.calls a1 t378 _ A4.out).mono ?_); rintro e w' ⟨rfl, ⟨nd, rfl⟩⟩; refine ⟨_, rfl, ?_⟩))
  (try simp only [Act.put, List.setIfInBounds_toArray, List.set_cons_zero, List.set_cons_succ])
  go_cut [15] (fun v15 wc => ∃ (kq : Nat) (x15_4 : Bool), v15 = .bool x15_4 ∧ Aside0 (round_between.j0 kq t378 (wrap64 (a2 - (wrap64 (2 * a0)))) x15_4 = some r) ∧ Aside0 (kq ≤ k) ∧ Drawn0 w wc)
  case first =>
    have H := HC5.out
    clear HC5
    by_cases c6 : a0 = 0
    · rw [if_pos c6] at H
      have c6b0 : (a0 == 0) = true := beq_iff_eq.mpr c6
      have c6b1 : (a0 != 0) = false := bne_eq_false_iff_eq.mpr c6
      clear c6
      (first | rw [c6b0] | (simp only [i64_w, i32_w]; rw [c6b0]) | skip)
      have H' := Aside0.mk H
      clear H
      go_wp2
      go_meet
      case rel => exact ⟨_, ((t378 == 0)), eq_, H', ⟨by first | omega | exact Nat.le_refl _⟩, by repeat (first | exact Drawn0.refl _ | apply Drawn0.step)⟩
    · rw [if_neg c6] at H
      have c6b0 : (a0 == 0) = false := beq_eq_false_iff_ne.mpr c6
      have c6b1 : (a0 != 0) = true := bne_iff_ne.mpr c6
      (first | rw [c6b0] | (simp only [i64_w, i32_w]; rw [c6b0]) | skip)
      have H' := Aside0.mk H
      clear H
      go_wp2
      go_meet
      case rel => exact ⟨_, (false), eq_, H', ⟨by first | omega | exact Nat.le_refl _⟩, by repeat (first | exact Drawn0.refl _ | apply Drawn0.step)⟩
  case rest =>
    clear HC5
    try clear p2
    try clear c3
    try clear c4
    try clear c6
    try clear c6b0
    try clear c6b1
    try clear p6
    obtain ⟨kq, x15_4, rfl, HA, HJ4, ⟨mc4, rfl⟩⟩ := hcut
    cases kq with
    | zero => exact absurd HA.out (by simp [round_between.j0])
    | succ kj4 =>
      have H := HA.out
      clear HA
      simp only [round_between.j0] at H
      by_cases c7 : x15_4 = true
      · subst c7
        have H1 : (some 0) = some r := by rw [if_pos rfl] at H; exact H
        clear H
        have H := H1
        clear H1
        obtain rfl := Option.some.inj H
        go_wp2
        go_ret
        exact ⟨by first | rfl | (simp; done) | (simp [*]; done) | (simp; first | exact given_isEmpty _ | exact (given_isEmpty _).symm) | (unfold wrap64; omega) | (congr 1; unfold wrap64; omega), by repeat (first | exact Drawn0.refl _ | apply Drawn0.step)⟩
      · replace c7 := Bool.eq_false_iff.mpr c7
        subst c7
        have H1 : (if (wrap64 (a2 - (wrap64 (2 * a0)))) ≥ 2 then (round_between.j1 kj4 t378 (wrap64 (a2 - (wrap64 (2 * a0)))) (decide ((wrap64 (a2 - (wrap64 (2 * a0)))) ≥ 2))) else (if (wrap64 (a2 - (wrap64 (2 * a0)))) = 1 then (round_between.j1 kj4 t378 (wrap64 (a2 - (wrap64 (2 * a0)))) (decide (t378 < 2))) else (round_between.j1 kj4 t378 (wrap64 (a2 - (wrap64 (2 * a0)))) false))) = some r := by rw [if_neg (show ¬ (false = true) by decide)] at H; exact H
        clear H
        have H := H1
        clear H1
        have HC8 := Aside0.mk H
        clear H
        go_upto_if 22 with (fail)
        go_cut [22] (fun v22 wc => ∃ (kq : Nat) (x22_7 : Bool), v22 = .bool x22_7 ∧ Aside0 (round_between.j1 kq t378 (wrap64 (a2 - (wrap64 (2 * a0)))) x22_7 = some r) ∧ Aside0 (kq ≤ kj4) ∧ Drawn0 w wc)
        case first =>
          have H := HC8.out
          clear HC8
          by_cases c9 : (wrap64 (a2 - (wrap64 (2 * a0)))) ≥ 2
          · rw [if_pos c9] at H
            have c9b0 : decide (2 ≤ (wrap64 (a2 - (wrap64 (2 * a0))))) = true := decide_eq_true c9
            clear c9
            (first | rw [c9b0] | (simp only [i64_w, i32_w]; rw [c9b0]) | skip)
            have H' := Aside0.mk H
            clear H
            go_wp2
            go_meet
            case rel => exact ⟨_, (decide ((wrap64 (a2 - (wrap64 (2 * a0)))) ≥ 2)), eq_, H', ⟨by have := HJ4.out; first | omega | exact Nat.le_refl _⟩, by repeat (first | exact Drawn0.refl _ | apply Drawn0.step)⟩
          · rw [if_neg c9] at H
            have c9b0 : decide (2 ≤ (wrap64 (a2 - (wrap64 (2 * a0))))) = false := decide_eq_false c9
            clear c9
            (first | rw [c9b0] | (simp only [i64_w, i32_w]; rw [c9b0]) | skip)
            by_cases c10 : (wrap64 (a2 - (wrap64 (2 * a0)))) = 1
            · rw [if_pos c10] at H
              have c10b0 : ((wrap64 (a2 - (wrap64 (2 * a0)))) == 1) = true := beq_iff_eq.mpr c10
              have c10b1 : ((wrap64 (a2 - (wrap64 (2 * a0)))) != 1) = false := bne_eq_false_iff_eq.mpr c10
              clear c10
              have H' := Aside0.mk H
              clear H
              go_wp2
              go_meet
              case rel => exact ⟨_, (decide (t378 < 2)), eq_, H', ⟨by have := HJ4.out; first | omega | exact Nat.le_refl _⟩, by repeat (first | exact Drawn0.refl _ | apply Drawn0.step)⟩
            · rw [if_neg c10] at H
              have c10b0 : ((wrap64 (a2 - (wrap64 (2 * a0)))) == 1) = false := beq_eq_false_iff_ne.mpr c10
              have c10b1 : ((wrap64 (a2 - (wrap64 (2 * a0)))) != 1) = true := bne_iff_ne.mpr c10
              have H' := Aside0.mk H
              clear H
              go_wp2
              go_meet
              case rel => exact ⟨_, (false), eq_, H', ⟨by have := HJ4.out; first | omega | exact Nat.le_refl _⟩, by repeat (first | exact Drawn0.refl _ | apply Drawn0.step)⟩
        case rest =>
          clear HC8
          try clear c1
          try clear p2
          try clear c3
          try clear c4
          try clear c6
          try clear c6b0
          try clear c6b1
          try clear p6
          try clear c7
          try clear c9
          try clear c9b0
          try clear c10
          try clear c10b0
          try clear c10b1
          try clear p2
          try clear p6
          obtain ⟨kq, x22_7, rfl, HA, HJ7, ⟨mc7, rfl⟩⟩ := hcut
          cases kq with
          | zero => exact absurd HA.out (by simp [round_between.j1])
          | succ kj7 =>
            have H := HA.out
            clear HA
            simp only [round_between.j1] at H
            by_cases c11 : x22_7 = true
            · subst c11
              have H1 : (some 1) = some r := by rw [if_pos rfl] at H; exact H
              clear H
              have H := H1
              clear H1
              obtain rfl := Option.some.inj H
              go_wp2
              go_ret
              exact ⟨by first | rfl | (simp; done) | (simp [*]; done) | (simp; first | exact given_isEmpty _ | exact (given_isEmpty _).symm) | (unfold wrap64; omega) | (congr 1; unfold wrap64; omega), by repeat (first | exact Drawn0.refl _ | apply Drawn0.step)⟩
            · replace c11 := Bool.eq_false_iff.mpr c11
              subst c11
              have H1 : (if (wrap64 (a2 - (wrap64 (2 * a0)))) = 1 then (round_between.j2 kj7 t378 (wrap64 (a2 - (wrap64 (2 * a0)))) (t378 == 2)) else (round_between.j2 kj7 t378 (wrap64 (a2 - (wrap64 (2 * a0)))) false)) = some r := by rw [if_neg (show ¬ (false = true) by decide)] at H; exact H
              clear H
              have H := H1
              clear H1
              have HC12 := Aside0.mk H
              clear H
              go_upto_region 8 with (fail)
              go_cut [31] (fun v31 wc => ∃ (kq : Nat) (x31_11 : Bool), v31 = .bool x31_11 ∧ Aside0 (round_between.j2 kq t378 (wrap64 (a2 - (wrap64 (2 * a0)))) x31_11 = some r) ∧ Aside0 (kq ≤ kj7) ∧ Drawn0 w wc)
              case first =>
                have H := HC12.out
                clear HC12
                by_cases c13 : (wrap64 (a2 - (wrap64 (2 * a0)))) = 1
                · rw [if_pos c13] at H
                  have c13b0 : ((wrap64 (a2 - (wrap64 (2 * a0)))) == 1) = true := beq_iff_eq.mpr c13
                  have c13b1 : ((wrap64 (a2 - (wrap64 (2 * a0)))) != 1) = false := bne_eq_false_iff_eq.mpr c13
                  clear c13
                  (first | rw [c13b0] | (simp only [i64_w, i32_w]; rw [c13b0]) | skip)
                  have H' := Aside0.mk H
                  clear H
                  go_wp2
                  go_meet
                  case rel => exact ⟨_, ((t378 == 2)), eq_, H', ⟨by have := HJ4.out; have := HJ7.out; first | omega | exact Nat.le_refl _⟩, by repeat (first | exact Drawn0.refl _ | apply Drawn0.step)⟩
                · rw [if_neg c13] at H
                  have c13b0 : ((wrap64 (a2 - (wrap64 (2 * a0)))) == 1) = false := beq_eq_false_iff_ne.mpr c13
                  have c13b1 : ((wrap64 (a2 - (wrap64 (2 * a0)))) != 1) = true := bne_iff_ne.mpr c13
                  (first | rw [c13b0] | (simp only [i64_w, i32_w]; rw [c13b0]) | skip)
                  have H' := Aside0.mk H
                  clear H
                  go_wp2
                  go_meet
                  case rel => exact ⟨_, (false), eq_, H', ⟨by have := HJ4.out; have := HJ7.out; first | omega | exact Nat.le_refl _⟩, by repeat (first | exact Drawn0.refl _ | apply Drawn0.step)⟩
              case rest =>
                clear HC12
                try clear c1
                try clear p2
                try clear c3
                try clear c4
                try clear c6
                try clear c6b0
                try clear c6b1
                try clear p6
                try clear c7
                try clear c9
                try clear c9b0
                try clear c10
                try clear c10b0
                try clear c10b1
                try clear c11
                try clear c13
                try clear c13b0
                try clear c13b1
                try clear p2
                try clear p6
                obtain ⟨kq, x31_11, rfl, HA, HJ11, ⟨mc11, rfl⟩⟩ := hcut
                cases kq with
                | zero => exact absurd HA.out (by simp [round_between.j2])
                | succ kj11 =>
                  have H := HA.out
                  clear HA
                  simp only [round_between.j2] at H
                  by_cases c14 : x31_11 = true
                  · subst c14
                    have H1 : (some 2) = some r := by rw [if_pos rfl] at H; exact H
                    clear H
                    have H := H1
                    clear H1
                    obtain rfl := Option.some.inj H
                    go_wp2
                    go_ret
                    exact ⟨by first | rfl | (simp; done) | (simp [*]; done) | (simp; first | exact given_isEmpty _ | exact (given_isEmpty _).symm) | (unfold wrap64; omega) | (congr 1; unfold wrap64; omega), by repeat (first | exact Drawn0.refl _ | apply Drawn0.step)⟩
                  · replace c14 := Bool.eq_false_iff.mpr c14
                    subst c14
                    have H1 : (if (wrap64 (a2 - (wrap64 (2 * a0)))) = 0 then (if t378 = 0 then (some 2) else (some 3)) else (some 3)) = some r := by rw [if_neg (show ¬ (false = true) by decide)] at H; exact H
                    clear H
                    have H := H1
                    clear H1
                    by_cases c15 : (wrap64 (a2 - (wrap64 (2 * a0)))) = 0
                    · rw [if_pos c15] at H
                      have c15b0 : ((wrap64 (a2 - (wrap64 (2 * a0)))) == 0) = true := beq_iff_eq.mpr c15
                      have c15b1 : ((wrap64 (a2 - (wrap64 (2 * a0)))) != 0) = false := bne_eq_false_iff_eq.mpr c15
                      clear c15
                      by_cases c16 : t378 = 0
                      · rw [if_pos c16] at H
                        have c16b0 : (t378 == 0) = true := beq_iff_eq.mpr c16
                        have c16b1 : (t378 != 0) = false := bne_eq_false_iff_eq.mpr c16
                        clear c16
                        obtain rfl := Option.some.inj H
                        go_wp2
                        go_ret
                        exact ⟨by first | rfl | (simp; done) | (simp [*]; done) | (simp; first | exact given_isEmpty _ | exact (given_isEmpty _).symm) | (unfold wrap64; omega) | (congr 1; unfold wrap64; omega), by repeat (first | exact Drawn0.refl _ | apply Drawn0.step)⟩
                      · rw [if_neg c16] at H
                        have c16b0 : (t378 == 0) = false := beq_eq_false_iff_ne.mpr c16
                        have c16b1 : (t378 != 0) = true := bne_iff_ne.mpr c16
                        obtain rfl := Option.some.inj H
                        go_wp2
                        go_ret
                        exact ⟨by first | rfl | (simp; done) | (simp [*]; done) | (simp; first | exact given_isEmpty _ | exact (given_isEmpty _).symm) | (unfold wrap64; omega) | (congr 1; unfold wrap64; omega), by repeat (first | exact Drawn0.refl _ | apply Drawn0.step)⟩
                    · rw [if_neg c15] at H
                      have c15b0 : ((wrap64 (a2 - (wrap64 (2 * a0)))) == 0) = false := beq_eq_false_iff_ne.mpr c15
                      have c15b1 : ((wrap64 (a2 - (wrap64 (2 * a0)))) != 0) = true := bne_iff_ne.mpr c15
                      obtain rfl := Option.some.inj H
                      go_wp2
                      go_ret
                      exact ⟨by first | rfl | (simp; done) | (simp [*]; done) | (simp; first | exact given_isEmpty _ | exact (given_isEmpty _).symm) | (unfold wrap64; omega) | (congr 1; unfold wrap64; omega), by repeat (first | exact Drawn0.refl _ | apply Drawn0.step)⟩

end Go.Proofs.YtoegmienlhgjnaaDoor.P
