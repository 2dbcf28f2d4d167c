-- written by a program of this session (wip/p2)
import Derived.Test.YthkpmiajcmihjaaGreatDoorPx0
import Derived.Test.YthkpmiajcmihjaaGreatDoorPx2
import Derived.Test.YthkpmiajcmihjaaGreatDoorPx4
namespace Go.Proofs.YthkpmiajcmihjaaGreatDoor.P
open Go.RowKit Go.Proofs.YthkpmiajcmihjaaGreatDoorW.PrintWords Go.Proofs.YthkpmiajcmihjaaGreatDoorW.PrintLast Go.Proofs.YthkpmiajcmihjaaGreatDoorW.PrintMore
attribute [local go_sem] max2_int min2_int max_two min_two max_three min_three max_four min_four   -- for this text's walks alone
set_option linter.unusedVariables false
set_option linter.unusedSimpArgs false

/-! ### florinlaw04_unit: function 15 -/
def florinlaw04_unit.f (k : Nat) (a0_0 : Int) (a0_1 : Int) (a0_2 : Int) (a0_3 : Bool) (a0_4 : ByteArray) (a0_5 : Int) (a0_6 : Int) (a0_7 : Int) (a1_0 : Bool) (a1_1 : ByteArray) (a1_2 : Int) : Option (Bool × ByteArray × Int) := if a0_0 = 0 then ((dec_Made.f k false (⟨#[49]⟩ : ByteArray) (wrap64 (-a0_2))).bind fun bt448 => (some (bt448.1, bt448.2.1, bt448.2.2))) else (if a0_0 = 1 then ((dec_Dec_Mag.f k a1_0 a1_1 a1_2).bind fun bt451 => ((dec_Made.f k false (⟨#[49]⟩ : ByteArray) (wrap64 ((wrap64 (bt451.1 - a0_2)) + 1))).bind fun bt453 => (some (bt453.1, bt453.2.1, bt453.2.2)))) else (some (a0_3, a0_4, a0_5)))
theorem florinlaw04_unit.mono : ∀ a0 a1 a2 a3 a4 a5 a6 a7 a8 a9 a10 k, LeO (florinlaw04_unit.f k a0 a1 a2 a3 a4 a5 a6 a7 a8 a9 a10) (florinlaw04_unit.f (k + 1) a0 a1 a2 a3 a4 a5 a6 a7 a8 a9 a10) := by
  intro a0 a1 a2 a3 a4 a5 a6 a7 a8 a9 a10 k
  unfold florinlaw04_unit.f
  repeat' first
      | (with_reducible exact dec_Dec_Mag.mono _ _ _ _)
      | (with_reducible exact dec_Made.mono _ _ _ _)
      | (with_reducible exact LeO.refl _)
      | (with_reducible exact LeO.none _)
      | (with_reducible refine LeO.ite ?_ ?_)
      | (with_reducible refine LeO.bind ?_ (fun _ => ?_))
      | exact dec_Dec_Mag.mono _ _ _ _
      | exact dec_Made.mono _ _ _ _
      | exact LeO.none _
      | refine LeO.ite ?_ ?_
      | refine LeO.bind ?_ (fun _ => ?_)
set_option maxHeartbeats 8000000 in
set_option maxRecDepth 100000 in
theorem florinlaw04_unit.calls (k : Nat) (a0_0 : Int) (a0_1 : Int) (a0_2 : Int) (a0_3 : Bool) (a0_4 : ByteArray) (a0_5 : Int) (a0_6 : Int) (a0_7 : Int) (a1_0 : Bool) (a1_1 : ByteArray) (a1_2 : Int) (r1 : Bool) (r2 : ByteArray) (r3 : Int) (w : World) (h : florinlaw04_unit.f k a0_0 a0_1 a0_2 a0_3 a0_4 a0_5 a0_6 a0_7 a1_0 a1_1 a1_2 = some (r1, r2, r3)) :
    Calls Tryz.prog 15 #[.agg #[.int .i64 a0_0, .int .i64 a0_1, .int .i64 a0_2, .bool a0_3, .string a0_4, .int .i64 a0_5, .int .i64 a0_6, .int .i64 a0_7], .agg #[.bool a1_0, .string a1_1, .int .i64 a1_2]] w fun e w' => e = .returned (.agg #[.bool r1, .string r2, .int .i64 r3]) ∧ Below w.heap.size w w' := by
  have hu34 := Tryz.underlying34
  have hu31 := Tryz.underlying31
  have HB := Aside0.mk (Below.refl w.heap.size w)
  have H : (if a0_0 = 0 then ((dec_Made.f k false (⟨#[49]⟩ : ByteArray) (wrap64 (-a0_2))).bind fun bt448 => (some (bt448.1, bt448.2.1, bt448.2.2))) else (if a0_0 = 1 then ((dec_Dec_Mag.f k a1_0 a1_1 a1_2).bind fun bt451 => ((dec_Made.f k false (⟨#[49]⟩ : ByteArray) (wrap64 ((wrap64 (bt451.1 - a0_2)) + 1))).bind fun bt453 => (some (bt453.1, bt453.2.1, bt453.2.2)))) else (some (a0_3, a0_4, a0_5)))) = some (r1, r2, r3) := h
  clear h
  by_cases c3 : a0_0 = 0
  · rw [if_pos c3] at H
    have c3b0 : (a0_0 == 0) = true := beq_iff_eq.mpr c3
    have c3b1 : (a0_0 != 0) = false := bne_eq_false_iff_eq.mpr c3
    clear c3
    replace H := Option.bind_eq_some_iff.mp H
    obtain ⟨⟨t448, t449, t450⟩, A40, H⟩ := H
    replace H : (some (t448, t449, t450)) = some (r1, r2, r3) := H
    have A4 := Aside0.mk A40
    clear A40
    simp only [Option.some.injEq, Prod.mk.injEq] at H
    obtain ⟨rfl, rfl, rfl⟩ := H
    go_enter Tryz.func15, Tryz.ntmps15
    go_wp2_with (first | ((with_reducible refine gate_dst (N := 2) rfl ?_); refine be_ 2 #[.int .i64 a0_0, .int .i64 a0_1, .int .i64 a0_2, .bool a0_3, .string a0_4, .int .i64 a0_5, .int .i64 a0_6, .int .i64 a0_7] 34 ?_; intro gb445 hg w5 hbox hb; have BK445 := Aside0.mk (hbox); have GW445 := sz_ HB hg; have GE445 := sz_ HB hg; replace HB := Aside0.mk (below_step (bl_ HB).out hb); clear hb hbox hg) | ((with_reducible refine gate_dst (N := 3) rfl ?_); refine be_ 3 #[.bool a1_0, .string a1_1, .int .i64 a1_2] 31 ?_; intro gb446 hg w6 hbox hb; have BK446 := Aside0.mk (hbox); have GW446 := sz_ HB hg; have GE446 := sz_ HB hg; have NB445_446 := na_ BK445 hg; have NB446_445 := nb_ BK445 hg; replace BK445 := bb_ BK445 hb; replace HB := Aside0.mk (below_step (bl_ HB).out hb); clear hb hbox hg) | ((with_reducible refine gate_dst (N := 4) rfl ?_); refine be_ 4 #[.bool false, .string (⟨#[]⟩ : ByteArray), .int .i64 0] 31 ?_; intro gb447 hg w7 hbox hb; have BK447 := Aside0.mk (hbox); have GW447 := sz_ HB hg; have GE447 := sz_ HB hg; have NB445_447 := na_ BK445 hg; have NB447_445 := nb_ BK445 hg; have NB446_447 := na_ BK446 hg; have NB447_446 := nb_ BK446 hg; replace BK445 := bb_ BK445 hb; replace BK446 := bb_ BK446 hb; replace HB := Aside0.mk (below_step (bl_ HB).out hb); clear hb hbox hg; have hnb8 := NB445_446.out; have hnc8 := NB446_445.out; have hnb9 := NB445_447.out; have hnc9 := NB447_445.out; obtain ⟨hcz10_0, hcz10_1, hcz10_2, hcz10_3, hcz10_4, hcz10_5, hcz10_6, hcz10_7, hfz10_0, hfz10_1, hfz10_2, hfz10_3, hfz10_4, hfz10_5, hfz10_6, hfz10_7⟩ := bo8_ BK445) | ((with_reducible refine gate_callee (f := 16) rfl ?_); refine gl_ (some 14) Tryz.func16 #[.bool false, .string (⟨#[49]⟩ : ByteArray), .int .i64 (wrap64 (-a0_2))] ?_; (with_reducible refine (dec_Made.calls k false (⟨#[49]⟩ : ByteArray) (wrap64 (-a0_2)) t448 t449 t450 _ A4.out).mono ?_); rintro e w11 ⟨rfl, hb⟩; refine ⟨_, rfl, ?_⟩; replace BK445 := bb_ BK445 hb; replace BK446 := bb_ BK446 hb; replace BK447 := bb_ BK447 hb; replace HB := Aside0.mk (below_step (bl_ HB).out hb); (try clear hb); (try clear hb2); (try clear hk); (try clear hi); have hnb12 := NB447_446.out; have hnc12 := NB446_447.out; obtain ⟨hcz13_0, hcz13_1, hcz13_2, hfz13_0, hfz13_1, hfz13_2⟩ := bo3_ BK447))
    refine bodyPost_ret (results_cell_row rfl _ _ gb447 31 #[.bool t448, .string t449, .int .i64 t450] (0, 0) _ rfl (by (with_reducible repeat (first | refine blk_drewN ?_ _ | refine blk_drew ?_ | refine blk_alloc ?_ _)); refine blk_put (cs := #[.bool t448, .string t449, .int .i64 0]) ?_ 2 _ rfl; (with_reducible repeat (first | refine blk_drewN ?_ _ | refine blk_drew ?_ | refine blk_alloc ?_ _)); refine blk_put (cs := #[.bool t448, .string (⟨#[]⟩ : ByteArray), .int .i64 0]) ?_ 1 _ rfl; (with_reducible repeat (first | refine blk_drewN ?_ _ | refine blk_drew ?_ | refine blk_alloc ?_ _)); refine blk_put (cs := #[.bool false, .string (⟨#[]⟩ : ByteArray), .int .i64 0]) ?_ 0 _ rfl; (with_reducible repeat (first | refine blk_drewN ?_ _ | refine blk_drew ?_ | refine blk_alloc ?_ _)); exact BK447.out) Tryz.underlying31 rfl (by kernel_rfl)) rfl ?_
    exact ⟨ew_, (bl_ HB).out⟩
  · rw [if_neg c3] at H
    have c3b0 : (a0_0 == 0) = false := beq_eq_false_iff_ne.mpr c3
    have c3b1 : (a0_0 != 0) = true := bne_iff_ne.mpr c3
    by_cases c14 : a0_0 = 1
    · rw [if_pos c14] at H
      have c14b0 : (a0_0 == 1) = true := beq_iff_eq.mpr c14
      have c14b1 : (a0_0 != 1) = false := bne_eq_false_iff_eq.mpr c14
      clear c14
      replace H := Option.bind_eq_some_iff.mp H
      obtain ⟨⟨t451, t452⟩, A150, H⟩ := H
      replace H : ((dec_Made.f k false (⟨#[49]⟩ : ByteArray) (wrap64 ((wrap64 (t451 - a0_2)) + 1))).bind fun bt453 => (some (bt453.1, bt453.2.1, bt453.2.2))) = some (r1, r2, r3) := H
      have A15 := Aside0.mk A150
      clear A150
      replace H := Option.bind_eq_some_iff.mp H
      obtain ⟨⟨t453, t454, t455⟩, A160, H⟩ := H
      replace H : (some (t453, t454, t455)) = some (r1, r2, r3) := H
      have A16 := Aside0.mk A160
      clear A160
      simp only [Option.some.injEq, Prod.mk.injEq] at H
      obtain ⟨rfl, rfl, rfl⟩ := H
      go_enter Tryz.func15, Tryz.ntmps15
      go_wp2_with (first | ((with_reducible refine gate_dst (N := 2) rfl ?_); refine be_ 2 #[.int .i64 a0_0, .int .i64 a0_1, .int .i64 a0_2, .bool a0_3, .string a0_4, .int .i64 a0_5, .int .i64 a0_6, .int .i64 a0_7] 34 ?_; intro gb445 hg w17 hbox hb; have BK445 := Aside0.mk (hbox); have GW445 := sz_ HB hg; have GE445 := sz_ HB hg; replace HB := Aside0.mk (below_step (bl_ HB).out hb); clear hb hbox hg) | ((with_reducible refine gate_dst (N := 3) rfl ?_); refine be_ 3 #[.bool a1_0, .string a1_1, .int .i64 a1_2] 31 ?_; intro gb446 hg w18 hbox hb; have BK446 := Aside0.mk (hbox); have GW446 := sz_ HB hg; have GE446 := sz_ HB hg; have NB445_446 := na_ BK445 hg; have NB446_445 := nb_ BK445 hg; replace BK445 := bb_ BK445 hb; replace HB := Aside0.mk (below_step (bl_ HB).out hb); clear hb hbox hg) | ((with_reducible refine gate_dst (N := 4) rfl ?_); refine be_ 4 #[.bool false, .string (⟨#[]⟩ : ByteArray), .int .i64 0] 31 ?_; intro gb447 hg w19 hbox hb; have BK447 := Aside0.mk (hbox); have GW447 := sz_ HB hg; have GE447 := sz_ HB hg; have NB445_447 := na_ BK445 hg; have NB447_445 := nb_ BK445 hg; have NB446_447 := na_ BK446 hg; have NB447_446 := nb_ BK446 hg; replace BK445 := bb_ BK445 hb; replace BK446 := bb_ BK446 hb; replace HB := Aside0.mk (below_step (bl_ HB).out hb); clear hb hbox hg; have hnb20 := NB445_446.out; have hnc20 := NB446_445.out; have hnb21 := NB445_447.out; have hnc21 := NB447_445.out; obtain ⟨hcz22_0, hcz22_1, hcz22_2, hcz22_3, hcz22_4, hcz22_5, hcz22_6, hcz22_7, hfz22_0, hfz22_1, hfz22_2, hfz22_3, hfz22_4, hfz22_5, hfz22_6, hfz22_7⟩ := bo8_ BK445; have hnb23 := NB446_447.out; have hnc23 := NB447_446.out; obtain ⟨hcz24_0, hcz24_1, hcz24_2, hfz24_0, hfz24_1, hfz24_2⟩ := bo3_ BK446) | ((with_reducible refine gate_callee (f := 37) rfl ?_); refine gl_ (some 19) Tryz.func37 #[.agg #[.bool a1_0, .string a1_1, .int .i64 a1_2]] ?_; (with_reducible refine (dec_Dec_Mag.calls k a1_0 a1_1 a1_2 t451 t452 _ A15.out).mono ?_); rintro e w25 ⟨rfl, hb⟩; refine ⟨_, rfl, ?_⟩; replace BK445 := bb_ BK445 hb; replace BK446 := bb_ BK446 hb; replace BK447 := bb_ BK447 hb; replace HB := Aside0.mk (below_step (bl_ HB).out hb); (try clear hb); (try clear hb2); (try clear hk); (try clear hi); obtain ⟨hcz26_0, hcz26_1, hcz26_2, hcz26_3, hcz26_4, hcz26_5, hcz26_6, hcz26_7, hfz26_0, hfz26_1, hfz26_2, hfz26_3, hfz26_4, hfz26_5, hfz26_6, hfz26_7⟩ := bo8_ BK445) | ((with_reducible refine gate_callee (f := 16) rfl ?_); refine gl_ (some 27) Tryz.func16 #[.bool false, .string (⟨#[49]⟩ : ByteArray), .int .i64 (wrap64 ((wrap64 (t451 - a0_2)) + 1))] ?_; (with_reducible refine (dec_Made.calls k false (⟨#[49]⟩ : ByteArray) (wrap64 ((wrap64 (t451 - a0_2)) + 1)) t453 t454 t455 _ A16.out).mono ?_); rintro e w27 ⟨rfl, hb⟩; refine ⟨_, rfl, ?_⟩; replace BK445 := bb_ BK445 hb; replace BK446 := bb_ BK446 hb; replace BK447 := bb_ BK447 hb; replace HB := Aside0.mk (below_step (bl_ HB).out hb); (try clear hb); (try clear hb2); (try clear hk); (try clear hi); obtain ⟨hcz28_0, hcz28_1, hcz28_2, hfz28_0, hfz28_1, hfz28_2⟩ := bo3_ BK447))
      refine bodyPost_ret (results_cell_row rfl _ _ gb447 31 #[.bool t453, .string t454, .int .i64 t455] (0, 0) _ rfl (by (with_reducible repeat (first | refine blk_drewN ?_ _ | refine blk_drew ?_ | refine blk_alloc ?_ _)); refine blk_put (cs := #[.bool t453, .string t454, .int .i64 0]) ?_ 2 _ rfl; (with_reducible repeat (first | refine blk_drewN ?_ _ | refine blk_drew ?_ | refine blk_alloc ?_ _)); refine blk_put (cs := #[.bool t453, .string (⟨#[]⟩ : ByteArray), .int .i64 0]) ?_ 1 _ rfl; (with_reducible repeat (first | refine blk_drewN ?_ _ | refine blk_drew ?_ | refine blk_alloc ?_ _)); refine blk_put (cs := #[.bool false, .string (⟨#[]⟩ : ByteArray), .int .i64 0]) ?_ 0 _ rfl; (with_reducible repeat (first | refine blk_drewN ?_ _ | refine blk_drew ?_ | refine blk_alloc ?_ _)); exact BK447.out) Tryz.underlying31 rfl (by kernel_rfl)) rfl ?_
      exact ⟨ew_, (bl_ HB).out⟩
    · rw [if_neg c14] at H
      have c14b0 : (a0_0 == 1) = false := beq_eq_false_iff_ne.mpr c14
      have c14b1 : (a0_0 != 1) = true := bne_iff_ne.mpr c14
      simp only [Option.some.injEq, Prod.mk.injEq] at H
      obtain ⟨rfl, rfl, rfl⟩ := H
      go_enter Tryz.func15, Tryz.ntmps15
      go_wp2_with (first | ((with_reducible refine gate_dst (N := 2) rfl ?_); refine be_ 2 #[.int .i64 a0_0, .int .i64 a0_1, .int .i64 a0_2, .bool a0_3, .string a0_4, .int .i64 a0_5, .int .i64 a0_6, .int .i64 a0_7] 34 ?_; intro gb445 hg w29 hbox hb; have BK445 := Aside0.mk (hbox); have GW445 := sz_ HB hg; have GE445 := sz_ HB hg; replace HB := Aside0.mk (below_step (bl_ HB).out hb); clear hb hbox hg) | ((with_reducible refine gate_dst (N := 3) rfl ?_); refine be_ 3 #[.bool a1_0, .string a1_1, .int .i64 a1_2] 31 ?_; intro gb446 hg w30 hbox hb; have BK446 := Aside0.mk (hbox); have GW446 := sz_ HB hg; have GE446 := sz_ HB hg; have NB445_446 := na_ BK445 hg; have NB446_445 := nb_ BK445 hg; replace BK445 := bb_ BK445 hb; replace HB := Aside0.mk (below_step (bl_ HB).out hb); clear hb hbox hg) | ((with_reducible refine gate_dst (N := 4) rfl ?_); refine be_ 4 #[.bool false, .string (⟨#[]⟩ : ByteArray), .int .i64 0] 31 ?_; intro gb447 hg w31 hbox hb; have BK447 := Aside0.mk (hbox); have GW447 := sz_ HB hg; have GE447 := sz_ HB hg; have NB445_447 := na_ BK445 hg; have NB447_445 := nb_ BK445 hg; have NB446_447 := na_ BK446 hg; have NB447_446 := nb_ BK446 hg; replace BK445 := bb_ BK445 hb; replace BK446 := bb_ BK446 hb; replace HB := Aside0.mk (below_step (bl_ HB).out hb); clear hb hbox hg; have hnb32 := NB445_446.out; have hnc32 := NB446_445.out; have hnb33 := NB445_447.out; have hnc33 := NB447_445.out; obtain ⟨hcz34_0, hcz34_1, hcz34_2, hcz34_3, hcz34_4, hcz34_5, hcz34_6, hcz34_7, hfz34_0, hfz34_1, hfz34_2, hfz34_3, hfz34_4, hfz34_5, hfz34_6, hfz34_7⟩ := bo8_ BK445; have hnb35 := NB447_446.out; have hnc35 := NB446_447.out; obtain ⟨hcz36_0, hcz36_1, hcz36_2, hfz36_0, hfz36_1, hfz36_2⟩ := bo3_ BK447))
      refine bodyPost_ret (results_cell_row rfl _ _ gb447 31 #[.bool a0_3, .string a0_4, .int .i64 a0_5] (0, 0) _ rfl (by (with_reducible repeat (first | refine blk_drewN ?_ _ | refine blk_drew ?_ | refine blk_alloc ?_ _)); refine blk_put (cs := #[.bool a0_3, .string a0_4, .int .i64 0]) ?_ 2 _ rfl; (with_reducible repeat (first | refine blk_drewN ?_ _ | refine blk_drew ?_ | refine blk_alloc ?_ _)); refine blk_put (cs := #[.bool a0_3, .string (⟨#[]⟩ : ByteArray), .int .i64 0]) ?_ 1 _ rfl; (with_reducible repeat (first | refine blk_drewN ?_ _ | refine blk_drew ?_ | refine blk_alloc ?_ _)); refine blk_put (cs := #[.bool false, .string (⟨#[]⟩ : ByteArray), .int .i64 0]) ?_ 0 _ rfl; (with_reducible repeat (first | refine blk_drewN ?_ _ | refine blk_drew ?_ | refine blk_alloc ?_ _)); exact BK447.out) Tryz.underlying31 rfl (by kernel_rfl)) rfl ?_
      exact ⟨ew_, (bl_ HB).out⟩

end Go.Proofs.YthkpmiajcmihjaaGreatDoor.P
