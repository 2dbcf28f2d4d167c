-- written by a program of this session (wip/p2)
import Derived.Test.YthkpmiajcmihjaaDoorPx0
import Derived.Test.YthkpmiajcmihjaaDoorPx3
import Derived.Test.YthkpmiajcmihjaaDoorPx4
import Derived.Test.YthkpmiajcmihjaaDoorPx5
import Derived.Test.YthkpmiajcmihjaaDoorPx20
namespace Go.Proofs.YthkpmiajcmihjaaDoor.P
open Go.RowKit Go.Proofs.YthkpmiajcmihjaaDoorW.PrintWords Go.Proofs.YthkpmiajcmihjaaDoorW.PrintLast Go.Proofs.YthkpmiajcmihjaaDoorW.PrintMore
attribute [local go_sem] max2_int min2_int max_two min_two max_three min_three max_four min_four   -- for this text's walks alone
set_option linter.unusedVariables false
set_option linter.unusedSimpArgs false

/-! ### dec_Add: function 68 -/
def dec_Add.f (k : Nat) (a0_0 : Bool) (a0_1 : ByteArray) (a0_2 : Int) (a1_0 : Bool) (a1_1 : ByteArray) (a1_2 : Int) : Option (Bool × ByteArray × Int) := (dec_Dec_Norm.f k a0_0 a0_1 a0_2).bind fun bt500 => ((dec_Dec_Norm.f k a1_0 a1_1 a1_2).bind fun bt503 => ((dec_both.f bt500.1 bt500.2.1 bt500.2.2 bt503.1 bt503.2.1 bt503.2.2).bind fun bt506 => (if (bt500.1 == bt503.1) = true then ((num_Add.f k bt506.1 bt506.2.1).bind fun t509 => ((dec_Made.f k bt500.1 t509 bt506.2.2).bind fun bt510 => (some (bt510.1, bt510.2.1, bt510.2.2)))) else ((num_Sub.f k bt506.1 bt506.2.1).bind fun bt513 => (if bt513.2 = true then ((dec_Made.f k bt500.1 bt513.1 bt506.2.2).bind fun bt515 => (some (bt515.1, bt515.2.1, bt515.2.2))) else ((num_Sub.f k bt506.2.1 bt506.1).bind fun bt518 => ((dec_Made.f k bt503.1 bt518.1 bt506.2.2).bind fun bt520 => (some (bt520.1, bt520.2.1, bt520.2.2)))))))))
theorem dec_Add.mono : ∀ a0 a1 a2 a3 a4 a5 k, LeO (dec_Add.f k a0 a1 a2 a3 a4 a5) (dec_Add.f (k + 1) a0 a1 a2 a3 a4 a5) := by
  intro a0 a1 a2 a3 a4 a5 k
  unfold dec_Add.f
  repeat' first
      | (with_reducible exact dec_Dec_Norm.mono _ _ _ _)
      | (with_reducible exact dec_Made.mono _ _ _ _)
      | (with_reducible exact num_Add.mono _ _ _)
      | (with_reducible exact num_Sub.mono _ _ _)
      | (with_reducible exact LeO.refl _)
      | (with_reducible exact LeO.none _)
      | (with_reducible refine LeO.ite ?_ ?_)
      | (with_reducible refine LeO.bind ?_ (fun _ => ?_))
      | exact dec_Dec_Norm.mono _ _ _ _
      | exact dec_Made.mono _ _ _ _
      | exact num_Add.mono _ _ _
      | exact num_Sub.mono _ _ _
      | exact LeO.none _
      | refine LeO.ite ?_ ?_
      | refine LeO.bind ?_ (fun _ => ?_)
def dec_Add.T4 : Bool × List (List Nat × List Nat) := (true, [([], []), ([0], [0]), ([], []), ([], []), ([2, 3], [2, 3]), ([], []), ([1, 4, 5, 4], [1, 4, 5]), ([6, 6, 0, 1, 2, 3, 4, 5, 6], [6])])
def dec_Add.B4 : List Nat := [0, 1, 0, 0, 12, 0, 63, 127]
theorem dec_Add.tab4 : rtab .any (opsOf Tryd.f68 4) = dec_Add.T4 := by kernel_rfl
theorem dec_Add.bits4 : waitsOk dec_Add.T4.2 dec_Add.B4 = true := by kernel_rfl
set_option maxHeartbeats 8000000 in
set_option maxRecDepth 100000 in
theorem dec_Add.calls (k : Nat) (a0_0 : Bool) (a0_1 : ByteArray) (a0_2 : Int) (a1_0 : Bool) (a1_1 : ByteArray) (a1_2 : Int) (r1 : Bool) (r2 : ByteArray) (r3 : Int) (w : World) (h : dec_Add.f k a0_0 a0_1 a0_2 a1_0 a1_1 a1_2 = some (r1, r2, r3)) :
    Calls Tryd.prog 68 #[.agg #[.bool a0_0, .string a0_1, .int .i64 a0_2], .agg #[.bool a1_0, .string a1_1, .int .i64 a1_2]] w fun e w' => e = .returned (.agg #[.bool r1, .string r2, .int .i64 r3]) ∧ Below w.heap.size w w' := by
  have hu29 := Tryd.underlying29
  have HB := Aside0.mk (Below.refl w.heap.size w)
  have H : ((dec_Dec_Norm.f k a0_0 a0_1 a0_2).bind fun bt500 => ((dec_Dec_Norm.f k a1_0 a1_1 a1_2).bind fun bt503 => ((dec_both.f bt500.1 bt500.2.1 bt500.2.2 bt503.1 bt503.2.1 bt503.2.2).bind fun bt506 => (if (bt500.1 == bt503.1) = true then ((num_Add.f k bt506.1 bt506.2.1).bind fun t509 => ((dec_Made.f k bt500.1 t509 bt506.2.2).bind fun bt510 => (some (bt510.1, bt510.2.1, bt510.2.2)))) else ((num_Sub.f k bt506.1 bt506.2.1).bind fun bt513 => (if bt513.2 = true then ((dec_Made.f k bt500.1 bt513.1 bt506.2.2).bind fun bt515 => (some (bt515.1, bt515.2.1, bt515.2.2))) else ((num_Sub.f k bt506.2.1 bt506.1).bind fun bt518 => ((dec_Made.f k bt503.1 bt518.1 bt506.2.2).bind fun bt520 => (some (bt520.1, bt520.2.1, bt520.2.2)))))))))) = some (r1, r2, r3) := h
  clear h
  replace H := Option.bind_eq_some_iff.mp H
  obtain ⟨⟨t500, t501, t502⟩, A30, H⟩ := H
  replace H : ((dec_Dec_Norm.f k a1_0 a1_1 a1_2).bind fun bt503 => ((dec_both.f t500 t501 t502 bt503.1 bt503.2.1 bt503.2.2).bind fun bt506 => (if (t500 == bt503.1) = true then ((num_Add.f k bt506.1 bt506.2.1).bind fun t509 => ((dec_Made.f k t500 t509 bt506.2.2).bind fun bt510 => (some (bt510.1, bt510.2.1, bt510.2.2)))) else ((num_Sub.f k bt506.1 bt506.2.1).bind fun bt513 => (if bt513.2 = true then ((dec_Made.f k t500 bt513.1 bt506.2.2).bind fun bt515 => (some (bt515.1, bt515.2.1, bt515.2.2))) else ((num_Sub.f k bt506.2.1 bt506.1).bind fun bt518 => ((dec_Made.f k bt503.1 bt518.1 bt506.2.2).bind fun bt520 => (some (bt520.1, bt520.2.1, bt520.2.2))))))))) = some (r1, r2, r3) := H
  have A3 := Aside0.mk A30
  clear A30
  replace H := Option.bind_eq_some_iff.mp H
  obtain ⟨⟨t503, t504, t505⟩, A40, H⟩ := H
  replace H : ((dec_both.f t500 t501 t502 t503 t504 t505).bind fun bt506 => (if (t500 == t503) = true then ((num_Add.f k bt506.1 bt506.2.1).bind fun t509 => ((dec_Made.f k t500 t509 bt506.2.2).bind fun bt510 => (some (bt510.1, bt510.2.1, bt510.2.2)))) else ((num_Sub.f k bt506.1 bt506.2.1).bind fun bt513 => (if bt513.2 = true then ((dec_Made.f k t500 bt513.1 bt506.2.2).bind fun bt515 => (some (bt515.1, bt515.2.1, bt515.2.2))) else ((num_Sub.f k bt506.2.1 bt506.1).bind fun bt518 => ((dec_Made.f k t503 bt518.1 bt506.2.2).bind fun bt520 => (some (bt520.1, bt520.2.1, bt520.2.2)))))))) = some (r1, r2, r3) := H
  have A4 := Aside0.mk A40
  clear A40
  replace H := Option.bind_eq_some_iff.mp H
  obtain ⟨⟨t506, t507, t508⟩, A50, H⟩ := H
  replace H : (if (t500 == t503) = true then ((num_Add.f k t506 t507).bind fun t509 => ((dec_Made.f k t500 t509 t508).bind fun bt510 => (some (bt510.1, bt510.2.1, bt510.2.2)))) else ((num_Sub.f k t506 t507).bind fun bt513 => (if bt513.2 = true then ((dec_Made.f k t500 bt513.1 t508).bind fun bt515 => (some (bt515.1, bt515.2.1, bt515.2.2))) else ((num_Sub.f k t507 t506).bind fun bt518 => ((dec_Made.f k t503 bt518.1 t508).bind fun bt520 => (some (bt520.1, bt520.2.1, bt520.2.2))))))) = some (r1, r2, r3) := H
  have A5 := Aside0.mk A50
  clear A50
  by_cases c6 : (t500 == t503) = true
  · rw [if_pos c6] at H
    have c6b0 : (t500 == t503) = true := c6
    (try (have c6b1 : decide (t500 = t503) = true := by simpa using c6))
    (try (have c6b2 : (t500 == t503) = true := by simpa using c6))
    clear c6
    replace H := Option.bind_eq_some_iff.mp H
    obtain ⟨t509, A70, H⟩ := H
    replace H : ((dec_Made.f k t500 t509 t508).bind fun bt510 => (some (bt510.1, bt510.2.1, bt510.2.2))) = some (r1, r2, r3) := H
    have A7 := Aside0.mk A70
    clear A70
    replace H := Option.bind_eq_some_iff.mp H
    obtain ⟨⟨t510, t511, t512⟩, A80, H⟩ := H
    replace H : (some (t510, t511, t512)) = some (r1, r2, r3) := H
    have A8 := Aside0.mk A80
    clear A80
    simp only [Option.some.injEq, Prod.mk.injEq] at H
    obtain ⟨rfl, rfl, rfl⟩ := H
    go_enter Tryd.func68, Tryd.ntmps68
    try go_wp2_with (first | ((with_reducible refine gate_dst (N := 2) rfl ?_); refine be_ 2 #[.bool a0_0, .string a0_1, .int .i64 a0_2] 29 ?_; intro gb497 hg w9 hbox hb; have BK497 := Aside0.mk (hbox); have GW497 := sz_ HB hg; have GE497 := sz_ HB hg; replace HB := Aside0.mk (below_step (bl_ HB).out hb); clear hb hbox hg) | ((with_reducible refine gate_dst (N := 3) rfl ?_); refine be_ 3 #[.bool a1_0, .string a1_1, .int .i64 a1_2] 29 ?_; intro gb498 hg w10 hbox hb; have BK498 := Aside0.mk (hbox); have GW498 := sz_ HB hg; have GE498 := sz_ HB hg; have NB497_498 := na_ BK497 hg; have NB498_497 := nb_ BK497 hg; replace BK497 := bb_ BK497 hb; replace HB := Aside0.mk (below_step (bl_ HB).out hb); clear hb hbox hg) | ((with_reducible refine gate_dst (N := 4) rfl ?_); refine be_ 4 #[.bool false, .string (⟨#[]⟩ : ByteArray), .int .i64 0] 29 ?_; intro gb499 hg w11 hbox hb; have BK499 := Aside0.mk (hbox); have GW499 := sz_ HB hg; have GE499 := sz_ HB hg; have NB497_499 := na_ BK497 hg; have NB499_497 := nb_ BK497 hg; have NB498_499 := na_ BK498 hg; have NB499_498 := nb_ BK498 hg; replace BK497 := bb_ BK497 hb; replace BK498 := bb_ BK498 hb; replace HB := Aside0.mk (below_step (bl_ HB).out hb); clear hb hbox hg))
    replace BK497 := Aside0.mk (blk_drew BK497.out)
    replace BK498 := Aside0.mk (blk_drew BK498.out)
    replace BK499 := Aside0.mk (blk_drew BK499.out)
    replace HB := Aside0.mk (below_drew1 HB.out)
    refine start_ (n := 6) (S := fun w' => w'.cell? ⟨gb497, 0, none⟩ = some (.bool a0_0) ∧ w'.cell? ⟨gb497, 1, none⟩ = some (.string a0_1) ∧ w'.cell? ⟨gb497, 2, none⟩ = some (.int .i64 a0_2) ∧ w'.cell? ⟨gb498, 0, none⟩ = some (.bool a1_0) ∧ w'.cell? ⟨gb498, 1, none⟩ = some (.string a1_1) ∧ w'.cell? ⟨gb498, 2, none⟩ = some (.int .i64 a1_2)) (ds := [4, 5]) #[false, false, false, false, false, false] (by kernel_rfl) rfl rfl ⟨bc_ BK497 0, bc_ BK497 1, bc_ BK497 2, bc_ BK498 0, bc_ BK498 1, bc_ BK498 2⟩ (fun hHeld => ?_)
    generalize w11.drew = w12 at BK497 BK498 BK499 HB hHeld ⊢
    refine tk0_ 0 12 #[true, false, false, false, false, false] hHeld rfl (by rintro w' ⟨s0, s1, s2, s3, s4, s5⟩; go_simp; with_reducible rfl) ?_
    refine tk0_ 2 14 #[true, false, true, false, false, false] hHeld rfl (by rintro w' ⟨s0, s1, s2, s3, s4, s5⟩; go_simp; with_reducible rfl) ?_
    refine one_ (i := 1) (N := some 13) #[true, true, true, false, false, false] rfl rfl (by kernel_rfl) (by decide) (fun K hK => ?_)
    refine gs_ Tryd.func10 #[.agg #[.bool a0_0, .string a0_1, .int .i64 a0_2]] ?_
    with_reducible refine (dec_Dec_Norm.calls k a0_0 a0_1 a0_2 t500 t501 t502 _ A3.out).mono ?_
    rintro e w13 ⟨rfl, hb⟩
    refine ⟨_, rfl, ?_⟩
    replace BK497 := bb_ BK497 hb
    replace BK498 := bb_ BK498 hb
    replace BK499 := bb_ BK499 hb
    replace HB := Aside0.mk (below_step (bl_ HB).out hb)
    (try clear hb)
    (try clear hb2)
    (try clear hk)
    (try clear hi)
    refine hK.out _ _ ⟨bc_ BK497 0, bc_ BK497 1, bc_ BK497 2, bc_ BK498 0, bc_ BK498 1, bc_ BK498 2⟩ (fun hHeld => ?_)
    clear hK K
    refine nm_ 13 ?_
    refine one_ (i := 3) (N := some 15) #[true, true, true, true, false, false] rfl rfl (by kernel_rfl) (by decide) (fun K hK => ?_)
    refine gs_ Tryd.func10 #[.agg #[.bool a1_0, .string a1_1, .int .i64 a1_2]] ?_
    with_reducible refine (dec_Dec_Norm.calls k a1_0 a1_1 a1_2 t503 t504 t505 _ A4.out).mono ?_
    rintro e w14 ⟨rfl, hb⟩
    refine ⟨_, rfl, ?_⟩
    replace BK497 := bb_ BK497 hb
    replace BK498 := bb_ BK498 hb
    replace BK499 := bb_ BK499 hb
    replace HB := Aside0.mk (below_step (bl_ HB).out hb)
    (try clear hb)
    (try clear hb2)
    (try clear hk)
    (try clear hi)
    refine hK.out _ _ ⟨bc_ BK497 0, bc_ BK497 1, bc_ BK497 2, bc_ BK498 0, bc_ BK498 1, bc_ BK498 2⟩ (fun hHeld => ?_)
    clear hK K
    refine nm_ 15 ?_
    refine last_ (i := 4) (N := none) #[true, true, true, true, true, false] rfl rfl (by kernel_rfl) (by decide) (fun K hK => ?_)
    have hs15 : w14.cell? ⟨gb497, 0, none⟩ = some (.bool a0_0) := bc_ BK497 0
    have hfs15 := blk_frozen BK497.out 0
    have hns15_1 := NB498_497.out
    have hns15_2 := NB499_497.out
    have hms15_1 := NB497_498.out
    have hms15_2 := NB497_499.out
    have hs16 : w14.cell? ⟨gb497, 1, none⟩ = some (.string a0_1) := bc_ BK497 1
    have hfs16 := blk_frozen BK497.out 1
    have hns16_1 := NB498_497.out
    have hns16_2 := NB499_497.out
    have hms16_1 := NB497_498.out
    have hms16_2 := NB497_499.out
    have hs17 : w14.cell? ⟨gb497, 2, none⟩ = some (.int .i64 a0_2) := bc_ BK497 2
    have hfs17 := blk_frozen BK497.out 2
    have hns17_1 := NB498_497.out
    have hns17_2 := NB499_497.out
    have hms17_1 := NB497_498.out
    have hms17_2 := NB497_499.out
    refine skip_ (w1 := ?_) (by rfl) rfl ?_ ?_
    rotate_left
    · go_simp
      rfl
    refine hK.out _ _ ?_
    clear hK K
    refine last_ (i := 5) (N := none) #[true, true, true, true, true, true] rfl rfl (by kernel_rfl) (by decide) (fun K hK => ?_)
    have hs18 : w14.cell? ⟨gb498, 0, none⟩ = some (.bool a1_0) := bc_ BK498 0
    have hfs18 := blk_frozen BK498.out 0
    have hns18_0 := NB497_498.out
    have hns18_2 := NB499_498.out
    have hms18_0 := NB498_497.out
    have hms18_2 := NB498_499.out
    have hs19 : w14.cell? ⟨gb498, 1, none⟩ = some (.string a1_1) := bc_ BK498 1
    have hfs19 := blk_frozen BK498.out 1
    have hns19_0 := NB497_498.out
    have hns19_2 := NB499_498.out
    have hms19_0 := NB498_497.out
    have hms19_2 := NB498_499.out
    have hs20 : w14.cell? ⟨gb498, 2, none⟩ = some (.int .i64 a1_2) := bc_ BK498 2
    have hfs20 := blk_frozen BK498.out 2
    have hns20_0 := NB497_498.out
    have hns20_2 := NB499_498.out
    have hms20_0 := NB498_497.out
    have hms20_2 := NB498_499.out
    refine skip_ (w1 := ?_) (by rfl) rfl ?_ ?_
    rotate_left
    · go_simp
      rfl
    refine hK.out _ _ ?_
    clear hK K
    refine done_ (by kernel_rfl) ?_
    have hnb21 := NB497_498.out
    have hnc21 := NB498_497.out
    have hnb22 := NB497_499.out
    have hnc22 := NB499_497.out
    obtain ⟨hcz23_0, hcz23_1, hcz23_2, hfz23_0, hfz23_1, hfz23_2⟩ := bo3_ BK497
    have hnb24 := NB498_499.out
    have hnc24 := NB499_498.out
    obtain ⟨hcz25_0, hcz25_1, hcz25_2, hfz25_0, hfz25_1, hfz25_2⟩ := bo3_ BK498
    try go_wp2_with (first | ((with_reducible refine gate_callee (f := 82) rfl ?_); refine gl_ (some 19) Tryd.func82 #[.agg #[.bool t500, .string t501, .int .i64 t502], .agg #[.bool t503, .string t504, .int .i64 t505]] ?_; (with_reducible refine (dec_both.calls t500 t501 t502 t503 t504 t505 t506 t507 t508 _ A5.out).mono ?_); rintro e w26 ⟨rfl, hb⟩; refine ⟨_, rfl, ?_⟩; have n0_ := Aside0.mk (blk_below (g := gb497) (o := .cells #[.bool t500, .string t501, .int .i64 t502] 29 (0, 0)) (by (with_reducible repeat (first | refine blk_drewN ?_ _ | refine blk_drew ?_ | refine blk_alloc ?_ _)); refine blk_far ?_ NB497_498.out _; (with_reducible repeat (first | refine blk_drewN ?_ _ | refine blk_drew ?_ | refine blk_alloc ?_ _)); refine blk_far ?_ NB497_498.out _; (with_reducible repeat (first | refine blk_drewN ?_ _ | refine blk_drew ?_ | refine blk_alloc ?_ _)); refine blk_far ?_ NB497_498.out _; (with_reducible repeat (first | refine blk_drewN ?_ _ | refine blk_drew ?_ | refine blk_alloc ?_ _)); refine blk_put (cs := #[.bool t500, .string t501, .int .i64 a0_2]) ?_ 2 _ rfl; (with_reducible repeat (first | refine blk_drewN ?_ _ | refine blk_drew ?_ | refine blk_alloc ?_ _)); refine blk_put (cs := #[.bool t500, .string a0_1, .int .i64 a0_2]) ?_ 1 _ rfl; (with_reducible repeat (first | refine blk_drewN ?_ _ | refine blk_drew ?_ | refine blk_alloc ?_ _)); refine blk_put (cs := #[.bool a0_0, .string a0_1, .int .i64 a0_2]) ?_ 0 _ rfl; (with_reducible repeat (first | refine blk_drewN ?_ _ | refine blk_drew ?_ | refine blk_alloc ?_ _)); exact BK497.out) hb); have n1_ := Aside0.mk (blk_below (g := gb498) (o := .cells #[.bool t503, .string t504, .int .i64 t505] 29 (0, 0)) (by (with_reducible repeat (first | refine blk_drewN ?_ _ | refine blk_drew ?_ | refine blk_alloc ?_ _)); refine blk_put (cs := #[.bool t503, .string t504, .int .i64 a1_2]) ?_ 2 _ rfl; (with_reducible repeat (first | refine blk_drewN ?_ _ | refine blk_drew ?_ | refine blk_alloc ?_ _)); refine blk_put (cs := #[.bool t503, .string a1_1, .int .i64 a1_2]) ?_ 1 _ rfl; (with_reducible repeat (first | refine blk_drewN ?_ _ | refine blk_drew ?_ | refine blk_alloc ?_ _)); refine blk_put (cs := #[.bool a1_0, .string a1_1, .int .i64 a1_2]) ?_ 0 _ rfl; (with_reducible repeat (first | refine blk_drewN ?_ _ | refine blk_drew ?_ | refine blk_alloc ?_ _)); refine blk_far ?_ NB498_497.out _; (with_reducible repeat (first | refine blk_drewN ?_ _ | refine blk_drew ?_ | refine blk_alloc ?_ _)); refine blk_far ?_ NB498_497.out _; (with_reducible repeat (first | refine blk_drewN ?_ _ | refine blk_drew ?_ | refine blk_alloc ?_ _)); refine blk_far ?_ NB498_497.out _; (with_reducible repeat (first | refine blk_drewN ?_ _ | refine blk_drew ?_ | refine blk_alloc ?_ _)); exact BK498.out) hb); have n2_ := Aside0.mk (blk_below (g := gb499) (o := .cells #[.bool false, .string (⟨#[]⟩ : ByteArray), .int .i64 0] 29 (0, 0)) (by (with_reducible repeat (first | refine blk_drewN ?_ _ | refine blk_drew ?_ | refine blk_alloc ?_ _)); refine blk_far ?_ NB499_498.out _; (with_reducible repeat (first | refine blk_drewN ?_ _ | refine blk_drew ?_ | refine blk_alloc ?_ _)); refine blk_far ?_ NB499_498.out _; (with_reducible repeat (first | refine blk_drewN ?_ _ | refine blk_drew ?_ | refine blk_alloc ?_ _)); refine blk_far ?_ NB499_498.out _; (with_reducible repeat (first | refine blk_drewN ?_ _ | refine blk_drew ?_ | refine blk_alloc ?_ _)); refine blk_far ?_ NB499_497.out _; (with_reducible repeat (first | refine blk_drewN ?_ _ | refine blk_drew ?_ | refine blk_alloc ?_ _)); refine blk_far ?_ NB499_497.out _; (with_reducible repeat (first | refine blk_drewN ?_ _ | refine blk_drew ?_ | refine blk_alloc ?_ _)); refine blk_far ?_ NB499_497.out _; (with_reducible repeat (first | refine blk_drewN ?_ _ | refine blk_drew ?_ | refine blk_alloc ?_ _)); exact BK499.out) hb); have n3_ := Aside0.mk (below_step (bl_ HB).out hb); clear BK497; clear BK498; clear BK499; clear HB; have BK497 := n0_; have BK498 := n1_; have BK499 := n2_; have HB := n3_; clear n0_ n1_ n2_ n3_; (try clear hb); (try clear hb2); (try clear hk); (try clear hi); obtain ⟨hcz27_0, hcz27_1, hcz27_2, hfz27_0, hfz27_1, hfz27_2⟩ := bo3_ BK497; obtain ⟨hcz28_0, hcz28_1, hcz28_2, hfz28_0, hfz28_1, hfz28_2⟩ := bo3_ BK498))
    replace BK497 := Aside0.mk (blk_drew BK497.out)
    replace BK498 := Aside0.mk (blk_drew BK498.out)
    replace BK499 := Aside0.mk (blk_drew BK499.out)
    replace HB := Aside0.mk (below_drew1 HB.out)
    refine start_ (n := 8) (S := fun w' => w'.cell? ⟨gb497, 0, none⟩ = some (.bool t500) ∧ w'.cell? ⟨gb497, 1, none⟩ = some (.string t501) ∧ w'.cell? ⟨gb497, 2, none⟩ = some (.int .i64 t502)) (ds := []) #[false, false, false, false, false, false, false, false] (by kernel_rfl) rfl rfl ⟨bc_ BK497 0, bc_ BK497 1, bc_ BK497 2⟩ (fun hHeld => ?_); refine with_tabW dec_Add.tab4 dec_Add.bits4 (fun HT_ HW_ => ?_)
    generalize w26.drew = w29 at BK497 BK498 BK499 HB hHeld ⊢
    refine pu_ 0 28 #[true, false, false, false, false, false, false, false] HT_ ?_
    refine pu_ 2 30 #[true, false, true, false, false, false, false, false] HT_ ?_
    refine pu_ 3 31 #[true, false, true, true, false, false, false, false] HT_ ?_
    refine pu_ 5 33 #[true, false, true, true, false, true, false, false] HT_ ?_
    refine tk_ 1 29 #[true, true, true, true, false, true, false, false] HT_ HW_ hHeld rfl (by rintro w' ⟨s0, s1, s2⟩; go_simp; with_reducible rfl) ?_
    refine one_ (i := 4) (N := some 32) #[true, true, true, true, true, true, false, false] rfl rfl (one_of HT_.out (by kernel_rfl)) (by decide) (fun K hK => ?_)
    refine gs_ Tryd.func77 #[.string t506, .string t507] ?_
    with_reducible refine (num_Add.calls k t506 t507 t509 _ A7.out).mono ?_
    rintro e w30 ⟨rfl, hb⟩
    refine ⟨_, rfl, ?_⟩
    replace BK497 := bb_ BK497 hb
    replace BK498 := bb_ BK498 hb
    replace BK499 := bb_ BK499 hb
    replace HB := Aside0.mk (below_step (bl_ HB).out hb)
    (try clear hb)
    (try clear hb2)
    (try clear hk)
    (try clear hi)
    refine hK.out _ _ ⟨bc_ BK497 0, bc_ BK497 1, bc_ BK497 2⟩ (fun hHeld => ?_)
    clear hK K
    refine nm_ 32 ?_
    refine one_ (i := 6) (N := some 34) #[true, true, true, true, true, true, true, false] rfl rfl (one_of HT_.out (by kernel_rfl)) (by decide) (fun K hK => ?_)
    refine gs_ Tryd.func12 #[.bool t500, .string t509, .int .i64 t508] ?_
    with_reducible refine (dec_Made.calls k t500 t509 t508 t510 t511 t512 _ A8.out).mono ?_
    rintro e w31 ⟨rfl, hb⟩
    refine ⟨_, rfl, ?_⟩
    replace BK497 := bb_ BK497 hb
    replace BK498 := bb_ BK498 hb
    replace BK499 := bb_ BK499 hb
    replace HB := Aside0.mk (below_step (bl_ HB).out hb)
    (try clear hb)
    (try clear hb2)
    (try clear hk)
    (try clear hi)
    refine hK.out _ _ ⟨bc_ BK497 0, bc_ BK497 1, bc_ BK497 2⟩ (fun hHeld => ?_)
    clear hK K
    refine nm_ 34 ?_
    refine one_ (i := 7) (N := none) #[true, true, true, true, true, true, true, true] rfl rfl (one_of HT_.out (by kernel_rfl)) (by decide) (fun K hK => ?_)
    have hs32 : w31.cell? ⟨gb499, 0, none⟩ = some (.bool false) := bc_ BK499 0
    have hfs32 := blk_frozen BK499.out 0
    have hns32_0 := NB497_499.out
    have hns32_1 := NB498_499.out
    have hms32_0 := NB499_497.out
    have hms32_1 := NB499_498.out
    have hs33 : w31.cell? ⟨gb499, 1, none⟩ = some (.string (⟨#[]⟩ : ByteArray)) := bc_ BK499 1
    have hfs33 := blk_frozen BK499.out 1
    have hns33_0 := NB497_499.out
    have hns33_1 := NB498_499.out
    have hms33_0 := NB499_497.out
    have hms33_1 := NB499_498.out
    have hs34 : w31.cell? ⟨gb499, 2, none⟩ = some (.int .i64 0) := bc_ BK499 2
    have hfs34 := blk_frozen BK499.out 2
    have hns34_0 := NB497_499.out
    have hns34_1 := NB498_499.out
    have hms34_0 := NB499_497.out
    have hms34_1 := NB499_498.out
    refine skip_ (w1 := ?_) (by rfl) rfl ?_ ?_
    rotate_left
    · go_simp
      rfl
    refine hK.out _ _ ⟨((cell_far (p := ⟨gb499, _, none⟩) NB497_499.out _).trans (((cell_far (p := ⟨gb499, _, none⟩) NB497_499.out _).trans (((cell_far (p := ⟨gb499, _, none⟩) NB497_499.out _).trans (hHeld.1)))))), ((cell_far (p := ⟨gb499, _, none⟩) NB497_499.out _).trans (((cell_far (p := ⟨gb499, _, none⟩) NB497_499.out _).trans (((cell_far (p := ⟨gb499, _, none⟩) NB497_499.out _).trans (hHeld.2.1)))))), ((cell_far (p := ⟨gb499, _, none⟩) NB497_499.out _).trans (((cell_far (p := ⟨gb499, _, none⟩) NB497_499.out _).trans (((cell_far (p := ⟨gb499, _, none⟩) NB497_499.out _).trans (hHeld.2.2))))))⟩ (fun hHeld => ?_)
    clear hK K
    refine done_ (done_of HT_.out (by kernel_rfl)) ?_
    try go_wp2
    refine bodyPost_ret (results_cell_row rfl _ _ gb499 29 #[.bool t510, .string t511, .int .i64 t512] (0, 0) _ rfl (by (with_reducible repeat (first | refine blk_drewN ?_ _ | refine blk_drew ?_ | refine blk_alloc ?_ _)); refine blk_put (cs := #[.bool t510, .string t511, .int .i64 0]) ?_ 2 _ rfl; (with_reducible repeat (first | refine blk_drewN ?_ _ | refine blk_drew ?_ | refine blk_alloc ?_ _)); refine blk_put (cs := #[.bool t510, .string (⟨#[]⟩ : ByteArray), .int .i64 0]) ?_ 1 _ rfl; (with_reducible repeat (first | refine blk_drewN ?_ _ | refine blk_drew ?_ | refine blk_alloc ?_ _)); refine blk_put (cs := #[.bool false, .string (⟨#[]⟩ : ByteArray), .int .i64 0]) ?_ 0 _ rfl; (with_reducible repeat (first | refine blk_drewN ?_ _ | refine blk_drew ?_ | refine blk_alloc ?_ _)); exact BK499.out) Tryd.underlying29 rfl (by kernel_rfl)) rfl ?_
    exact ⟨ew_, (bl_ HB).out⟩
  · rw [if_neg c6] at H
    have c6b0 : (t500 == t503) = false := by simpa using c6
    (try (have c6b1 : decide (t500 = t503) = false := by simpa using c6))
    (try (have c6b2 : (t500 == t503) = false := by simpa using c6))
    (try (have c6b3 : ¬ (t500 = t503) := by simpa using c6))
    clear c6
    replace H := Option.bind_eq_some_iff.mp H
    obtain ⟨⟨t513, t514⟩, A350, H⟩ := H
    replace H : (if t514 = true then ((dec_Made.f k t500 t513 t508).bind fun bt515 => (some (bt515.1, bt515.2.1, bt515.2.2))) else ((num_Sub.f k t507 t506).bind fun bt518 => ((dec_Made.f k t503 bt518.1 t508).bind fun bt520 => (some (bt520.1, bt520.2.1, bt520.2.2))))) = some (r1, r2, r3) := H
    have A35 := Aside0.mk A350
    clear A350
    by_cases c36 : t514 = true
    · subst c36
      have H1 : ((dec_Made.f k t500 t513 t508).bind fun bt515 => (some (bt515.1, bt515.2.1, bt515.2.2))) = some (r1, r2, r3) := by rw [if_pos rfl] at H; exact H
      clear H
      have H := H1
      clear H1
      replace H := Option.bind_eq_some_iff.mp H
      obtain ⟨⟨t515, t516, t517⟩, A370, H⟩ := H
      replace H : (some (t515, t516, t517)) = some (r1, r2, r3) := H
      have A37 := Aside0.mk A370
      clear A370
      simp only [Option.some.injEq, Prod.mk.injEq] at H
      obtain ⟨rfl, rfl, rfl⟩ := H
      go_enter Tryd.func68, Tryd.ntmps68
      try go_wp2_with (first | ((with_reducible refine gate_dst (N := 2) rfl ?_); refine be_ 2 #[.bool a0_0, .string a0_1, .int .i64 a0_2] 29 ?_; intro gb497 hg w38 hbox hb; have BK497 := Aside0.mk (hbox); have GW497 := sz_ HB hg; have GE497 := sz_ HB hg; replace HB := Aside0.mk (below_step (bl_ HB).out hb); clear hb hbox hg) | ((with_reducible refine gate_dst (N := 3) rfl ?_); refine be_ 3 #[.bool a1_0, .string a1_1, .int .i64 a1_2] 29 ?_; intro gb498 hg w39 hbox hb; have BK498 := Aside0.mk (hbox); have GW498 := sz_ HB hg; have GE498 := sz_ HB hg; have NB497_498 := na_ BK497 hg; have NB498_497 := nb_ BK497 hg; replace BK497 := bb_ BK497 hb; replace HB := Aside0.mk (below_step (bl_ HB).out hb); clear hb hbox hg) | ((with_reducible refine gate_dst (N := 4) rfl ?_); refine be_ 4 #[.bool false, .string (⟨#[]⟩ : ByteArray), .int .i64 0] 29 ?_; intro gb499 hg w40 hbox hb; have BK499 := Aside0.mk (hbox); have GW499 := sz_ HB hg; have GE499 := sz_ HB hg; have NB497_499 := na_ BK497 hg; have NB499_497 := nb_ BK497 hg; have NB498_499 := na_ BK498 hg; have NB499_498 := nb_ BK498 hg; replace BK497 := bb_ BK497 hb; replace BK498 := bb_ BK498 hb; replace HB := Aside0.mk (below_step (bl_ HB).out hb); clear hb hbox hg))
      replace BK497 := Aside0.mk (blk_drew BK497.out)
      replace BK498 := Aside0.mk (blk_drew BK498.out)
      replace BK499 := Aside0.mk (blk_drew BK499.out)
      replace HB := Aside0.mk (below_drew1 HB.out)
      refine start_ (n := 6) (S := fun w' => w'.cell? ⟨gb497, 0, none⟩ = some (.bool a0_0) ∧ w'.cell? ⟨gb497, 1, none⟩ = some (.string a0_1) ∧ w'.cell? ⟨gb497, 2, none⟩ = some (.int .i64 a0_2) ∧ w'.cell? ⟨gb498, 0, none⟩ = some (.bool a1_0) ∧ w'.cell? ⟨gb498, 1, none⟩ = some (.string a1_1) ∧ w'.cell? ⟨gb498, 2, none⟩ = some (.int .i64 a1_2)) (ds := [4, 5]) #[false, false, false, false, false, false] (by kernel_rfl) rfl rfl ⟨bc_ BK497 0, bc_ BK497 1, bc_ BK497 2, bc_ BK498 0, bc_ BK498 1, bc_ BK498 2⟩ (fun hHeld => ?_)
      generalize w40.drew = w41 at BK497 BK498 BK499 HB hHeld ⊢
      refine tk0_ 0 12 #[true, false, false, false, false, false] hHeld rfl (by rintro w' ⟨s0, s1, s2, s3, s4, s5⟩; go_simp; with_reducible rfl) ?_
      refine tk0_ 2 14 #[true, false, true, false, false, false] hHeld rfl (by rintro w' ⟨s0, s1, s2, s3, s4, s5⟩; go_simp; with_reducible rfl) ?_
      refine one_ (i := 1) (N := some 13) #[true, true, true, false, false, false] rfl rfl (by kernel_rfl) (by decide) (fun K hK => ?_)
      refine gs_ Tryd.func10 #[.agg #[.bool a0_0, .string a0_1, .int .i64 a0_2]] ?_
      with_reducible refine (dec_Dec_Norm.calls k a0_0 a0_1 a0_2 t500 t501 t502 _ A3.out).mono ?_
      rintro e w42 ⟨rfl, hb⟩
      refine ⟨_, rfl, ?_⟩
      replace BK497 := bb_ BK497 hb
      replace BK498 := bb_ BK498 hb
      replace BK499 := bb_ BK499 hb
      replace HB := Aside0.mk (below_step (bl_ HB).out hb)
      (try clear hb)
      (try clear hb2)
      (try clear hk)
      (try clear hi)
      refine hK.out _ _ ⟨bc_ BK497 0, bc_ BK497 1, bc_ BK497 2, bc_ BK498 0, bc_ BK498 1, bc_ BK498 2⟩ (fun hHeld => ?_)
      clear hK K
      refine nm_ 13 ?_
      refine one_ (i := 3) (N := some 15) #[true, true, true, true, false, false] rfl rfl (by kernel_rfl) (by decide) (fun K hK => ?_)
      refine gs_ Tryd.func10 #[.agg #[.bool a1_0, .string a1_1, .int .i64 a1_2]] ?_
      with_reducible refine (dec_Dec_Norm.calls k a1_0 a1_1 a1_2 t503 t504 t505 _ A4.out).mono ?_
      rintro e w43 ⟨rfl, hb⟩
      refine ⟨_, rfl, ?_⟩
      replace BK497 := bb_ BK497 hb
      replace BK498 := bb_ BK498 hb
      replace BK499 := bb_ BK499 hb
      replace HB := Aside0.mk (below_step (bl_ HB).out hb)
      (try clear hb)
      (try clear hb2)
      (try clear hk)
      (try clear hi)
      refine hK.out _ _ ⟨bc_ BK497 0, bc_ BK497 1, bc_ BK497 2, bc_ BK498 0, bc_ BK498 1, bc_ BK498 2⟩ (fun hHeld => ?_)
      clear hK K
      refine nm_ 15 ?_
      refine last_ (i := 4) (N := none) #[true, true, true, true, true, false] rfl rfl (by kernel_rfl) (by decide) (fun K hK => ?_)
      have hs44 : w43.cell? ⟨gb497, 0, none⟩ = some (.bool a0_0) := bc_ BK497 0
      have hfs44 := blk_frozen BK497.out 0
      have hns44_1 := NB498_497.out
      have hns44_2 := NB499_497.out
      have hms44_1 := NB497_498.out
      have hms44_2 := NB497_499.out
      have hs45 : w43.cell? ⟨gb497, 1, none⟩ = some (.string a0_1) := bc_ BK497 1
      have hfs45 := blk_frozen BK497.out 1
      have hns45_1 := NB498_497.out
      have hns45_2 := NB499_497.out
      have hms45_1 := NB497_498.out
      have hms45_2 := NB497_499.out
      have hs46 : w43.cell? ⟨gb497, 2, none⟩ = some (.int .i64 a0_2) := bc_ BK497 2
      have hfs46 := blk_frozen BK497.out 2
      have hns46_1 := NB498_497.out
      have hns46_2 := NB499_497.out
      have hms46_1 := NB497_498.out
      have hms46_2 := NB497_499.out
      refine skip_ (w1 := ?_) (by rfl) rfl ?_ ?_
      rotate_left
      · go_simp
        rfl
      refine hK.out _ _ ?_
      clear hK K
      refine last_ (i := 5) (N := none) #[true, true, true, true, true, true] rfl rfl (by kernel_rfl) (by decide) (fun K hK => ?_)
      have hs47 : w43.cell? ⟨gb498, 0, none⟩ = some (.bool a1_0) := bc_ BK498 0
      have hfs47 := blk_frozen BK498.out 0
      have hns47_0 := NB497_498.out
      have hns47_2 := NB499_498.out
      have hms47_0 := NB498_497.out
      have hms47_2 := NB498_499.out
      have hs48 : w43.cell? ⟨gb498, 1, none⟩ = some (.string a1_1) := bc_ BK498 1
      have hfs48 := blk_frozen BK498.out 1
      have hns48_0 := NB497_498.out
      have hns48_2 := NB499_498.out
      have hms48_0 := NB498_497.out
      have hms48_2 := NB498_499.out
      have hs49 : w43.cell? ⟨gb498, 2, none⟩ = some (.int .i64 a1_2) := bc_ BK498 2
      have hfs49 := blk_frozen BK498.out 2
      have hns49_0 := NB497_498.out
      have hns49_2 := NB499_498.out
      have hms49_0 := NB498_497.out
      have hms49_2 := NB498_499.out
      refine skip_ (w1 := ?_) (by rfl) rfl ?_ ?_
      rotate_left
      · go_simp
        rfl
      refine hK.out _ _ ?_
      clear hK K
      refine done_ (by kernel_rfl) ?_
      have hnb50 := NB497_498.out
      have hnc50 := NB498_497.out
      have hnb51 := NB497_499.out
      have hnc51 := NB499_497.out
      obtain ⟨hcz52_0, hcz52_1, hcz52_2, hfz52_0, hfz52_1, hfz52_2⟩ := bo3_ BK497
      have hnb53 := NB498_499.out
      have hnc53 := NB499_498.out
      obtain ⟨hcz54_0, hcz54_1, hcz54_2, hfz54_0, hfz54_1, hfz54_2⟩ := bo3_ BK498
      try go_wp2_with (first | ((with_reducible refine gate_callee (f := 82) rfl ?_); refine gl_ (some 19) Tryd.func82 #[.agg #[.bool t500, .string t501, .int .i64 t502], .agg #[.bool t503, .string t504, .int .i64 t505]] ?_; (with_reducible refine (dec_both.calls t500 t501 t502 t503 t504 t505 t506 t507 t508 _ A5.out).mono ?_); rintro e w55 ⟨rfl, hb⟩; refine ⟨_, rfl, ?_⟩; have n0_ := Aside0.mk (blk_below (g := gb497) (o := .cells #[.bool t500, .string t501, .int .i64 t502] 29 (0, 0)) (by (with_reducible repeat (first | refine blk_drewN ?_ _ | refine blk_drew ?_ | refine blk_alloc ?_ _)); refine blk_far ?_ NB497_498.out _; (with_reducible repeat (first | refine blk_drewN ?_ _ | refine blk_drew ?_ | refine blk_alloc ?_ _)); refine blk_far ?_ NB497_498.out _; (with_reducible repeat (first | refine blk_drewN ?_ _ | refine blk_drew ?_ | refine blk_alloc ?_ _)); refine blk_far ?_ NB497_498.out _; (with_reducible repeat (first | refine blk_drewN ?_ _ | refine blk_drew ?_ | refine blk_alloc ?_ _)); refine blk_put (cs := #[.bool t500, .string t501, .int .i64 a0_2]) ?_ 2 _ rfl; (with_reducible repeat (first | refine blk_drewN ?_ _ | refine blk_drew ?_ | refine blk_alloc ?_ _)); refine blk_put (cs := #[.bool t500, .string a0_1, .int .i64 a0_2]) ?_ 1 _ rfl; (with_reducible repeat (first | refine blk_drewN ?_ _ | refine blk_drew ?_ | refine blk_alloc ?_ _)); refine blk_put (cs := #[.bool a0_0, .string a0_1, .int .i64 a0_2]) ?_ 0 _ rfl; (with_reducible repeat (first | refine blk_drewN ?_ _ | refine blk_drew ?_ | refine blk_alloc ?_ _)); exact BK497.out) hb); have n1_ := Aside0.mk (blk_below (g := gb498) (o := .cells #[.bool t503, .string t504, .int .i64 t505] 29 (0, 0)) (by (with_reducible repeat (first | refine blk_drewN ?_ _ | refine blk_drew ?_ | refine blk_alloc ?_ _)); refine blk_put (cs := #[.bool t503, .string t504, .int .i64 a1_2]) ?_ 2 _ rfl; (with_reducible repeat (first | refine blk_drewN ?_ _ | refine blk_drew ?_ | refine blk_alloc ?_ _)); refine blk_put (cs := #[.bool t503, .string a1_1, .int .i64 a1_2]) ?_ 1 _ rfl; (with_reducible repeat (first | refine blk_drewN ?_ _ | refine blk_drew ?_ | refine blk_alloc ?_ _)); refine blk_put (cs := #[.bool a1_0, .string a1_1, .int .i64 a1_2]) ?_ 0 _ rfl; (with_reducible repeat (first | refine blk_drewN ?_ _ | refine blk_drew ?_ | refine blk_alloc ?_ _)); refine blk_far ?_ NB498_497.out _; (with_reducible repeat (first | refine blk_drewN ?_ _ | refine blk_drew ?_ | refine blk_alloc ?_ _)); refine blk_far ?_ NB498_497.out _; (with_reducible repeat (first | refine blk_drewN ?_ _ | refine blk_drew ?_ | refine blk_alloc ?_ _)); refine blk_far ?_ NB498_497.out _; (with_reducible repeat (first | refine blk_drewN ?_ _ | refine blk_drew ?_ | refine blk_alloc ?_ _)); exact BK498.out) hb); have n2_ := Aside0.mk (blk_below (g := gb499) (o := .cells #[.bool false, .string (⟨#[]⟩ : ByteArray), .int .i64 0] 29 (0, 0)) (by (with_reducible repeat (first | refine blk_drewN ?_ _ | refine blk_drew ?_ | refine blk_alloc ?_ _)); refine blk_far ?_ NB499_498.out _; (with_reducible repeat (first | refine blk_drewN ?_ _ | refine blk_drew ?_ | refine blk_alloc ?_ _)); refine blk_far ?_ NB499_498.out _; (with_reducible repeat (first | refine blk_drewN ?_ _ | refine blk_drew ?_ | refine blk_alloc ?_ _)); refine blk_far ?_ NB499_498.out _; (with_reducible repeat (first | refine blk_drewN ?_ _ | refine blk_drew ?_ | refine blk_alloc ?_ _)); refine blk_far ?_ NB499_497.out _; (with_reducible repeat (first | refine blk_drewN ?_ _ | refine blk_drew ?_ | refine blk_alloc ?_ _)); refine blk_far ?_ NB499_497.out _; (with_reducible repeat (first | refine blk_drewN ?_ _ | refine blk_drew ?_ | refine blk_alloc ?_ _)); refine blk_far ?_ NB499_497.out _; (with_reducible repeat (first | refine blk_drewN ?_ _ | refine blk_drew ?_ | refine blk_alloc ?_ _)); exact BK499.out) hb); have n3_ := Aside0.mk (below_step (bl_ HB).out hb); clear BK497; clear BK498; clear BK499; clear HB; have BK497 := n0_; have BK498 := n1_; have BK499 := n2_; have HB := n3_; clear n0_ n1_ n2_ n3_; (try clear hb); (try clear hb2); (try clear hk); (try clear hi); obtain ⟨hcz56_0, hcz56_1, hcz56_2, hfz56_0, hfz56_1, hfz56_2⟩ := bo3_ BK497; obtain ⟨hcz57_0, hcz57_1, hcz57_2, hfz57_0, hfz57_1, hfz57_2⟩ := bo3_ BK498) | ((with_reducible refine gate_callee (f := 83) rfl ?_); refine gl_ (some 38) Tryd.func83 #[.string t506, .string t507] ?_; (with_reducible refine (num_Sub.calls k t506 t507 t513 true _ A35.out).mono ?_); rintro e w58 ⟨rfl, hb⟩; refine ⟨_, rfl, ?_⟩; replace BK497 := bb_ BK497 hb; replace BK498 := bb_ BK498 hb; replace BK499 := bb_ BK499 hb; replace HB := Aside0.mk (below_step (bl_ HB).out hb); (try clear hb); (try clear hb2); (try clear hk); (try clear hi); obtain ⟨hcz59_0, hcz59_1, hcz59_2, hfz59_0, hfz59_1, hfz59_2⟩ := bo3_ BK497) | ((with_reducible refine gate_callee (f := 12) rfl ?_); refine gl_ (some 46) Tryd.func12 #[.bool t500, .string t513, .int .i64 t508] ?_; (with_reducible refine (dec_Made.calls k t500 t513 t508 t515 t516 t517 _ A37.out).mono ?_); rintro e w60 ⟨rfl, hb⟩; refine ⟨_, rfl, ?_⟩; replace BK497 := bb_ BK497 hb; replace BK498 := bb_ BK498 hb; replace BK499 := bb_ BK499 hb; replace HB := Aside0.mk (below_step (bl_ HB).out hb); (try clear hb); (try clear hb2); (try clear hk); (try clear hi); obtain ⟨hcz61_0, hcz61_1, hcz61_2, hfz61_0, hfz61_1, hfz61_2⟩ := bo3_ BK499))
      refine bodyPost_ret (results_cell_row rfl _ _ gb499 29 #[.bool t515, .string t516, .int .i64 t517] (0, 0) _ rfl (by (with_reducible repeat (first | refine blk_drewN ?_ _ | refine blk_drew ?_ | refine blk_alloc ?_ _)); refine blk_put (cs := #[.bool t515, .string t516, .int .i64 0]) ?_ 2 _ rfl; (with_reducible repeat (first | refine blk_drewN ?_ _ | refine blk_drew ?_ | refine blk_alloc ?_ _)); refine blk_put (cs := #[.bool t515, .string (⟨#[]⟩ : ByteArray), .int .i64 0]) ?_ 1 _ rfl; (with_reducible repeat (first | refine blk_drewN ?_ _ | refine blk_drew ?_ | refine blk_alloc ?_ _)); refine blk_put (cs := #[.bool false, .string (⟨#[]⟩ : ByteArray), .int .i64 0]) ?_ 0 _ rfl; (with_reducible repeat (first | refine blk_drewN ?_ _ | refine blk_drew ?_ | refine blk_alloc ?_ _)); exact BK499.out) Tryd.underlying29 rfl (by kernel_rfl)) rfl ?_
      exact ⟨ew_, (bl_ HB).out⟩
    · replace c36 := Bool.eq_false_iff.mpr c36
      subst c36
      have H1 : ((num_Sub.f k t507 t506).bind fun bt518 => ((dec_Made.f k t503 bt518.1 t508).bind fun bt520 => (some (bt520.1, bt520.2.1, bt520.2.2)))) = some (r1, r2, r3) := by rw [if_neg (show ¬ (false = true) by decide)] at H; exact H
      clear H
      have H := H1
      clear H1
      replace H := Option.bind_eq_some_iff.mp H
      obtain ⟨⟨t518, t519⟩, A620, H⟩ := H
      replace H : ((dec_Made.f k t503 t518 t508).bind fun bt520 => (some (bt520.1, bt520.2.1, bt520.2.2))) = some (r1, r2, r3) := H
      have A62 := Aside0.mk A620
      clear A620
      replace H := Option.bind_eq_some_iff.mp H
      obtain ⟨⟨t520, t521, t522⟩, A630, H⟩ := H
      replace H : (some (t520, t521, t522)) = some (r1, r2, r3) := H
      have A63 := Aside0.mk A630
      clear A630
      simp only [Option.some.injEq, Prod.mk.injEq] at H
      obtain ⟨rfl, rfl, rfl⟩ := H
      go_enter Tryd.func68, Tryd.ntmps68
      try go_wp2_with (first | ((with_reducible refine gate_dst (N := 2) rfl ?_); refine be_ 2 #[.bool a0_0, .string a0_1, .int .i64 a0_2] 29 ?_; intro gb497 hg w64 hbox hb; have BK497 := Aside0.mk (hbox); have GW497 := sz_ HB hg; have GE497 := sz_ HB hg; replace HB := Aside0.mk (below_step (bl_ HB).out hb); clear hb hbox hg) | ((with_reducible refine gate_dst (N := 3) rfl ?_); refine be_ 3 #[.bool a1_0, .string a1_1, .int .i64 a1_2] 29 ?_; intro gb498 hg w65 hbox hb; have BK498 := Aside0.mk (hbox); have GW498 := sz_ HB hg; have GE498 := sz_ HB hg; have NB497_498 := na_ BK497 hg; have NB498_497 := nb_ BK497 hg; replace BK497 := bb_ BK497 hb; replace HB := Aside0.mk (below_step (bl_ HB).out hb); clear hb hbox hg) | ((with_reducible refine gate_dst (N := 4) rfl ?_); refine be_ 4 #[.bool false, .string (⟨#[]⟩ : ByteArray), .int .i64 0] 29 ?_; intro gb499 hg w66 hbox hb; have BK499 := Aside0.mk (hbox); have GW499 := sz_ HB hg; have GE499 := sz_ HB hg; have NB497_499 := na_ BK497 hg; have NB499_497 := nb_ BK497 hg; have NB498_499 := na_ BK498 hg; have NB499_498 := nb_ BK498 hg; replace BK497 := bb_ BK497 hb; replace BK498 := bb_ BK498 hb; replace HB := Aside0.mk (below_step (bl_ HB).out hb); clear hb hbox hg))
      replace BK497 := Aside0.mk (blk_drew BK497.out)
      replace BK498 := Aside0.mk (blk_drew BK498.out)
      replace BK499 := Aside0.mk (blk_drew BK499.out)
      replace HB := Aside0.mk (below_drew1 HB.out)
      refine start_ (n := 6) (S := fun w' => w'.cell? ⟨gb497, 0, none⟩ = some (.bool a0_0) ∧ w'.cell? ⟨gb497, 1, none⟩ = some (.string a0_1) ∧ w'.cell? ⟨gb497, 2, none⟩ = some (.int .i64 a0_2) ∧ w'.cell? ⟨gb498, 0, none⟩ = some (.bool a1_0) ∧ w'.cell? ⟨gb498, 1, none⟩ = some (.string a1_1) ∧ w'.cell? ⟨gb498, 2, none⟩ = some (.int .i64 a1_2)) (ds := [4, 5]) #[false, false, false, false, false, false] (by kernel_rfl) rfl rfl ⟨bc_ BK497 0, bc_ BK497 1, bc_ BK497 2, bc_ BK498 0, bc_ BK498 1, bc_ BK498 2⟩ (fun hHeld => ?_)
      generalize w66.drew = w67 at BK497 BK498 BK499 HB hHeld ⊢
      refine tk0_ 0 12 #[true, false, false, false, false, false] hHeld rfl (by rintro w' ⟨s0, s1, s2, s3, s4, s5⟩; go_simp; with_reducible rfl) ?_
      refine tk0_ 2 14 #[true, false, true, false, false, false] hHeld rfl (by rintro w' ⟨s0, s1, s2, s3, s4, s5⟩; go_simp; with_reducible rfl) ?_
      refine one_ (i := 1) (N := some 13) #[true, true, true, false, false, false] rfl rfl (by kernel_rfl) (by decide) (fun K hK => ?_)
      refine gs_ Tryd.func10 #[.agg #[.bool a0_0, .string a0_1, .int .i64 a0_2]] ?_
      with_reducible refine (dec_Dec_Norm.calls k a0_0 a0_1 a0_2 t500 t501 t502 _ A3.out).mono ?_
      rintro e w68 ⟨rfl, hb⟩
      refine ⟨_, rfl, ?_⟩
      replace BK497 := bb_ BK497 hb
      replace BK498 := bb_ BK498 hb
      replace BK499 := bb_ BK499 hb
      replace HB := Aside0.mk (below_step (bl_ HB).out hb)
      (try clear hb)
      (try clear hb2)
      (try clear hk)
      (try clear hi)
      refine hK.out _ _ ⟨bc_ BK497 0, bc_ BK497 1, bc_ BK497 2, bc_ BK498 0, bc_ BK498 1, bc_ BK498 2⟩ (fun hHeld => ?_)
      clear hK K
      refine nm_ 13 ?_
      refine one_ (i := 3) (N := some 15) #[true, true, true, true, false, false] rfl rfl (by kernel_rfl) (by decide) (fun K hK => ?_)
      refine gs_ Tryd.func10 #[.agg #[.bool a1_0, .string a1_1, .int .i64 a1_2]] ?_
      with_reducible refine (dec_Dec_Norm.calls k a1_0 a1_1 a1_2 t503 t504 t505 _ A4.out).mono ?_
      rintro e w69 ⟨rfl, hb⟩
      refine ⟨_, rfl, ?_⟩
      replace BK497 := bb_ BK497 hb
      replace BK498 := bb_ BK498 hb
      replace BK499 := bb_ BK499 hb
      replace HB := Aside0.mk (below_step (bl_ HB).out hb)
      (try clear hb)
      (try clear hb2)
      (try clear hk)
      (try clear hi)
      refine hK.out _ _ ⟨bc_ BK497 0, bc_ BK497 1, bc_ BK497 2, bc_ BK498 0, bc_ BK498 1, bc_ BK498 2⟩ (fun hHeld => ?_)
      clear hK K
      refine nm_ 15 ?_
      refine last_ (i := 4) (N := none) #[true, true, true, true, true, false] rfl rfl (by kernel_rfl) (by decide) (fun K hK => ?_)
      have hs70 : w69.cell? ⟨gb497, 0, none⟩ = some (.bool a0_0) := bc_ BK497 0
      have hfs70 := blk_frozen BK497.out 0
      have hns70_1 := NB498_497.out
      have hns70_2 := NB499_497.out
      have hms70_1 := NB497_498.out
      have hms70_2 := NB497_499.out
      have hs71 : w69.cell? ⟨gb497, 1, none⟩ = some (.string a0_1) := bc_ BK497 1
      have hfs71 := blk_frozen BK497.out 1
      have hns71_1 := NB498_497.out
      have hns71_2 := NB499_497.out
      have hms71_1 := NB497_498.out
      have hms71_2 := NB497_499.out
      have hs72 : w69.cell? ⟨gb497, 2, none⟩ = some (.int .i64 a0_2) := bc_ BK497 2
      have hfs72 := blk_frozen BK497.out 2
      have hns72_1 := NB498_497.out
      have hns72_2 := NB499_497.out
      have hms72_1 := NB497_498.out
      have hms72_2 := NB497_499.out
      refine skip_ (w1 := ?_) (by rfl) rfl ?_ ?_
      rotate_left
      · go_simp
        rfl
      refine hK.out _ _ ?_
      clear hK K
      refine last_ (i := 5) (N := none) #[true, true, true, true, true, true] rfl rfl (by kernel_rfl) (by decide) (fun K hK => ?_)
      have hs73 : w69.cell? ⟨gb498, 0, none⟩ = some (.bool a1_0) := bc_ BK498 0
      have hfs73 := blk_frozen BK498.out 0
      have hns73_0 := NB497_498.out
      have hns73_2 := NB499_498.out
      have hms73_0 := NB498_497.out
      have hms73_2 := NB498_499.out
      have hs74 : w69.cell? ⟨gb498, 1, none⟩ = some (.string a1_1) := bc_ BK498 1
      have hfs74 := blk_frozen BK498.out 1
      have hns74_0 := NB497_498.out
      have hns74_2 := NB499_498.out
      have hms74_0 := NB498_497.out
      have hms74_2 := NB498_499.out
      have hs75 : w69.cell? ⟨gb498, 2, none⟩ = some (.int .i64 a1_2) := bc_ BK498 2
      have hfs75 := blk_frozen BK498.out 2
      have hns75_0 := NB497_498.out
      have hns75_2 := NB499_498.out
      have hms75_0 := NB498_497.out
      have hms75_2 := NB498_499.out
      refine skip_ (w1 := ?_) (by rfl) rfl ?_ ?_
      rotate_left
      · go_simp
        rfl
      refine hK.out _ _ ?_
      clear hK K
      refine done_ (by kernel_rfl) ?_
      have hnb76 := NB497_498.out
      have hnc76 := NB498_497.out
      have hnb77 := NB497_499.out
      have hnc77 := NB499_497.out
      obtain ⟨hcz78_0, hcz78_1, hcz78_2, hfz78_0, hfz78_1, hfz78_2⟩ := bo3_ BK497
      have hnb79 := NB498_499.out
      have hnc79 := NB499_498.out
      obtain ⟨hcz80_0, hcz80_1, hcz80_2, hfz80_0, hfz80_1, hfz80_2⟩ := bo3_ BK498
      try go_wp2_with (first | ((with_reducible refine gate_callee (f := 82) rfl ?_); refine gl_ (some 19) Tryd.func82 #[.agg #[.bool t500, .string t501, .int .i64 t502], .agg #[.bool t503, .string t504, .int .i64 t505]] ?_; (with_reducible refine (dec_both.calls t500 t501 t502 t503 t504 t505 t506 t507 t508 _ A5.out).mono ?_); rintro e w81 ⟨rfl, hb⟩; refine ⟨_, rfl, ?_⟩; have n0_ := Aside0.mk (blk_below (g := gb497) (o := .cells #[.bool t500, .string t501, .int .i64 t502] 29 (0, 0)) (by (with_reducible repeat (first | refine blk_drewN ?_ _ | refine blk_drew ?_ | refine blk_alloc ?_ _)); refine blk_far ?_ NB497_498.out _; (with_reducible repeat (first | refine blk_drewN ?_ _ | refine blk_drew ?_ | refine blk_alloc ?_ _)); refine blk_far ?_ NB497_498.out _; (with_reducible repeat (first | refine blk_drewN ?_ _ | refine blk_drew ?_ | refine blk_alloc ?_ _)); refine blk_far ?_ NB497_498.out _; (with_reducible repeat (first | refine blk_drewN ?_ _ | refine blk_drew ?_ | refine blk_alloc ?_ _)); refine blk_put (cs := #[.bool t500, .string t501, .int .i64 a0_2]) ?_ 2 _ rfl; (with_reducible repeat (first | refine blk_drewN ?_ _ | refine blk_drew ?_ | refine blk_alloc ?_ _)); refine blk_put (cs := #[.bool t500, .string a0_1, .int .i64 a0_2]) ?_ 1 _ rfl; (with_reducible repeat (first | refine blk_drewN ?_ _ | refine blk_drew ?_ | refine blk_alloc ?_ _)); refine blk_put (cs := #[.bool a0_0, .string a0_1, .int .i64 a0_2]) ?_ 0 _ rfl; (with_reducible repeat (first | refine blk_drewN ?_ _ | refine blk_drew ?_ | refine blk_alloc ?_ _)); exact BK497.out) hb); have n1_ := Aside0.mk (blk_below (g := gb498) (o := .cells #[.bool t503, .string t504, .int .i64 t505] 29 (0, 0)) (by (with_reducible repeat (first | refine blk_drewN ?_ _ | refine blk_drew ?_ | refine blk_alloc ?_ _)); refine blk_put (cs := #[.bool t503, .string t504, .int .i64 a1_2]) ?_ 2 _ rfl; (with_reducible repeat (first | refine blk_drewN ?_ _ | refine blk_drew ?_ | refine blk_alloc ?_ _)); refine blk_put (cs := #[.bool t503, .string a1_1, .int .i64 a1_2]) ?_ 1 _ rfl; (with_reducible repeat (first | refine blk_drewN ?_ _ | refine blk_drew ?_ | refine blk_alloc ?_ _)); refine blk_put (cs := #[.bool a1_0, .string a1_1, .int .i64 a1_2]) ?_ 0 _ rfl; (with_reducible repeat (first | refine blk_drewN ?_ _ | refine blk_drew ?_ | refine blk_alloc ?_ _)); refine blk_far ?_ NB498_497.out _; (with_reducible repeat (first | refine blk_drewN ?_ _ | refine blk_drew ?_ | refine blk_alloc ?_ _)); refine blk_far ?_ NB498_497.out _; (with_reducible repeat (first | refine blk_drewN ?_ _ | refine blk_drew ?_ | refine blk_alloc ?_ _)); refine blk_far ?_ NB498_497.out _; (with_reducible repeat (first | refine blk_drewN ?_ _ | refine blk_drew ?_ | refine blk_alloc ?_ _)); exact BK498.out) hb); have n2_ := Aside0.mk (blk_below (g := gb499) (o := .cells #[.bool false, .string (⟨#[]⟩ : ByteArray), .int .i64 0] 29 (0, 0)) (by (with_reducible repeat (first | refine blk_drewN ?_ _ | refine blk_drew ?_ | refine blk_alloc ?_ _)); refine blk_far ?_ NB499_498.out _; (with_reducible repeat (first | refine blk_drewN ?_ _ | refine blk_drew ?_ | refine blk_alloc ?_ _)); refine blk_far ?_ NB499_498.out _; (with_reducible repeat (first | refine blk_drewN ?_ _ | refine blk_drew ?_ | refine blk_alloc ?_ _)); refine blk_far ?_ NB499_498.out _; (with_reducible repeat (first | refine blk_drewN ?_ _ | refine blk_drew ?_ | refine blk_alloc ?_ _)); refine blk_far ?_ NB499_497.out _; (with_reducible repeat (first | refine blk_drewN ?_ _ | refine blk_drew ?_ | refine blk_alloc ?_ _)); refine blk_far ?_ NB499_497.out _; (with_reducible repeat (first | refine blk_drewN ?_ _ | refine blk_drew ?_ | refine blk_alloc ?_ _)); refine blk_far ?_ NB499_497.out _; (with_reducible repeat (first | refine blk_drewN ?_ _ | refine blk_drew ?_ | refine blk_alloc ?_ _)); exact BK499.out) hb); have n3_ := Aside0.mk (below_step (bl_ HB).out hb); clear BK497; clear BK498; clear BK499; clear HB; have BK497 := n0_; have BK498 := n1_; have BK499 := n2_; have HB := n3_; clear n0_ n1_ n2_ n3_; (try clear hb); (try clear hb2); (try clear hk); (try clear hi); obtain ⟨hcz82_0, hcz82_1, hcz82_2, hfz82_0, hfz82_1, hfz82_2⟩ := bo3_ BK497; obtain ⟨hcz83_0, hcz83_1, hcz83_2, hfz83_0, hfz83_1, hfz83_2⟩ := bo3_ BK498) | ((with_reducible refine gate_callee (f := 83) rfl ?_); refine gl_ (some 38) Tryd.func83 #[.string t506, .string t507] ?_; (with_reducible refine (num_Sub.calls k t506 t507 t513 false _ A35.out).mono ?_); rintro e w84 ⟨rfl, hb⟩; refine ⟨_, rfl, ?_⟩; replace BK497 := bb_ BK497 hb; replace BK498 := bb_ BK498 hb; replace BK499 := bb_ BK499 hb; replace HB := Aside0.mk (below_step (bl_ HB).out hb); (try clear hb); (try clear hb2); (try clear hk); (try clear hi)) | ((with_reducible refine gate_callee (f := 83) rfl ?_); refine gl_ (some 50) Tryd.func83 #[.string t507, .string t506] ?_; (with_reducible refine (num_Sub.calls k t507 t506 t518 t519 _ A62.out).mono ?_); rintro e w85 ⟨rfl, hb⟩; refine ⟨_, rfl, ?_⟩; replace BK497 := bb_ BK497 hb; replace BK498 := bb_ BK498 hb; replace BK499 := bb_ BK499 hb; replace HB := Aside0.mk (below_step (bl_ HB).out hb); (try clear hb); (try clear hb2); (try clear hk); (try clear hi); obtain ⟨hcz86_0, hcz86_1, hcz86_2, hfz86_0, hfz86_1, hfz86_2⟩ := bo3_ BK498) | ((with_reducible refine gate_callee (f := 12) rfl ?_); refine gl_ (some 57) Tryd.func12 #[.bool t503, .string t518, .int .i64 t508] ?_; (with_reducible refine (dec_Made.calls k t503 t518 t508 t520 t521 t522 _ A63.out).mono ?_); rintro e w87 ⟨rfl, hb⟩; refine ⟨_, rfl, ?_⟩; replace BK497 := bb_ BK497 hb; replace BK498 := bb_ BK498 hb; replace BK499 := bb_ BK499 hb; replace HB := Aside0.mk (below_step (bl_ HB).out hb); (try clear hb); (try clear hb2); (try clear hk); (try clear hi); obtain ⟨hcz88_0, hcz88_1, hcz88_2, hfz88_0, hfz88_1, hfz88_2⟩ := bo3_ BK499))
      refine bodyPost_ret (results_cell_row rfl _ _ gb499 29 #[.bool t520, .string t521, .int .i64 t522] (0, 0) _ rfl (by (with_reducible repeat (first | refine blk_drewN ?_ _ | refine blk_drew ?_ | refine blk_alloc ?_ _)); refine blk_put (cs := #[.bool t520, .string t521, .int .i64 0]) ?_ 2 _ rfl; (with_reducible repeat (first | refine blk_drewN ?_ _ | refine blk_drew ?_ | refine blk_alloc ?_ _)); refine blk_put (cs := #[.bool t520, .string (⟨#[]⟩ : ByteArray), .int .i64 0]) ?_ 1 _ rfl; (with_reducible repeat (first | refine blk_drewN ?_ _ | refine blk_drew ?_ | refine blk_alloc ?_ _)); refine blk_put (cs := #[.bool false, .string (⟨#[]⟩ : ByteArray), .int .i64 0]) ?_ 0 _ rfl; (with_reducible repeat (first | refine blk_drewN ?_ _ | refine blk_drew ?_ | refine blk_alloc ?_ _)); exact BK499.out) Tryd.underlying29 rfl (by kernel_rfl)) rfl ?_
      exact ⟨ew_, (bl_ HB).out⟩

/-! ### dec_Dec_Minus: function 69 -/
def dec_Dec_Minus.f (k : Nat) (a0_0 : Bool) (a0_1 : ByteArray) (a0_2 : Int) : Option (Bool × ByteArray × Int) := (dec_Made.f k (!a0_0) a0_1 a0_2).bind fun bt525 => (some (bt525.1, bt525.2.1, bt525.2.2))
theorem dec_Dec_Minus.mono : ∀ a0 a1 a2 k, LeO (dec_Dec_Minus.f k a0 a1 a2) (dec_Dec_Minus.f (k + 1) a0 a1 a2) := by
  intro a0 a1 a2 k
  unfold dec_Dec_Minus.f
  repeat' first
      | (with_reducible exact dec_Made.mono _ _ _ _)
      | (with_reducible exact LeO.refl _)
      | (with_reducible exact LeO.none _)
      | (with_reducible refine LeO.ite ?_ ?_)
      | (with_reducible refine LeO.bind ?_ (fun _ => ?_))
      | exact dec_Made.mono _ _ _ _
      | exact LeO.none _
      | refine LeO.ite ?_ ?_
      | refine LeO.bind ?_ (fun _ => ?_)
set_option maxHeartbeats 8000000 in
set_option maxRecDepth 100000 in
theorem dec_Dec_Minus.calls (k : Nat) (a0_0 : Bool) (a0_1 : ByteArray) (a0_2 : Int) (r1 : Bool) (r2 : ByteArray) (r3 : Int) (w : World) (h : dec_Dec_Minus.f k a0_0 a0_1 a0_2 = some (r1, r2, r3)) :
    Calls Tryd.prog 69 #[.agg #[.bool a0_0, .string a0_1, .int .i64 a0_2]] w fun e w' => e = .returned (.agg #[.bool r1, .string r2, .int .i64 r3]) ∧ Below w.heap.size w w' := by
  have hu29 := Tryd.underlying29
  have HB := Aside0.mk (Below.refl w.heap.size w)
  have H : ((dec_Made.f k (!a0_0) a0_1 a0_2).bind fun bt525 => (some (bt525.1, bt525.2.1, bt525.2.2))) = some (r1, r2, r3) := h
  clear h
  replace H := Option.bind_eq_some_iff.mp H
  obtain ⟨⟨t525, t526, t527⟩, A20, H⟩ := H
  replace H : (some (t525, t526, t527)) = some (r1, r2, r3) := H
  have A2 := Aside0.mk A20
  clear A20
  simp only [Option.some.injEq, Prod.mk.injEq] at H
  obtain ⟨rfl, rfl, rfl⟩ := H
  go_enter Tryd.func69, Tryd.ntmps69
  go_wp2_with (first | ((with_reducible refine gate_dst (N := 1) rfl ?_); refine be_ 1 #[.bool a0_0, .string a0_1, .int .i64 a0_2] 29 ?_; intro gb523 hg w3 hbox hb; have BK523 := Aside0.mk (hbox); have GW523 := sz_ HB hg; have GE523 := sz_ HB hg; replace HB := Aside0.mk (below_step (bl_ HB).out hb); clear hb hbox hg) | ((with_reducible refine gate_dst (N := 2) rfl ?_); refine be_ 2 #[.bool false, .string (⟨#[]⟩ : ByteArray), .int .i64 0] 29 ?_; intro gb524 hg w4 hbox hb; have BK524 := Aside0.mk (hbox); have GW524 := sz_ HB hg; have GE524 := sz_ HB hg; have NB523_524 := na_ BK523 hg; have NB524_523 := nb_ BK523 hg; replace BK523 := bb_ BK523 hb; replace HB := Aside0.mk (below_step (bl_ HB).out hb); clear hb hbox hg; have hnb5 := NB523_524.out; have hnc5 := NB524_523.out; obtain ⟨hcz6_0, hcz6_1, hcz6_2, hfz6_0, hfz6_1, hfz6_2⟩ := bo3_ BK523) | ((with_reducible refine gate_callee (f := 12) rfl ?_); refine gl_ (some 10) Tryd.func12 #[.bool (!a0_0), .string a0_1, .int .i64 a0_2] ?_; (with_reducible refine (dec_Made.calls k (!a0_0) a0_1 a0_2 t525 t526 t527 _ A2.out).mono ?_); rintro e w7 ⟨rfl, hb⟩; refine ⟨_, rfl, ?_⟩; replace BK523 := bb_ BK523 hb; replace BK524 := bb_ BK524 hb; replace HB := Aside0.mk (below_step (bl_ HB).out hb); (try clear hb); (try clear hb2); (try clear hk); (try clear hi); obtain ⟨hcz8_0, hcz8_1, hcz8_2, hfz8_0, hfz8_1, hfz8_2⟩ := bo3_ BK524))
  refine bodyPost_ret (results_cell_row rfl _ _ gb524 29 #[.bool t525, .string t526, .int .i64 t527] (0, 0) _ rfl (by (with_reducible repeat (first | refine blk_drewN ?_ _ | refine blk_drew ?_ | refine blk_alloc ?_ _)); refine blk_put (cs := #[.bool t525, .string t526, .int .i64 0]) ?_ 2 _ rfl; (with_reducible repeat (first | refine blk_drewN ?_ _ | refine blk_drew ?_ | refine blk_alloc ?_ _)); refine blk_put (cs := #[.bool t525, .string (⟨#[]⟩ : ByteArray), .int .i64 0]) ?_ 1 _ rfl; (with_reducible repeat (first | refine blk_drewN ?_ _ | refine blk_drew ?_ | refine blk_alloc ?_ _)); refine blk_put (cs := #[.bool false, .string (⟨#[]⟩ : ByteArray), .int .i64 0]) ?_ 0 _ rfl; (with_reducible repeat (first | refine blk_drewN ?_ _ | refine blk_drew ?_ | refine blk_alloc ?_ _)); exact BK524.out) Tryd.underlying29 rfl (by kernel_rfl)) rfl ?_
  exact ⟨ew_, (bl_ HB).out⟩

/-! ### dec_Sub: function 47 -/
def dec_Sub.f (k : Nat) (a0_0 : Bool) (a0_1 : ByteArray) (a0_2 : Int) (a1_0 : Bool) (a1_1 : ByteArray) (a1_2 : Int) : Option (Bool × ByteArray × Int) := (dec_Dec_Minus.f k a1_0 a1_1 a1_2).bind fun bt531 => ((dec_Add.f k a0_0 a0_1 a0_2 bt531.1 bt531.2.1 bt531.2.2).bind fun bt534 => (some (bt534.1, bt534.2.1, bt534.2.2)))
theorem dec_Sub.mono : ∀ a0 a1 a2 a3 a4 a5 k, LeO (dec_Sub.f k a0 a1 a2 a3 a4 a5) (dec_Sub.f (k + 1) a0 a1 a2 a3 a4 a5) := by
  intro a0 a1 a2 a3 a4 a5 k
  unfold dec_Sub.f
  repeat' first
      | (with_reducible exact dec_Add.mono _ _ _ _ _ _ _)
      | (with_reducible exact dec_Dec_Minus.mono _ _ _ _)
      | (with_reducible exact LeO.refl _)
      | (with_reducible exact LeO.none _)
      | (with_reducible refine LeO.ite ?_ ?_)
      | (with_reducible refine LeO.bind ?_ (fun _ => ?_))
      | exact dec_Add.mono _ _ _ _ _ _ _
      | exact dec_Dec_Minus.mono _ _ _ _
      | exact LeO.none _
      | refine LeO.ite ?_ ?_
      | refine LeO.bind ?_ (fun _ => ?_)
set_option maxHeartbeats 8000000 in
set_option maxRecDepth 100000 in
theorem dec_Sub.calls (k : Nat) (a0_0 : Bool) (a0_1 : ByteArray) (a0_2 : Int) (a1_0 : Bool) (a1_1 : ByteArray) (a1_2 : Int) (r1 : Bool) (r2 : ByteArray) (r3 : Int) (w : World) (h : dec_Sub.f k a0_0 a0_1 a0_2 a1_0 a1_1 a1_2 = some (r1, r2, r3)) :
    Calls Tryd.prog 47 #[.agg #[.bool a0_0, .string a0_1, .int .i64 a0_2], .agg #[.bool a1_0, .string a1_1, .int .i64 a1_2]] w fun e w' => e = .returned (.agg #[.bool r1, .string r2, .int .i64 r3]) ∧ Below w.heap.size w w' := by
  have hu29 := Tryd.underlying29
  have HB := Aside0.mk (Below.refl w.heap.size w)
  have H : ((dec_Dec_Minus.f k a1_0 a1_1 a1_2).bind fun bt531 => ((dec_Add.f k a0_0 a0_1 a0_2 bt531.1 bt531.2.1 bt531.2.2).bind fun bt534 => (some (bt534.1, bt534.2.1, bt534.2.2)))) = some (r1, r2, r3) := h
  clear h
  replace H := Option.bind_eq_some_iff.mp H
  obtain ⟨⟨t531, t532, t533⟩, A30, H⟩ := H
  replace H : ((dec_Add.f k a0_0 a0_1 a0_2 t531 t532 t533).bind fun bt534 => (some (bt534.1, bt534.2.1, bt534.2.2))) = some (r1, r2, r3) := H
  have A3 := Aside0.mk A30
  clear A30
  replace H := Option.bind_eq_some_iff.mp H
  obtain ⟨⟨t534, t535, t536⟩, A40, H⟩ := H
  replace H : (some (t534, t535, t536)) = some (r1, r2, r3) := H
  have A4 := Aside0.mk A40
  clear A40
  simp only [Option.some.injEq, Prod.mk.injEq] at H
  obtain ⟨rfl, rfl, rfl⟩ := H
  go_enter Tryd.func47, Tryd.ntmps47
  try go_wp2_with (first | ((with_reducible refine gate_dst (N := 2) rfl ?_); refine be_ 2 #[.bool a0_0, .string a0_1, .int .i64 a0_2] 29 ?_; intro gb528 hg w5 hbox hb; have BK528 := Aside0.mk (hbox); have GW528 := sz_ HB hg; have GE528 := sz_ HB hg; replace HB := Aside0.mk (below_step (bl_ HB).out hb); clear hb hbox hg) | ((with_reducible refine gate_dst (N := 3) rfl ?_); refine be_ 3 #[.bool a1_0, .string a1_1, .int .i64 a1_2] 29 ?_; intro gb529 hg w6 hbox hb; have BK529 := Aside0.mk (hbox); have GW529 := sz_ HB hg; have GE529 := sz_ HB hg; have NB528_529 := na_ BK528 hg; have NB529_528 := nb_ BK528 hg; replace BK528 := bb_ BK528 hb; replace HB := Aside0.mk (below_step (bl_ HB).out hb); clear hb hbox hg) | ((with_reducible refine gate_dst (N := 4) rfl ?_); refine be_ 4 #[.bool false, .string (⟨#[]⟩ : ByteArray), .int .i64 0] 29 ?_; intro gb530 hg w7 hbox hb; have BK530 := Aside0.mk (hbox); have GW530 := sz_ HB hg; have GE530 := sz_ HB hg; have NB528_530 := na_ BK528 hg; have NB530_528 := nb_ BK528 hg; have NB529_530 := na_ BK529 hg; have NB530_529 := nb_ BK529 hg; replace BK528 := bb_ BK528 hb; replace BK529 := bb_ BK529 hb; replace HB := Aside0.mk (below_step (bl_ HB).out hb); clear hb hbox hg))
  replace BK528 := Aside0.mk (blk_drew BK528.out)
  replace BK529 := Aside0.mk (blk_drew BK529.out)
  replace BK530 := Aside0.mk (blk_drew BK530.out)
  replace HB := Aside0.mk (below_drew1 HB.out)
  refine start_ (n := 5) (S := fun w' => w'.cell? ⟨gb528, 0, none⟩ = some (.bool a0_0) ∧ w'.cell? ⟨gb528, 1, none⟩ = some (.string a0_1) ∧ w'.cell? ⟨gb528, 2, none⟩ = some (.int .i64 a0_2) ∧ w'.cell? ⟨gb529, 0, none⟩ = some (.bool a1_0) ∧ w'.cell? ⟨gb529, 1, none⟩ = some (.string a1_1) ∧ w'.cell? ⟨gb529, 2, none⟩ = some (.int .i64 a1_2)) (ds := []) #[false, false, false, false, false] (by kernel_rfl) rfl rfl ⟨bc_ BK528 0, bc_ BK528 1, bc_ BK528 2, bc_ BK529 0, bc_ BK529 1, bc_ BK529 2⟩ (fun hHeld => ?_)
  generalize w7.drew = w8 at BK528 BK529 BK530 HB hHeld ⊢
  refine tk0_ 0 5 #[true, false, false, false, false] hHeld rfl (by rintro w' ⟨s0, s1, s2, s3, s4, s5⟩; go_simp; with_reducible rfl) ?_
  refine tk0_ 1 6 #[true, true, false, false, false] hHeld rfl (by rintro w' ⟨s0, s1, s2, s3, s4, s5⟩; go_simp; with_reducible rfl) ?_
  refine one_ (i := 2) (N := some 7) #[true, true, true, false, false] rfl rfl (by kernel_rfl) (by decide) (fun K hK => ?_)
  refine gs_ Tryd.func69 #[.agg #[.bool a1_0, .string a1_1, .int .i64 a1_2]] ?_
  with_reducible refine (dec_Dec_Minus.calls k a1_0 a1_1 a1_2 t531 t532 t533 _ A3.out).mono ?_
  rintro e w9 ⟨rfl, hb⟩
  refine ⟨_, rfl, ?_⟩
  replace BK528 := bb_ BK528 hb
  replace BK529 := bb_ BK529 hb
  replace BK530 := bb_ BK530 hb
  replace HB := Aside0.mk (below_step (bl_ HB).out hb)
  (try clear hb)
  (try clear hb2)
  (try clear hk)
  (try clear hi)
  refine hK.out _ _ ⟨bc_ BK528 0, bc_ BK528 1, bc_ BK528 2, bc_ BK529 0, bc_ BK529 1, bc_ BK529 2⟩ (fun hHeld => ?_)
  clear hK K
  refine nm_ 7 ?_
  refine one_ (i := 3) (N := some 8) #[true, true, true, true, false] rfl rfl (by kernel_rfl) (by decide) (fun K hK => ?_)
  refine gs_ Tryd.func68 #[.agg #[.bool a0_0, .string a0_1, .int .i64 a0_2], .agg #[.bool t531, .string t532, .int .i64 t533]] ?_
  with_reducible refine (dec_Add.calls k a0_0 a0_1 a0_2 t531 t532 t533 t534 t535 t536 _ A4.out).mono ?_
  rintro e w10 ⟨rfl, hb⟩
  refine ⟨_, rfl, ?_⟩
  replace BK528 := bb_ BK528 hb
  replace BK529 := bb_ BK529 hb
  replace BK530 := bb_ BK530 hb
  replace HB := Aside0.mk (below_step (bl_ HB).out hb)
  (try clear hb)
  (try clear hb2)
  (try clear hk)
  (try clear hi)
  refine hK.out _ _ ⟨bc_ BK528 0, bc_ BK528 1, bc_ BK528 2, bc_ BK529 0, bc_ BK529 1, bc_ BK529 2⟩ (fun hHeld => ?_)
  clear hK K
  refine nm_ 8 ?_
  refine one_ (i := 4) (N := none) #[true, true, true, true, true] rfl rfl (by kernel_rfl) (by decide) (fun K hK => ?_)
  have hs11 : w10.cell? ⟨gb530, 0, none⟩ = some (.bool false) := bc_ BK530 0
  have hfs11 := blk_frozen BK530.out 0
  have hns11_0 := NB528_530.out
  have hns11_1 := NB529_530.out
  have hms11_0 := NB530_528.out
  have hms11_1 := NB530_529.out
  have hs12 : w10.cell? ⟨gb530, 1, none⟩ = some (.string (⟨#[]⟩ : ByteArray)) := bc_ BK530 1
  have hfs12 := blk_frozen BK530.out 1
  have hns12_0 := NB528_530.out
  have hns12_1 := NB529_530.out
  have hms12_0 := NB530_528.out
  have hms12_1 := NB530_529.out
  have hs13 : w10.cell? ⟨gb530, 2, none⟩ = some (.int .i64 0) := bc_ BK530 2
  have hfs13 := blk_frozen BK530.out 2
  have hns13_0 := NB528_530.out
  have hns13_1 := NB529_530.out
  have hms13_0 := NB530_528.out
  have hms13_1 := NB530_529.out
  refine skip_ (w1 := ?_) (by rfl) rfl ?_ ?_
  rotate_left
  · go_simp
    rfl
  refine hK.out _ _ ⟨((cell_far (p := ⟨gb530, _, none⟩) NB528_530.out _).trans (((cell_far (p := ⟨gb530, _, none⟩) NB528_530.out _).trans (((cell_far (p := ⟨gb530, _, none⟩) NB528_530.out _).trans (hHeld.1)))))), ((cell_far (p := ⟨gb530, _, none⟩) NB528_530.out _).trans (((cell_far (p := ⟨gb530, _, none⟩) NB528_530.out _).trans (((cell_far (p := ⟨gb530, _, none⟩) NB528_530.out _).trans (hHeld.2.1)))))), ((cell_far (p := ⟨gb530, _, none⟩) NB528_530.out _).trans (((cell_far (p := ⟨gb530, _, none⟩) NB528_530.out _).trans (((cell_far (p := ⟨gb530, _, none⟩) NB528_530.out _).trans (hHeld.2.2.1)))))), ((cell_far (p := ⟨gb530, _, none⟩) NB529_530.out _).trans (((cell_far (p := ⟨gb530, _, none⟩) NB529_530.out _).trans (((cell_far (p := ⟨gb530, _, none⟩) NB529_530.out _).trans (hHeld.2.2.2.1)))))), ((cell_far (p := ⟨gb530, _, none⟩) NB529_530.out _).trans (((cell_far (p := ⟨gb530, _, none⟩) NB529_530.out _).trans (((cell_far (p := ⟨gb530, _, none⟩) NB529_530.out _).trans (hHeld.2.2.2.2.1)))))), ((cell_far (p := ⟨gb530, _, none⟩) NB529_530.out _).trans (((cell_far (p := ⟨gb530, _, none⟩) NB529_530.out _).trans (((cell_far (p := ⟨gb530, _, none⟩) NB529_530.out _).trans (hHeld.2.2.2.2.2))))))⟩ (fun hHeld => ?_)
  clear hK K
  refine done_ (by kernel_rfl) ?_
  try go_wp2
  refine bodyPost_ret (results_cell_row rfl _ _ gb530 29 #[.bool t534, .string t535, .int .i64 t536] (0, 0) _ rfl (by (with_reducible repeat (first | refine blk_drewN ?_ _ | refine blk_drew ?_ | refine blk_alloc ?_ _)); refine blk_put (cs := #[.bool t534, .string t535, .int .i64 0]) ?_ 2 _ rfl; (with_reducible repeat (first | refine blk_drewN ?_ _ | refine blk_drew ?_ | refine blk_alloc ?_ _)); refine blk_put (cs := #[.bool t534, .string (⟨#[]⟩ : ByteArray), .int .i64 0]) ?_ 1 _ rfl; (with_reducible repeat (first | refine blk_drewN ?_ _ | refine blk_drew ?_ | refine blk_alloc ?_ _)); refine blk_put (cs := #[.bool false, .string (⟨#[]⟩ : ByteArray), .int .i64 0]) ?_ 0 _ rfl; (with_reducible repeat (first | refine blk_drewN ?_ _ | refine blk_drew ?_ | refine blk_alloc ?_ _)); exact BK530.out) Tryd.underlying29 rfl (by kernel_rfl)) rfl ?_
  exact ⟨ew_, (bl_ HB).out⟩

/-! ### dec_Cmp: function 24 -/
def dec_Cmp.f (k : Nat) (a0_0 : Bool) (a0_1 : ByteArray) (a0_2 : Int) (a1_0 : Bool) (a1_1 : ByteArray) (a1_2 : Int) : Option (Int) := (dec_Sub.f k a0_0 a0_1 a0_2 a1_0 a1_1 a1_2).bind fun bt539 => ((dec_Dec_Zero.f k bt539.1 bt539.2.1 bt539.2.2).bind fun t543 => (if t543 = true then (some 0) else (if bt539.1 = true then (some (-1)) else (some 1))))
theorem dec_Cmp.mono : ∀ a0 a1 a2 a3 a4 a5 k, LeO (dec_Cmp.f k a0 a1 a2 a3 a4 a5) (dec_Cmp.f (k + 1) a0 a1 a2 a3 a4 a5) := by
  intro a0 a1 a2 a3 a4 a5 k
  unfold dec_Cmp.f
  repeat' first
      | (with_reducible exact dec_Dec_Zero.mono _ _ _ _)
      | (with_reducible exact dec_Sub.mono _ _ _ _ _ _ _)
      | (with_reducible exact LeO.refl _)
      | (with_reducible exact LeO.none _)
      | (with_reducible refine LeO.ite ?_ ?_)
      | (with_reducible refine LeO.bind ?_ (fun _ => ?_))
      | exact dec_Dec_Zero.mono _ _ _ _
      | exact dec_Sub.mono _ _ _ _ _ _ _
      | exact LeO.none _
      | refine LeO.ite ?_ ?_
      | refine LeO.bind ?_ (fun _ => ?_)
set_option maxHeartbeats 8000000 in
set_option maxRecDepth 100000 in
theorem dec_Cmp.calls (k : Nat) (a0_0 : Bool) (a0_1 : ByteArray) (a0_2 : Int) (a1_0 : Bool) (a1_1 : ByteArray) (a1_2 : Int) (r : Int) (w : World) (h : dec_Cmp.f k a0_0 a0_1 a0_2 a1_0 a1_1 a1_2 = some r) :
    Calls Tryd.prog 24 #[.agg #[.bool a0_0, .string a0_1, .int .i64 a0_2], .agg #[.bool a1_0, .string a1_1, .int .i64 a1_2]] w fun e w' => e = .returned (.int .i64 r) ∧ Below w.heap.size w w' := by
  have hu29 := Tryd.underlying29
  have HB := Aside0.mk (Below.refl w.heap.size w)
  have H : ((dec_Sub.f k a0_0 a0_1 a0_2 a1_0 a1_1 a1_2).bind fun bt539 => ((dec_Dec_Zero.f k bt539.1 bt539.2.1 bt539.2.2).bind fun t543 => (if t543 = true then (some 0) else (if bt539.1 = true then (some (-1)) else (some 1))))) = some r := h
  clear h
  replace H := Option.bind_eq_some_iff.mp H
  obtain ⟨⟨t539, t540, t541⟩, A30, H⟩ := H
  replace H : ((dec_Dec_Zero.f k t539 t540 t541).bind fun t543 => (if t543 = true then (some 0) else (if t539 = true then (some (-1)) else (some 1)))) = some r := H
  have A3 := Aside0.mk A30
  clear A30
  replace H := Option.bind_eq_some_iff.mp H
  obtain ⟨t543, A40, H⟩ := H
  replace H : (if t543 = true then (some 0) else (if t539 = true then (some (-1)) else (some 1))) = some r := H
  have A4 := Aside0.mk A40
  clear A40
  by_cases c5 : t543 = true
  · subst c5
    have H1 : (some 0) = some r := by rw [if_pos rfl] at H; exact H
    clear H
    have H := H1
    clear H1
    obtain rfl := Option.some.inj H
    go_enter Tryd.func24, Tryd.ntmps24
    go_wp2_with (first | ((with_reducible refine gate_dst (N := 2) rfl ?_); refine be_ 2 #[.bool a0_0, .string a0_1, .int .i64 a0_2] 29 ?_; intro gb537 hg w6 hbox hb; have BK537 := Aside0.mk (hbox); have GW537 := sz_ HB hg; have GE537 := sz_ HB hg; replace HB := Aside0.mk (below_step (bl_ HB).out hb); clear hb hbox hg) | ((with_reducible refine gate_dst (N := 3) rfl ?_); refine be_ 3 #[.bool a1_0, .string a1_1, .int .i64 a1_2] 29 ?_; intro gb538 hg w7 hbox hb; have BK538 := Aside0.mk (hbox); have GW538 := sz_ HB hg; have GE538 := sz_ HB hg; have NB537_538 := na_ BK537 hg; have NB538_537 := nb_ BK537 hg; replace BK537 := bb_ BK537 hb; replace HB := Aside0.mk (below_step (bl_ HB).out hb); clear hb hbox hg; have hnb8 := NB537_538.out; have hnc8 := NB538_537.out; obtain ⟨hcz9_0, hcz9_1, hcz9_2, hfz9_0, hfz9_1, hfz9_2⟩ := bo3_ BK537; obtain ⟨hcz10_0, hcz10_1, hcz10_2, hfz10_0, hfz10_1, hfz10_2⟩ := bo3_ BK538) | ((with_reducible refine gate_callee (f := 47) rfl ?_); refine gl_ (some 8) Tryd.func47 #[.agg #[.bool a0_0, .string a0_1, .int .i64 a0_2], .agg #[.bool a1_0, .string a1_1, .int .i64 a1_2]] ?_; (with_reducible refine (dec_Sub.calls k a0_0 a0_1 a0_2 a1_0 a1_1 a1_2 t539 t540 t541 _ A3.out).mono ?_); rintro e w11 ⟨rfl, hb⟩; refine ⟨_, rfl, ?_⟩; replace BK537 := bb_ BK537 hb; replace BK538 := bb_ BK538 hb; replace HB := Aside0.mk (below_step (bl_ HB).out hb); (try clear hb); (try clear hb2); (try clear hk); (try clear hi)) | ((with_reducible refine gate_dst (N := 5) rfl ?_); refine be_ 5 #[.bool false, .string (⟨#[]⟩ : ByteArray), .int .i64 0] 29 ?_; intro gb542 hg w12 hbox hb; have BK542 := Aside0.mk (hbox); have GW542 := sz_ HB hg; have GE542 := sz_ HB hg; have NB537_542 := na_ BK537 hg; have NB542_537 := nb_ BK537 hg; have NB538_542 := na_ BK538 hg; have NB542_538 := nb_ BK538 hg; replace BK537 := bb_ BK537 hb; replace BK538 := bb_ BK538 hb; replace HB := Aside0.mk (below_step (bl_ HB).out hb); clear hb hbox hg; have hnb13 := NB542_537.out; have hnc13 := NB537_542.out; have hnb14 := NB542_538.out; have hnc14 := NB538_542.out; obtain ⟨hcz15_0, hcz15_1, hcz15_2, hfz15_0, hfz15_1, hfz15_2⟩ := bo3_ BK542) | ((with_reducible refine gate_callee (f := 19) rfl ?_); refine gl_ (some 11) Tryd.func19 #[.agg #[.bool t539, .string t540, .int .i64 t541]] ?_; (with_reducible refine (dec_Dec_Zero.calls k t539 t540 t541 true _ A4.out).mono ?_); rintro e w16 ⟨rfl, hb⟩; refine ⟨_, rfl, ?_⟩; have n0_ := Aside0.mk (blk_below (g := gb537) (o := .cells #[.bool a0_0, .string a0_1, .int .i64 a0_2] 29 (0, 0)) (by (with_reducible repeat (first | refine blk_drewN ?_ _ | refine blk_drew ?_ | refine blk_alloc ?_ _)); refine blk_far ?_ NB537_542.out _; (with_reducible repeat (first | refine blk_drewN ?_ _ | refine blk_drew ?_ | refine blk_alloc ?_ _)); refine blk_far ?_ NB537_542.out _; (with_reducible repeat (first | refine blk_drewN ?_ _ | refine blk_drew ?_ | refine blk_alloc ?_ _)); refine blk_far ?_ NB537_542.out _; (with_reducible repeat (first | refine blk_drewN ?_ _ | refine blk_drew ?_ | refine blk_alloc ?_ _)); exact BK537.out) hb); have n1_ := Aside0.mk (blk_below (g := gb538) (o := .cells #[.bool a1_0, .string a1_1, .int .i64 a1_2] 29 (0, 0)) (by (with_reducible repeat (first | refine blk_drewN ?_ _ | refine blk_drew ?_ | refine blk_alloc ?_ _)); refine blk_far ?_ NB538_542.out _; (with_reducible repeat (first | refine blk_drewN ?_ _ | refine blk_drew ?_ | refine blk_alloc ?_ _)); refine blk_far ?_ NB538_542.out _; (with_reducible repeat (first | refine blk_drewN ?_ _ | refine blk_drew ?_ | refine blk_alloc ?_ _)); refine blk_far ?_ NB538_542.out _; (with_reducible repeat (first | refine blk_drewN ?_ _ | refine blk_drew ?_ | refine blk_alloc ?_ _)); exact BK538.out) hb); have n2_ := Aside0.mk (blk_below (g := gb542) (o := .cells #[.bool t539, .string t540, .int .i64 t541] 29 (0, 0)) (by (with_reducible repeat (first | refine blk_drewN ?_ _ | refine blk_drew ?_ | refine blk_alloc ?_ _)); refine blk_put (cs := #[.bool t539, .string t540, .int .i64 0]) ?_ 2 _ rfl; (with_reducible repeat (first | refine blk_drewN ?_ _ | refine blk_drew ?_ | refine blk_alloc ?_ _)); refine blk_put (cs := #[.bool t539, .string (⟨#[]⟩ : ByteArray), .int .i64 0]) ?_ 1 _ rfl; (with_reducible repeat (first | refine blk_drewN ?_ _ | refine blk_drew ?_ | refine blk_alloc ?_ _)); refine blk_put (cs := #[.bool false, .string (⟨#[]⟩ : ByteArray), .int .i64 0]) ?_ 0 _ rfl; (with_reducible repeat (first | refine blk_drewN ?_ _ | refine blk_drew ?_ | refine blk_alloc ?_ _)); exact BK542.out) hb); have n3_ := Aside0.mk (below_step (bl_ HB).out hb); clear BK537; clear BK538; clear BK542; clear HB; have BK537 := n0_; have BK538 := n1_; have BK542 := n2_; have HB := n3_; clear n0_ n1_ n2_ n3_; (try clear hb); (try clear hb2); (try clear hk); (try clear hi)))
    go_ret
    exact ⟨ew_, (bl_ HB).out⟩
  · replace c5 := Bool.eq_false_iff.mpr c5
    subst c5
    have H1 : (if t539 = true then (some (-1)) else (some 1)) = some r := by rw [if_neg (show ¬ (false = true) by decide)] at H; exact H
    clear H
    have H := H1
    clear H1
    by_cases c17 : t539 = true
    · subst c17
      have H1 : (some (-1)) = some r := by rw [if_pos rfl] at H; exact H
      clear H
      have H := H1
      clear H1
      obtain rfl := Option.some.inj H
      go_enter Tryd.func24, Tryd.ntmps24
      go_wp2_with (first | ((with_reducible refine gate_dst (N := 2) rfl ?_); refine be_ 2 #[.bool a0_0, .string a0_1, .int .i64 a0_2] 29 ?_; intro gb537 hg w18 hbox hb; have BK537 := Aside0.mk (hbox); have GW537 := sz_ HB hg; have GE537 := sz_ HB hg; replace HB := Aside0.mk (below_step (bl_ HB).out hb); clear hb hbox hg) | ((with_reducible refine gate_dst (N := 3) rfl ?_); refine be_ 3 #[.bool a1_0, .string a1_1, .int .i64 a1_2] 29 ?_; intro gb538 hg w19 hbox hb; have BK538 := Aside0.mk (hbox); have GW538 := sz_ HB hg; have GE538 := sz_ HB hg; have NB537_538 := na_ BK537 hg; have NB538_537 := nb_ BK537 hg; replace BK537 := bb_ BK537 hb; replace HB := Aside0.mk (below_step (bl_ HB).out hb); clear hb hbox hg; have hnb20 := NB537_538.out; have hnc20 := NB538_537.out; obtain ⟨hcz21_0, hcz21_1, hcz21_2, hfz21_0, hfz21_1, hfz21_2⟩ := bo3_ BK537; obtain ⟨hcz22_0, hcz22_1, hcz22_2, hfz22_0, hfz22_1, hfz22_2⟩ := bo3_ BK538) | ((with_reducible refine gate_callee (f := 47) rfl ?_); refine gl_ (some 8) Tryd.func47 #[.agg #[.bool a0_0, .string a0_1, .int .i64 a0_2], .agg #[.bool a1_0, .string a1_1, .int .i64 a1_2]] ?_; (with_reducible refine (dec_Sub.calls k a0_0 a0_1 a0_2 a1_0 a1_1 a1_2 true t540 t541 _ A3.out).mono ?_); rintro e w23 ⟨rfl, hb⟩; refine ⟨_, rfl, ?_⟩; replace BK537 := bb_ BK537 hb; replace BK538 := bb_ BK538 hb; replace HB := Aside0.mk (below_step (bl_ HB).out hb); (try clear hb); (try clear hb2); (try clear hk); (try clear hi)) | ((with_reducible refine gate_dst (N := 5) rfl ?_); refine be_ 5 #[.bool false, .string (⟨#[]⟩ : ByteArray), .int .i64 0] 29 ?_; intro gb542 hg w24 hbox hb; have BK542 := Aside0.mk (hbox); have GW542 := sz_ HB hg; have GE542 := sz_ HB hg; have NB537_542 := na_ BK537 hg; have NB542_537 := nb_ BK537 hg; have NB538_542 := na_ BK538 hg; have NB542_538 := nb_ BK538 hg; replace BK537 := bb_ BK537 hb; replace BK538 := bb_ BK538 hb; replace HB := Aside0.mk (below_step (bl_ HB).out hb); clear hb hbox hg; have hnb25 := NB542_537.out; have hnc25 := NB537_542.out; have hnb26 := NB542_538.out; have hnc26 := NB538_542.out; obtain ⟨hcz27_0, hcz27_1, hcz27_2, hfz27_0, hfz27_1, hfz27_2⟩ := bo3_ BK542) | ((with_reducible refine gate_callee (f := 19) rfl ?_); refine gl_ (some 11) Tryd.func19 #[.agg #[.bool true, .string t540, .int .i64 t541]] ?_; (with_reducible refine (dec_Dec_Zero.calls k true t540 t541 false _ A4.out).mono ?_); rintro e w28 ⟨rfl, hb⟩; refine ⟨_, rfl, ?_⟩; have n0_ := Aside0.mk (blk_below (g := gb537) (o := .cells #[.bool a0_0, .string a0_1, .int .i64 a0_2] 29 (0, 0)) (by (with_reducible repeat (first | refine blk_drewN ?_ _ | refine blk_drew ?_ | refine blk_alloc ?_ _)); refine blk_far ?_ NB537_542.out _; (with_reducible repeat (first | refine blk_drewN ?_ _ | refine blk_drew ?_ | refine blk_alloc ?_ _)); refine blk_far ?_ NB537_542.out _; (with_reducible repeat (first | refine blk_drewN ?_ _ | refine blk_drew ?_ | refine blk_alloc ?_ _)); refine blk_far ?_ NB537_542.out _; (with_reducible repeat (first | refine blk_drewN ?_ _ | refine blk_drew ?_ | refine blk_alloc ?_ _)); exact BK537.out) hb); have n1_ := Aside0.mk (blk_below (g := gb538) (o := .cells #[.bool a1_0, .string a1_1, .int .i64 a1_2] 29 (0, 0)) (by (with_reducible repeat (first | refine blk_drewN ?_ _ | refine blk_drew ?_ | refine blk_alloc ?_ _)); refine blk_far ?_ NB538_542.out _; (with_reducible repeat (first | refine blk_drewN ?_ _ | refine blk_drew ?_ | refine blk_alloc ?_ _)); refine blk_far ?_ NB538_542.out _; (with_reducible repeat (first | refine blk_drewN ?_ _ | refine blk_drew ?_ | refine blk_alloc ?_ _)); refine blk_far ?_ NB538_542.out _; (with_reducible repeat (first | refine blk_drewN ?_ _ | refine blk_drew ?_ | refine blk_alloc ?_ _)); exact BK538.out) hb); have n2_ := Aside0.mk (blk_below (g := gb542) (o := .cells #[.bool true, .string t540, .int .i64 t541] 29 (0, 0)) (by (with_reducible repeat (first | refine blk_drewN ?_ _ | refine blk_drew ?_ | refine blk_alloc ?_ _)); refine blk_put (cs := #[.bool true, .string t540, .int .i64 0]) ?_ 2 _ rfl; (with_reducible repeat (first | refine blk_drewN ?_ _ | refine blk_drew ?_ | refine blk_alloc ?_ _)); refine blk_put (cs := #[.bool true, .string (⟨#[]⟩ : ByteArray), .int .i64 0]) ?_ 1 _ rfl; (with_reducible repeat (first | refine blk_drewN ?_ _ | refine blk_drew ?_ | refine blk_alloc ?_ _)); refine blk_put (cs := #[.bool false, .string (⟨#[]⟩ : ByteArray), .int .i64 0]) ?_ 0 _ rfl; (with_reducible repeat (first | refine blk_drewN ?_ _ | refine blk_drew ?_ | refine blk_alloc ?_ _)); exact BK542.out) hb); have n3_ := Aside0.mk (below_step (bl_ HB).out hb); clear BK537; clear BK538; clear BK542; clear HB; have BK537 := n0_; have BK538 := n1_; have BK542 := n2_; have HB := n3_; clear n0_ n1_ n2_ n3_; (try clear hb); (try clear hb2); (try clear hk); (try clear hi); obtain ⟨hcz29_0, hcz29_1, hcz29_2, hfz29_0, hfz29_1, hfz29_2⟩ := bo3_ BK542))
      go_ret
      exact ⟨ew_, (bl_ HB).out⟩
    · replace c17 := Bool.eq_false_iff.mpr c17
      subst c17
      have H1 : (some 1) = some r := by rw [if_neg (show ¬ (false = true) by decide)] at H; exact H
      clear H
      have H := H1
      clear H1
      obtain rfl := Option.some.inj H
      go_enter Tryd.func24, Tryd.ntmps24
      go_wp2_with (first | ((with_reducible refine gate_dst (N := 2) rfl ?_); refine be_ 2 #[.bool a0_0, .string a0_1, .int .i64 a0_2] 29 ?_; intro gb537 hg w30 hbox hb; have BK537 := Aside0.mk (hbox); have GW537 := sz_ HB hg; have GE537 := sz_ HB hg; replace HB := Aside0.mk (below_step (bl_ HB).out hb); clear hb hbox hg) | ((with_reducible refine gate_dst (N := 3) rfl ?_); refine be_ 3 #[.bool a1_0, .string a1_1, .int .i64 a1_2] 29 ?_; intro gb538 hg w31 hbox hb; have BK538 := Aside0.mk (hbox); have GW538 := sz_ HB hg; have GE538 := sz_ HB hg; have NB537_538 := na_ BK537 hg; have NB538_537 := nb_ BK537 hg; replace BK537 := bb_ BK537 hb; replace HB := Aside0.mk (below_step (bl_ HB).out hb); clear hb hbox hg; have hnb32 := NB537_538.out; have hnc32 := NB538_537.out; obtain ⟨hcz33_0, hcz33_1, hcz33_2, hfz33_0, hfz33_1, hfz33_2⟩ := bo3_ BK537; obtain ⟨hcz34_0, hcz34_1, hcz34_2, hfz34_0, hfz34_1, hfz34_2⟩ := bo3_ BK538) | ((with_reducible refine gate_callee (f := 47) rfl ?_); refine gl_ (some 8) Tryd.func47 #[.agg #[.bool a0_0, .string a0_1, .int .i64 a0_2], .agg #[.bool a1_0, .string a1_1, .int .i64 a1_2]] ?_; (with_reducible refine (dec_Sub.calls k a0_0 a0_1 a0_2 a1_0 a1_1 a1_2 false t540 t541 _ A3.out).mono ?_); rintro e w35 ⟨rfl, hb⟩; refine ⟨_, rfl, ?_⟩; replace BK537 := bb_ BK537 hb; replace BK538 := bb_ BK538 hb; replace HB := Aside0.mk (below_step (bl_ HB).out hb); (try clear hb); (try clear hb2); (try clear hk); (try clear hi)) | ((with_reducible refine gate_dst (N := 5) rfl ?_); refine be_ 5 #[.bool false, .string (⟨#[]⟩ : ByteArray), .int .i64 0] 29 ?_; intro gb542 hg w36 hbox hb; have BK542 := Aside0.mk (hbox); have GW542 := sz_ HB hg; have GE542 := sz_ HB hg; have NB537_542 := na_ BK537 hg; have NB542_537 := nb_ BK537 hg; have NB538_542 := na_ BK538 hg; have NB542_538 := nb_ BK538 hg; replace BK537 := bb_ BK537 hb; replace BK538 := bb_ BK538 hb; replace HB := Aside0.mk (below_step (bl_ HB).out hb); clear hb hbox hg; have hnb37 := NB542_537.out; have hnc37 := NB537_542.out; have hnb38 := NB542_538.out; have hnc38 := NB538_542.out; obtain ⟨hcz39_0, hcz39_1, hcz39_2, hfz39_0, hfz39_1, hfz39_2⟩ := bo3_ BK542) | ((with_reducible refine gate_callee (f := 19) rfl ?_); refine gl_ (some 11) Tryd.func19 #[.agg #[.bool false, .string t540, .int .i64 t541]] ?_; (with_reducible refine (dec_Dec_Zero.calls k false t540 t541 false _ A4.out).mono ?_); rintro e w40 ⟨rfl, hb⟩; refine ⟨_, rfl, ?_⟩; have n0_ := Aside0.mk (blk_below (g := gb537) (o := .cells #[.bool a0_0, .string a0_1, .int .i64 a0_2] 29 (0, 0)) (by (with_reducible repeat (first | refine blk_drewN ?_ _ | refine blk_drew ?_ | refine blk_alloc ?_ _)); refine blk_far ?_ NB537_542.out _; (with_reducible repeat (first | refine blk_drewN ?_ _ | refine blk_drew ?_ | refine blk_alloc ?_ _)); refine blk_far ?_ NB537_542.out _; (with_reducible repeat (first | refine blk_drewN ?_ _ | refine blk_drew ?_ | refine blk_alloc ?_ _)); refine blk_far ?_ NB537_542.out _; (with_reducible repeat (first | refine blk_drewN ?_ _ | refine blk_drew ?_ | refine blk_alloc ?_ _)); exact BK537.out) hb); have n1_ := Aside0.mk (blk_below (g := gb538) (o := .cells #[.bool a1_0, .string a1_1, .int .i64 a1_2] 29 (0, 0)) (by (with_reducible repeat (first | refine blk_drewN ?_ _ | refine blk_drew ?_ | refine blk_alloc ?_ _)); refine blk_far ?_ NB538_542.out _; (with_reducible repeat (first | refine blk_drewN ?_ _ | refine blk_drew ?_ | refine blk_alloc ?_ _)); refine blk_far ?_ NB538_542.out _; (with_reducible repeat (first | refine blk_drewN ?_ _ | refine blk_drew ?_ | refine blk_alloc ?_ _)); refine blk_far ?_ NB538_542.out _; (with_reducible repeat (first | refine blk_drewN ?_ _ | refine blk_drew ?_ | refine blk_alloc ?_ _)); exact BK538.out) hb); have n2_ := Aside0.mk (blk_below (g := gb542) (o := .cells #[.bool false, .string t540, .int .i64 t541] 29 (0, 0)) (by (with_reducible repeat (first | refine blk_drewN ?_ _ | refine blk_drew ?_ | refine blk_alloc ?_ _)); refine blk_put (cs := #[.bool false, .string t540, .int .i64 0]) ?_ 2 _ rfl; (with_reducible repeat (first | refine blk_drewN ?_ _ | refine blk_drew ?_ | refine blk_alloc ?_ _)); refine blk_put (cs := #[.bool false, .string (⟨#[]⟩ : ByteArray), .int .i64 0]) ?_ 1 _ rfl; (with_reducible repeat (first | refine blk_drewN ?_ _ | refine blk_drew ?_ | refine blk_alloc ?_ _)); refine blk_put (cs := #[.bool false, .string (⟨#[]⟩ : ByteArray), .int .i64 0]) ?_ 0 _ rfl; (with_reducible repeat (first | refine blk_drewN ?_ _ | refine blk_drew ?_ | refine blk_alloc ?_ _)); exact BK542.out) hb); have n3_ := Aside0.mk (below_step (bl_ HB).out hb); clear BK537; clear BK538; clear BK542; clear HB; have BK537 := n0_; have BK538 := n1_; have BK542 := n2_; have HB := n3_; clear n0_ n1_ n2_ n3_; (try clear hb); (try clear hb2); (try clear hk); (try clear hi); obtain ⟨hcz41_0, hcz41_1, hcz41_2, hfz41_0, hfz41_1, hfz41_2⟩ := bo3_ BK542))
      go_ret
      exact ⟨ew_, (bl_ HB).out⟩

end Go.Proofs.YthkpmiajcmihjaaDoor.P
