-- written by a program of this session (wip/p2)
import Derived.Test.YthkpmiajcmihjaaGreatDoorPx0
import Derived.Test.YthkpmiajcmihjaaGreatDoorPx2
import Derived.Test.YthkpmiajcmihjaaGreatDoorPx3
import Derived.Test.YthkpmiajcmihjaaGreatDoorPx4
import Derived.Test.YthkpmiajcmihjaaGreatDoorPx11
namespace Go.Proofs.YthkpmiajcmihjaaGreatDoor.P
open Go.RowKit Go.Proofs.YthkpmiajcmihjaaGreatDoorW.PrintWords Go.Proofs.YthkpmiajcmihjaaGreatDoorW.PrintLast Go.Proofs.YthkpmiajcmihjaaGreatDoorW.PrintMore
attribute [local go_sem] max2_int min2_int max_two min_two max_three min_three max_four min_four   -- for this text's walks alone
set_option linter.unusedVariables false
set_option linter.unusedSimpArgs false

/-! ### dec_Add: function 56 -/
def dec_Add.f (k : Nat) (a0_0 : Bool) (a0_1 : ByteArray) (a0_2 : Int) (a1_0 : Bool) (a1_1 : ByteArray) (a1_2 : Int) : Option (Bool × ByteArray × Int) := (dec_Dec_Norm.f k a0_0 a0_1 a0_2).bind fun bt340 => ((dec_Dec_Norm.f k a1_0 a1_1 a1_2).bind fun bt343 => ((dec_both.f bt340.1 bt340.2.1 bt340.2.2 bt343.1 bt343.2.1 bt343.2.2).bind fun bt346 => (if (bt340.1 == bt343.1) = true then ((num_Add.f k bt346.1 bt346.2.1).bind fun t349 => ((dec_Made.f k bt340.1 t349 bt346.2.2).bind fun bt350 => (some (bt350.1, bt350.2.1, bt350.2.2)))) else ((num_Sub.f k bt346.1 bt346.2.1).bind fun bt353 => (if bt353.2 = true then ((dec_Made.f k bt340.1 bt353.1 bt346.2.2).bind fun bt355 => (some (bt355.1, bt355.2.1, bt355.2.2))) else ((num_Sub.f k bt346.2.1 bt346.1).bind fun bt358 => ((dec_Made.f k bt343.1 bt358.1 bt346.2.2).bind fun bt360 => (some (bt360.1, bt360.2.1, bt360.2.2)))))))))
theorem dec_Add.mono : ∀ a0 a1 a2 a3 a4 a5 k, LeO (dec_Add.f k a0 a1 a2 a3 a4 a5) (dec_Add.f (k + 1) a0 a1 a2 a3 a4 a5) := by
  intro a0 a1 a2 a3 a4 a5 k
  unfold dec_Add.f
  repeat' first
      | (with_reducible exact dec_Dec_Norm.mono _ _ _ _)
      | (with_reducible exact dec_Made.mono _ _ _ _)
      | (with_reducible exact num_Add.mono _ _ _)
      | (with_reducible exact num_Sub.mono _ _ _)
      | (with_reducible exact LeO.refl _)
      | (with_reducible exact LeO.none _)
      | (with_reducible refine LeO.ite ?_ ?_)
      | (with_reducible refine LeO.bind ?_ (fun _ => ?_))
      | exact dec_Dec_Norm.mono _ _ _ _
      | exact dec_Made.mono _ _ _ _
      | exact num_Add.mono _ _ _
      | exact num_Sub.mono _ _ _
      | exact LeO.none _
      | refine LeO.ite ?_ ?_
      | refine LeO.bind ?_ (fun _ => ?_)
def dec_Add.T4 : Bool × List (List Nat × List Nat) := (true, [([], []), ([0], [0]), ([], []), ([], []), ([2, 3], [2, 3]), ([], []), ([1, 4, 5, 4], [1, 4, 5]), ([6, 6, 0, 1, 2, 3, 4, 5, 6], [6])])
def dec_Add.B4 : List Nat := [0, 1, 0, 0, 12, 0, 63, 127]
theorem dec_Add.tab4 : rtab .any (opsOf Tryz.f56 4) = dec_Add.T4 := by kernel_rfl
theorem dec_Add.bits4 : waitsOk dec_Add.T4.2 dec_Add.B4 = true := by kernel_rfl
set_option maxHeartbeats 8000000 in
set_option maxRecDepth 100000 in
theorem dec_Add.calls (k : Nat) (a0_0 : Bool) (a0_1 : ByteArray) (a0_2 : Int) (a1_0 : Bool) (a1_1 : ByteArray) (a1_2 : Int) (r1 : Bool) (r2 : ByteArray) (r3 : Int) (w : World) (h : dec_Add.f k a0_0 a0_1 a0_2 a1_0 a1_1 a1_2 = some (r1, r2, r3)) :
    Calls Tryz.prog 56 #[.agg #[.bool a0_0, .string a0_1, .int .i64 a0_2], .agg #[.bool a1_0, .string a1_1, .int .i64 a1_2]] w fun e w' => e = .returned (.agg #[.bool r1, .string r2, .int .i64 r3]) ∧ Below w.heap.size w w' := by
  have hu31 := Tryz.underlying31
  have HB := Aside0.mk (Below.refl w.heap.size w)
  have H : ((dec_Dec_Norm.f k a0_0 a0_1 a0_2).bind fun bt340 => ((dec_Dec_Norm.f k a1_0 a1_1 a1_2).bind fun bt343 => ((dec_both.f bt340.1 bt340.2.1 bt340.2.2 bt343.1 bt343.2.1 bt343.2.2).bind fun bt346 => (if (bt340.1 == bt343.1) = true then ((num_Add.f k bt346.1 bt346.2.1).bind fun t349 => ((dec_Made.f k bt340.1 t349 bt346.2.2).bind fun bt350 => (some (bt350.1, bt350.2.1, bt350.2.2)))) else ((num_Sub.f k bt346.1 bt346.2.1).bind fun bt353 => (if bt353.2 = true then ((dec_Made.f k bt340.1 bt353.1 bt346.2.2).bind fun bt355 => (some (bt355.1, bt355.2.1, bt355.2.2))) else ((num_Sub.f k bt346.2.1 bt346.1).bind fun bt358 => ((dec_Made.f k bt343.1 bt358.1 bt346.2.2).bind fun bt360 => (some (bt360.1, bt360.2.1, bt360.2.2)))))))))) = some (r1, r2, r3) := h
  clear h
  replace H := Option.bind_eq_some_iff.mp H
  obtain ⟨⟨t340, t341, t342⟩, A30, H⟩ := H
  replace H : ((dec_Dec_Norm.f k a1_0 a1_1 a1_2).bind fun bt343 => ((dec_both.f t340 t341 t342 bt343.1 bt343.2.1 bt343.2.2).bind fun bt346 => (if (t340 == bt343.1) = true then ((num_Add.f k bt346.1 bt346.2.1).bind fun t349 => ((dec_Made.f k t340 t349 bt346.2.2).bind fun bt350 => (some (bt350.1, bt350.2.1, bt350.2.2)))) else ((num_Sub.f k bt346.1 bt346.2.1).bind fun bt353 => (if bt353.2 = true then ((dec_Made.f k t340 bt353.1 bt346.2.2).bind fun bt355 => (some (bt355.1, bt355.2.1, bt355.2.2))) else ((num_Sub.f k bt346.2.1 bt346.1).bind fun bt358 => ((dec_Made.f k bt343.1 bt358.1 bt346.2.2).bind fun bt360 => (some (bt360.1, bt360.2.1, bt360.2.2))))))))) = some (r1, r2, r3) := H
  have A3 := Aside0.mk A30
  clear A30
  replace H := Option.bind_eq_some_iff.mp H
  obtain ⟨⟨t343, t344, t345⟩, A40, H⟩ := H
  replace H : ((dec_both.f t340 t341 t342 t343 t344 t345).bind fun bt346 => (if (t340 == t343) = true then ((num_Add.f k bt346.1 bt346.2.1).bind fun t349 => ((dec_Made.f k t340 t349 bt346.2.2).bind fun bt350 => (some (bt350.1, bt350.2.1, bt350.2.2)))) else ((num_Sub.f k bt346.1 bt346.2.1).bind fun bt353 => (if bt353.2 = true then ((dec_Made.f k t340 bt353.1 bt346.2.2).bind fun bt355 => (some (bt355.1, bt355.2.1, bt355.2.2))) else ((num_Sub.f k bt346.2.1 bt346.1).bind fun bt358 => ((dec_Made.f k t343 bt358.1 bt346.2.2).bind fun bt360 => (some (bt360.1, bt360.2.1, bt360.2.2)))))))) = some (r1, r2, r3) := H
  have A4 := Aside0.mk A40
  clear A40
  replace H := Option.bind_eq_some_iff.mp H
  obtain ⟨⟨t346, t347, t348⟩, A50, H⟩ := H
  replace H : (if (t340 == t343) = true then ((num_Add.f k t346 t347).bind fun t349 => ((dec_Made.f k t340 t349 t348).bind fun bt350 => (some (bt350.1, bt350.2.1, bt350.2.2)))) else ((num_Sub.f k t346 t347).bind fun bt353 => (if bt353.2 = true then ((dec_Made.f k t340 bt353.1 t348).bind fun bt355 => (some (bt355.1, bt355.2.1, bt355.2.2))) else ((num_Sub.f k t347 t346).bind fun bt358 => ((dec_Made.f k t343 bt358.1 t348).bind fun bt360 => (some (bt360.1, bt360.2.1, bt360.2.2))))))) = some (r1, r2, r3) := H
  have A5 := Aside0.mk A50
  clear A50
  by_cases c6 : (t340 == t343) = true
  · rw [if_pos c6] at H
    have c6b0 : (t340 == t343) = true := c6
    (try (have c6b1 : decide (t340 = t343) = true := by simpa using c6))
    (try (have c6b2 : (t340 == t343) = true := by simpa using c6))
    clear c6
    replace H := Option.bind_eq_some_iff.mp H
    obtain ⟨t349, A70, H⟩ := H
    replace H : ((dec_Made.f k t340 t349 t348).bind fun bt350 => (some (bt350.1, bt350.2.1, bt350.2.2))) = some (r1, r2, r3) := H
    have A7 := Aside0.mk A70
    clear A70
    replace H := Option.bind_eq_some_iff.mp H
    obtain ⟨⟨t350, t351, t352⟩, A80, H⟩ := H
    replace H : (some (t350, t351, t352)) = some (r1, r2, r3) := H
    have A8 := Aside0.mk A80
    clear A80
    simp only [Option.some.injEq, Prod.mk.injEq] at H
    obtain ⟨rfl, rfl, rfl⟩ := H
    go_enter Tryz.func56, Tryz.ntmps56
    try go_wp2_with (first | ((with_reducible refine gate_dst (N := 2) rfl ?_); refine be_ 2 #[.bool a0_0, .string a0_1, .int .i64 a0_2] 31 ?_; intro gb337 hg w9 hbox hb; have BK337 := Aside0.mk (hbox); have GW337 := sz_ HB hg; have GE337 := sz_ HB hg; replace HB := Aside0.mk (below_step (bl_ HB).out hb); clear hb hbox hg) | ((with_reducible refine gate_dst (N := 3) rfl ?_); refine be_ 3 #[.bool a1_0, .string a1_1, .int .i64 a1_2] 31 ?_; intro gb338 hg w10 hbox hb; have BK338 := Aside0.mk (hbox); have GW338 := sz_ HB hg; have GE338 := sz_ HB hg; have NB337_338 := na_ BK337 hg; have NB338_337 := nb_ BK337 hg; replace BK337 := bb_ BK337 hb; replace HB := Aside0.mk (below_step (bl_ HB).out hb); clear hb hbox hg) | ((with_reducible refine gate_dst (N := 4) rfl ?_); refine be_ 4 #[.bool false, .string (⟨#[]⟩ : ByteArray), .int .i64 0] 31 ?_; intro gb339 hg w11 hbox hb; have BK339 := Aside0.mk (hbox); have GW339 := sz_ HB hg; have GE339 := sz_ HB hg; have NB337_339 := na_ BK337 hg; have NB339_337 := nb_ BK337 hg; have NB338_339 := na_ BK338 hg; have NB339_338 := nb_ BK338 hg; replace BK337 := bb_ BK337 hb; replace BK338 := bb_ BK338 hb; replace HB := Aside0.mk (below_step (bl_ HB).out hb); clear hb hbox hg))
    replace BK337 := Aside0.mk (blk_drew BK337.out)
    replace BK338 := Aside0.mk (blk_drew BK338.out)
    replace BK339 := Aside0.mk (blk_drew BK339.out)
    replace HB := Aside0.mk (below_drew1 HB.out)
    refine start_ (n := 6) (S := fun w' => w'.cell? ⟨gb337, 0, none⟩ = some (.bool a0_0) ∧ w'.cell? ⟨gb337, 1, none⟩ = some (.string a0_1) ∧ w'.cell? ⟨gb337, 2, none⟩ = some (.int .i64 a0_2) ∧ w'.cell? ⟨gb338, 0, none⟩ = some (.bool a1_0) ∧ w'.cell? ⟨gb338, 1, none⟩ = some (.string a1_1) ∧ w'.cell? ⟨gb338, 2, none⟩ = some (.int .i64 a1_2)) (ds := [4, 5]) #[false, false, false, false, false, false] (by kernel_rfl) rfl rfl ⟨bc_ BK337 0, bc_ BK337 1, bc_ BK337 2, bc_ BK338 0, bc_ BK338 1, bc_ BK338 2⟩ (fun hHeld => ?_)
    generalize w11.drew = w12 at BK337 BK338 BK339 HB hHeld ⊢
    refine tk0_ 0 12 #[true, false, false, false, false, false] hHeld rfl (by rintro w' ⟨s0, s1, s2, s3, s4, s5⟩; go_simp; with_reducible rfl) ?_
    refine tk0_ 2 14 #[true, false, true, false, false, false] hHeld rfl (by rintro w' ⟨s0, s1, s2, s3, s4, s5⟩; go_simp; with_reducible rfl) ?_
    refine one_ (i := 1) (N := some 13) #[true, true, true, false, false, false] rfl rfl (by kernel_rfl) (by decide) (fun K hK => ?_)
    refine gs_ Tryz.func8 #[.agg #[.bool a0_0, .string a0_1, .int .i64 a0_2]] ?_
    with_reducible refine (dec_Dec_Norm.calls k a0_0 a0_1 a0_2 t340 t341 t342 _ A3.out).mono ?_
    rintro e w13 ⟨rfl, hb⟩
    refine ⟨_, rfl, ?_⟩
    replace BK337 := bb_ BK337 hb
    replace BK338 := bb_ BK338 hb
    replace BK339 := bb_ BK339 hb
    replace HB := Aside0.mk (below_step (bl_ HB).out hb)
    (try clear hb)
    (try clear hb2)
    (try clear hk)
    (try clear hi)
    refine hK.out _ _ ⟨bc_ BK337 0, bc_ BK337 1, bc_ BK337 2, bc_ BK338 0, bc_ BK338 1, bc_ BK338 2⟩ (fun hHeld => ?_)
    clear hK K
    refine nm_ 13 ?_
    refine one_ (i := 3) (N := some 15) #[true, true, true, true, false, false] rfl rfl (by kernel_rfl) (by decide) (fun K hK => ?_)
    refine gs_ Tryz.func8 #[.agg #[.bool a1_0, .string a1_1, .int .i64 a1_2]] ?_
    with_reducible refine (dec_Dec_Norm.calls k a1_0 a1_1 a1_2 t343 t344 t345 _ A4.out).mono ?_
    rintro e w14 ⟨rfl, hb⟩
    refine ⟨_, rfl, ?_⟩
    replace BK337 := bb_ BK337 hb
    replace BK338 := bb_ BK338 hb
    replace BK339 := bb_ BK339 hb
    replace HB := Aside0.mk (below_step (bl_ HB).out hb)
    (try clear hb)
    (try clear hb2)
    (try clear hk)
    (try clear hi)
    refine hK.out _ _ ⟨bc_ BK337 0, bc_ BK337 1, bc_ BK337 2, bc_ BK338 0, bc_ BK338 1, bc_ BK338 2⟩ (fun hHeld => ?_)
    clear hK K
    refine nm_ 15 ?_
    refine last_ (i := 4) (N := none) #[true, true, true, true, true, false] rfl rfl (by kernel_rfl) (by decide) (fun K hK => ?_)
    have hs15 : w14.cell? ⟨gb337, 0, none⟩ = some (.bool a0_0) := bc_ BK337 0
    have hfs15 := blk_frozen BK337.out 0
    have hns15_1 := NB338_337.out
    have hns15_2 := NB339_337.out
    have hms15_1 := NB337_338.out
    have hms15_2 := NB337_339.out
    have hs16 : w14.cell? ⟨gb337, 1, none⟩ = some (.string a0_1) := bc_ BK337 1
    have hfs16 := blk_frozen BK337.out 1
    have hns16_1 := NB338_337.out
    have hns16_2 := NB339_337.out
    have hms16_1 := NB337_338.out
    have hms16_2 := NB337_339.out
    have hs17 : w14.cell? ⟨gb337, 2, none⟩ = some (.int .i64 a0_2) := bc_ BK337 2
    have hfs17 := blk_frozen BK337.out 2
    have hns17_1 := NB338_337.out
    have hns17_2 := NB339_337.out
    have hms17_1 := NB337_338.out
    have hms17_2 := NB337_339.out
    refine skip_ (w1 := ?_) (by rfl) rfl ?_ ?_
    rotate_left
    · go_simp
      rfl
    refine hK.out _ _ ?_
    clear hK K
    refine last_ (i := 5) (N := none) #[true, true, true, true, true, true] rfl rfl (by kernel_rfl) (by decide) (fun K hK => ?_)
    have hs18 : w14.cell? ⟨gb338, 0, none⟩ = some (.bool a1_0) := bc_ BK338 0
    have hfs18 := blk_frozen BK338.out 0
    have hns18_0 := NB337_338.out
    have hns18_2 := NB339_338.out
    have hms18_0 := NB338_337.out
    have hms18_2 := NB338_339.out
    have hs19 : w14.cell? ⟨gb338, 1, none⟩ = some (.string a1_1) := bc_ BK338 1
    have hfs19 := blk_frozen BK338.out 1
    have hns19_0 := NB337_338.out
    have hns19_2 := NB339_338.out
    have hms19_0 := NB338_337.out
    have hms19_2 := NB338_339.out
    have hs20 : w14.cell? ⟨gb338, 2, none⟩ = some (.int .i64 a1_2) := bc_ BK338 2
    have hfs20 := blk_frozen BK338.out 2
    have hns20_0 := NB337_338.out
    have hns20_2 := NB339_338.out
    have hms20_0 := NB338_337.out
    have hms20_2 := NB338_339.out
    refine skip_ (w1 := ?_) (by rfl) rfl ?_ ?_
    rotate_left
    · go_simp
      rfl
    refine hK.out _ _ ?_
    clear hK K
    refine done_ (by kernel_rfl) ?_
    have hnb21 := NB337_338.out
    have hnc21 := NB338_337.out
    have hnb22 := NB337_339.out
    have hnc22 := NB339_337.out
    obtain ⟨hcz23_0, hcz23_1, hcz23_2, hfz23_0, hfz23_1, hfz23_2⟩ := bo3_ BK337
    have hnb24 := NB338_339.out
    have hnc24 := NB339_338.out
    obtain ⟨hcz25_0, hcz25_1, hcz25_2, hfz25_0, hfz25_1, hfz25_2⟩ := bo3_ BK338
    try go_wp2_with (first | ((with_reducible refine gate_callee (f := 73) rfl ?_); refine gl_ (some 19) Tryz.func73 #[.agg #[.bool t340, .string t341, .int .i64 t342], .agg #[.bool t343, .string t344, .int .i64 t345]] ?_; (with_reducible refine (dec_both.calls t340 t341 t342 t343 t344 t345 t346 t347 t348 _ A5.out).mono ?_); rintro e w26 ⟨rfl, hb⟩; refine ⟨_, rfl, ?_⟩; have n0_ := Aside0.mk (blk_below (g := gb337) (o := .cells #[.bool t340, .string t341, .int .i64 t342] 31 (0, 0)) (by (with_reducible repeat (first | refine blk_drewN ?_ _ | refine blk_drew ?_ | refine blk_alloc ?_ _)); refine blk_far ?_ NB337_338.out _; (with_reducible repeat (first | refine blk_drewN ?_ _ | refine blk_drew ?_ | refine blk_alloc ?_ _)); refine blk_far ?_ NB337_338.out _; (with_reducible repeat (first | refine blk_drewN ?_ _ | refine blk_drew ?_ | refine blk_alloc ?_ _)); refine blk_far ?_ NB337_338.out _; (with_reducible repeat (first | refine blk_drewN ?_ _ | refine blk_drew ?_ | refine blk_alloc ?_ _)); refine blk_put (cs := #[.bool t340, .string t341, .int .i64 a0_2]) ?_ 2 _ rfl; (with_reducible repeat (first | refine blk_drewN ?_ _ | refine blk_drew ?_ | refine blk_alloc ?_ _)); refine blk_put (cs := #[.bool t340, .string a0_1, .int .i64 a0_2]) ?_ 1 _ rfl; (with_reducible repeat (first | refine blk_drewN ?_ _ | refine blk_drew ?_ | refine blk_alloc ?_ _)); refine blk_put (cs := #[.bool a0_0, .string a0_1, .int .i64 a0_2]) ?_ 0 _ rfl; (with_reducible repeat (first | refine blk_drewN ?_ _ | refine blk_drew ?_ | refine blk_alloc ?_ _)); exact BK337.out) hb); have n1_ := Aside0.mk (blk_below (g := gb338) (o := .cells #[.bool t343, .string t344, .int .i64 t345] 31 (0, 0)) (by (with_reducible repeat (first | refine blk_drewN ?_ _ | refine blk_drew ?_ | refine blk_alloc ?_ _)); refine blk_put (cs := #[.bool t343, .string t344, .int .i64 a1_2]) ?_ 2 _ rfl; (with_reducible repeat (first | refine blk_drewN ?_ _ | refine blk_drew ?_ | refine blk_alloc ?_ _)); refine blk_put (cs := #[.bool t343, .string a1_1, .int .i64 a1_2]) ?_ 1 _ rfl; (with_reducible repeat (first | refine blk_drewN ?_ _ | refine blk_drew ?_ | refine blk_alloc ?_ _)); refine blk_put (cs := #[.bool a1_0, .string a1_1, .int .i64 a1_2]) ?_ 0 _ rfl; (with_reducible repeat (first | refine blk_drewN ?_ _ | refine blk_drew ?_ | refine blk_alloc ?_ _)); refine blk_far ?_ NB338_337.out _; (with_reducible repeat (first | refine blk_drewN ?_ _ | refine blk_drew ?_ | refine blk_alloc ?_ _)); refine blk_far ?_ NB338_337.out _; (with_reducible repeat (first | refine blk_drewN ?_ _ | refine blk_drew ?_ | refine blk_alloc ?_ _)); refine blk_far ?_ NB338_337.out _; (with_reducible repeat (first | refine blk_drewN ?_ _ | refine blk_drew ?_ | refine blk_alloc ?_ _)); exact BK338.out) hb); have n2_ := Aside0.mk (blk_below (g := gb339) (o := .cells #[.bool false, .string (⟨#[]⟩ : ByteArray), .int .i64 0] 31 (0, 0)) (by (with_reducible repeat (first | refine blk_drewN ?_ _ | refine blk_drew ?_ | refine blk_alloc ?_ _)); refine blk_far ?_ NB339_338.out _; (with_reducible repeat (first | refine blk_drewN ?_ _ | refine blk_drew ?_ | refine blk_alloc ?_ _)); refine blk_far ?_ NB339_338.out _; (with_reducible repeat (first | refine blk_drewN ?_ _ | refine blk_drew ?_ | refine blk_alloc ?_ _)); refine blk_far ?_ NB339_338.out _; (with_reducible repeat (first | refine blk_drewN ?_ _ | refine blk_drew ?_ | refine blk_alloc ?_ _)); refine blk_far ?_ NB339_337.out _; (with_reducible repeat (first | refine blk_drewN ?_ _ | refine blk_drew ?_ | refine blk_alloc ?_ _)); refine blk_far ?_ NB339_337.out _; (with_reducible repeat (first | refine blk_drewN ?_ _ | refine blk_drew ?_ | refine blk_alloc ?_ _)); refine blk_far ?_ NB339_337.out _; (with_reducible repeat (first | refine blk_drewN ?_ _ | refine blk_drew ?_ | refine blk_alloc ?_ _)); exact BK339.out) hb); have n3_ := Aside0.mk (below_step (bl_ HB).out hb); clear BK337; clear BK338; clear BK339; clear HB; have BK337 := n0_; have BK338 := n1_; have BK339 := n2_; have HB := n3_; clear n0_ n1_ n2_ n3_; (try clear hb); (try clear hb2); (try clear hk); (try clear hi); obtain ⟨hcz27_0, hcz27_1, hcz27_2, hfz27_0, hfz27_1, hfz27_2⟩ := bo3_ BK337; obtain ⟨hcz28_0, hcz28_1, hcz28_2, hfz28_0, hfz28_1, hfz28_2⟩ := bo3_ BK338))
    replace BK337 := Aside0.mk (blk_drew BK337.out)
    replace BK338 := Aside0.mk (blk_drew BK338.out)
    replace BK339 := Aside0.mk (blk_drew BK339.out)
    replace HB := Aside0.mk (below_drew1 HB.out)
    refine start_ (n := 8) (S := fun w' => w'.cell? ⟨gb337, 0, none⟩ = some (.bool t340) ∧ w'.cell? ⟨gb337, 1, none⟩ = some (.string t341) ∧ w'.cell? ⟨gb337, 2, none⟩ = some (.int .i64 t342)) (ds := []) #[false, false, false, false, false, false, false, false] (by kernel_rfl) rfl rfl ⟨bc_ BK337 0, bc_ BK337 1, bc_ BK337 2⟩ (fun hHeld => ?_); refine with_tabW dec_Add.tab4 dec_Add.bits4 (fun HT_ HW_ => ?_)
    generalize w26.drew = w29 at BK337 BK338 BK339 HB hHeld ⊢
    refine pu_ 0 28 #[true, false, false, false, false, false, false, false] HT_ ?_
    refine pu_ 2 30 #[true, false, true, false, false, false, false, false] HT_ ?_
    refine pu_ 3 31 #[true, false, true, true, false, false, false, false] HT_ ?_
    refine pu_ 5 33 #[true, false, true, true, false, true, false, false] HT_ ?_
    refine tk_ 1 29 #[true, true, true, true, false, true, false, false] HT_ HW_ hHeld rfl (by rintro w' ⟨s0, s1, s2⟩; go_simp; with_reducible rfl) ?_
    refine one_ (i := 4) (N := some 32) #[true, true, true, true, true, true, false, false] rfl rfl (one_of HT_.out (by kernel_rfl)) (by decide) (fun K hK => ?_)
    refine gs_ Tryz.func68 #[.string t346, .string t347] ?_
    with_reducible refine (num_Add.calls k t346 t347 t349 _ A7.out).mono ?_
    rintro e w30 ⟨rfl, hb⟩
    refine ⟨_, rfl, ?_⟩
    replace BK337 := bb_ BK337 hb
    replace BK338 := bb_ BK338 hb
    replace BK339 := bb_ BK339 hb
    replace HB := Aside0.mk (below_step (bl_ HB).out hb)
    (try clear hb)
    (try clear hb2)
    (try clear hk)
    (try clear hi)
    refine hK.out _ _ ⟨bc_ BK337 0, bc_ BK337 1, bc_ BK337 2⟩ (fun hHeld => ?_)
    clear hK K
    refine nm_ 32 ?_
    refine one_ (i := 6) (N := some 34) #[true, true, true, true, true, true, true, false] rfl rfl (one_of HT_.out (by kernel_rfl)) (by decide) (fun K hK => ?_)
    refine gs_ Tryz.func16 #[.bool t340, .string t349, .int .i64 t348] ?_
    with_reducible refine (dec_Made.calls k t340 t349 t348 t350 t351 t352 _ A8.out).mono ?_
    rintro e w31 ⟨rfl, hb⟩
    refine ⟨_, rfl, ?_⟩
    replace BK337 := bb_ BK337 hb
    replace BK338 := bb_ BK338 hb
    replace BK339 := bb_ BK339 hb
    replace HB := Aside0.mk (below_step (bl_ HB).out hb)
    (try clear hb)
    (try clear hb2)
    (try clear hk)
    (try clear hi)
    refine hK.out _ _ ⟨bc_ BK337 0, bc_ BK337 1, bc_ BK337 2⟩ (fun hHeld => ?_)
    clear hK K
    refine nm_ 34 ?_
    refine one_ (i := 7) (N := none) #[true, true, true, true, true, true, true, true] rfl rfl (one_of HT_.out (by kernel_rfl)) (by decide) (fun K hK => ?_)
    have hs32 : w31.cell? ⟨gb339, 0, none⟩ = some (.bool false) := bc_ BK339 0
    have hfs32 := blk_frozen BK339.out 0
    have hns32_0 := NB337_339.out
    have hns32_1 := NB338_339.out
    have hms32_0 := NB339_337.out
    have hms32_1 := NB339_338.out
    have hs33 : w31.cell? ⟨gb339, 1, none⟩ = some (.string (⟨#[]⟩ : ByteArray)) := bc_ BK339 1
    have hfs33 := blk_frozen BK339.out 1
    have hns33_0 := NB337_339.out
    have hns33_1 := NB338_339.out
    have hms33_0 := NB339_337.out
    have hms33_1 := NB339_338.out
    have hs34 : w31.cell? ⟨gb339, 2, none⟩ = some (.int .i64 0) := bc_ BK339 2
    have hfs34 := blk_frozen BK339.out 2
    have hns34_0 := NB337_339.out
    have hns34_1 := NB338_339.out
    have hms34_0 := NB339_337.out
    have hms34_1 := NB339_338.out
    refine skip_ (w1 := ?_) (by rfl) rfl ?_ ?_
    rotate_left
    · go_simp
      rfl
    refine hK.out _ _ ⟨((cell_far (p := ⟨gb339, _, none⟩) NB337_339.out _).trans (((cell_far (p := ⟨gb339, _, none⟩) NB337_339.out _).trans (((cell_far (p := ⟨gb339, _, none⟩) NB337_339.out _).trans (hHeld.1)))))), ((cell_far (p := ⟨gb339, _, none⟩) NB337_339.out _).trans (((cell_far (p := ⟨gb339, _, none⟩) NB337_339.out _).trans (((cell_far (p := ⟨gb339, _, none⟩) NB337_339.out _).trans (hHeld.2.1)))))), ((cell_far (p := ⟨gb339, _, none⟩) NB337_339.out _).trans (((cell_far (p := ⟨gb339, _, none⟩) NB337_339.out _).trans (((cell_far (p := ⟨gb339, _, none⟩) NB337_339.out _).trans (hHeld.2.2))))))⟩ (fun hHeld => ?_)
    clear hK K
    refine done_ (done_of HT_.out (by kernel_rfl)) ?_
    try go_wp2
    refine bodyPost_ret (results_cell_row rfl _ _ gb339 31 #[.bool t350, .string t351, .int .i64 t352] (0, 0) _ rfl (by (with_reducible repeat (first | refine blk_drewN ?_ _ | refine blk_drew ?_ | refine blk_alloc ?_ _)); refine blk_put (cs := #[.bool t350, .string t351, .int .i64 0]) ?_ 2 _ rfl; (with_reducible repeat (first | refine blk_drewN ?_ _ | refine blk_drew ?_ | refine blk_alloc ?_ _)); refine blk_put (cs := #[.bool t350, .string (⟨#[]⟩ : ByteArray), .int .i64 0]) ?_ 1 _ rfl; (with_reducible repeat (first | refine blk_drewN ?_ _ | refine blk_drew ?_ | refine blk_alloc ?_ _)); refine blk_put (cs := #[.bool false, .string (⟨#[]⟩ : ByteArray), .int .i64 0]) ?_ 0 _ rfl; (with_reducible repeat (first | refine blk_drewN ?_ _ | refine blk_drew ?_ | refine blk_alloc ?_ _)); exact BK339.out) Tryz.underlying31 rfl (by kernel_rfl)) rfl ?_
    exact ⟨ew_, (bl_ HB).out⟩
  · rw [if_neg c6] at H
    have c6b0 : (t340 == t343) = false := by simpa using c6
    (try (have c6b1 : decide (t340 = t343) = false := by simpa using c6))
    (try (have c6b2 : (t340 == t343) = false := by simpa using c6))
    (try (have c6b3 : ¬ (t340 = t343) := by simpa using c6))
    clear c6
    replace H := Option.bind_eq_some_iff.mp H
    obtain ⟨⟨t353, t354⟩, A350, H⟩ := H
    replace H : (if t354 = true then ((dec_Made.f k t340 t353 t348).bind fun bt355 => (some (bt355.1, bt355.2.1, bt355.2.2))) else ((num_Sub.f k t347 t346).bind fun bt358 => ((dec_Made.f k t343 bt358.1 t348).bind fun bt360 => (some (bt360.1, bt360.2.1, bt360.2.2))))) = some (r1, r2, r3) := H
    have A35 := Aside0.mk A350
    clear A350
    by_cases c36 : t354 = true
    · subst c36
      have H1 : ((dec_Made.f k t340 t353 t348).bind fun bt355 => (some (bt355.1, bt355.2.1, bt355.2.2))) = some (r1, r2, r3) := by rw [if_pos rfl] at H; exact H
      clear H
      have H := H1
      clear H1
      replace H := Option.bind_eq_some_iff.mp H
      obtain ⟨⟨t355, t356, t357⟩, A370, H⟩ := H
      replace H : (some (t355, t356, t357)) = some (r1, r2, r3) := H
      have A37 := Aside0.mk A370
      clear A370
      simp only [Option.some.injEq, Prod.mk.injEq] at H
      obtain ⟨rfl, rfl, rfl⟩ := H
      go_enter Tryz.func56, Tryz.ntmps56
      try go_wp2_with (first | ((with_reducible refine gate_dst (N := 2) rfl ?_); refine be_ 2 #[.bool a0_0, .string a0_1, .int .i64 a0_2] 31 ?_; intro gb337 hg w38 hbox hb; have BK337 := Aside0.mk (hbox); have GW337 := sz_ HB hg; have GE337 := sz_ HB hg; replace HB := Aside0.mk (below_step (bl_ HB).out hb); clear hb hbox hg) | ((with_reducible refine gate_dst (N := 3) rfl ?_); refine be_ 3 #[.bool a1_0, .string a1_1, .int .i64 a1_2] 31 ?_; intro gb338 hg w39 hbox hb; have BK338 := Aside0.mk (hbox); have GW338 := sz_ HB hg; have GE338 := sz_ HB hg; have NB337_338 := na_ BK337 hg; have NB338_337 := nb_ BK337 hg; replace BK337 := bb_ BK337 hb; replace HB := Aside0.mk (below_step (bl_ HB).out hb); clear hb hbox hg) | ((with_reducible refine gate_dst (N := 4) rfl ?_); refine be_ 4 #[.bool false, .string (⟨#[]⟩ : ByteArray), .int .i64 0] 31 ?_; intro gb339 hg w40 hbox hb; have BK339 := Aside0.mk (hbox); have GW339 := sz_ HB hg; have GE339 := sz_ HB hg; have NB337_339 := na_ BK337 hg; have NB339_337 := nb_ BK337 hg; have NB338_339 := na_ BK338 hg; have NB339_338 := nb_ BK338 hg; replace BK337 := bb_ BK337 hb; replace BK338 := bb_ BK338 hb; replace HB := Aside0.mk (below_step (bl_ HB).out hb); clear hb hbox hg))
      replace BK337 := Aside0.mk (blk_drew BK337.out)
      replace BK338 := Aside0.mk (blk_drew BK338.out)
      replace BK339 := Aside0.mk (blk_drew BK339.out)
      replace HB := Aside0.mk (below_drew1 HB.out)
      refine start_ (n := 6) (S := fun w' => w'.cell? ⟨gb337, 0, none⟩ = some (.bool a0_0) ∧ w'.cell? ⟨gb337, 1, none⟩ = some (.string a0_1) ∧ w'.cell? ⟨gb337, 2, none⟩ = some (.int .i64 a0_2) ∧ w'.cell? ⟨gb338, 0, none⟩ = some (.bool a1_0) ∧ w'.cell? ⟨gb338, 1, none⟩ = some (.string a1_1) ∧ w'.cell? ⟨gb338, 2, none⟩ = some (.int .i64 a1_2)) (ds := [4, 5]) #[false, false, false, false, false, false] (by kernel_rfl) rfl rfl ⟨bc_ BK337 0, bc_ BK337 1, bc_ BK337 2, bc_ BK338 0, bc_ BK338 1, bc_ BK338 2⟩ (fun hHeld => ?_)
      generalize w40.drew = w41 at BK337 BK338 BK339 HB hHeld ⊢
      refine tk0_ 0 12 #[true, false, false, false, false, false] hHeld rfl (by rintro w' ⟨s0, s1, s2, s3, s4, s5⟩; go_simp; with_reducible rfl) ?_
      refine tk0_ 2 14 #[true, false, true, false, false, false] hHeld rfl (by rintro w' ⟨s0, s1, s2, s3, s4, s5⟩; go_simp; with_reducible rfl) ?_
      refine one_ (i := 1) (N := some 13) #[true, true, true, false, false, false] rfl rfl (by kernel_rfl) (by decide) (fun K hK => ?_)
      refine gs_ Tryz.func8 #[.agg #[.bool a0_0, .string a0_1, .int .i64 a0_2]] ?_
      with_reducible refine (dec_Dec_Norm.calls k a0_0 a0_1 a0_2 t340 t341 t342 _ A3.out).mono ?_
      rintro e w42 ⟨rfl, hb⟩
      refine ⟨_, rfl, ?_⟩
      replace BK337 := bb_ BK337 hb
      replace BK338 := bb_ BK338 hb
      replace BK339 := bb_ BK339 hb
      replace HB := Aside0.mk (below_step (bl_ HB).out hb)
      (try clear hb)
      (try clear hb2)
      (try clear hk)
      (try clear hi)
      refine hK.out _ _ ⟨bc_ BK337 0, bc_ BK337 1, bc_ BK337 2, bc_ BK338 0, bc_ BK338 1, bc_ BK338 2⟩ (fun hHeld => ?_)
      clear hK K
      refine nm_ 13 ?_
      refine one_ (i := 3) (N := some 15) #[true, true, true, true, false, false] rfl rfl (by kernel_rfl) (by decide) (fun K hK => ?_)
      refine gs_ Tryz.func8 #[.agg #[.bool a1_0, .string a1_1, .int .i64 a1_2]] ?_
      with_reducible refine (dec_Dec_Norm.calls k a1_0 a1_1 a1_2 t343 t344 t345 _ A4.out).mono ?_
      rintro e w43 ⟨rfl, hb⟩
      refine ⟨_, rfl, ?_⟩
      replace BK337 := bb_ BK337 hb
      replace BK338 := bb_ BK338 hb
      replace BK339 := bb_ BK339 hb
      replace HB := Aside0.mk (below_step (bl_ HB).out hb)
      (try clear hb)
      (try clear hb2)
      (try clear hk)
      (try clear hi)
      refine hK.out _ _ ⟨bc_ BK337 0, bc_ BK337 1, bc_ BK337 2, bc_ BK338 0, bc_ BK338 1, bc_ BK338 2⟩ (fun hHeld => ?_)
      clear hK K
      refine nm_ 15 ?_
      refine last_ (i := 4) (N := none) #[true, true, true, true, true, false] rfl rfl (by kernel_rfl) (by decide) (fun K hK => ?_)
      have hs44 : w43.cell? ⟨gb337, 0, none⟩ = some (.bool a0_0) := bc_ BK337 0
      have hfs44 := blk_frozen BK337.out 0
      have hns44_1 := NB338_337.out
      have hns44_2 := NB339_337.out
      have hms44_1 := NB337_338.out
      have hms44_2 := NB337_339.out
      have hs45 : w43.cell? ⟨gb337, 1, none⟩ = some (.string a0_1) := bc_ BK337 1
      have hfs45 := blk_frozen BK337.out 1
      have hns45_1 := NB338_337.out
      have hns45_2 := NB339_337.out
      have hms45_1 := NB337_338.out
      have hms45_2 := NB337_339.out
      have hs46 : w43.cell? ⟨gb337, 2, none⟩ = some (.int .i64 a0_2) := bc_ BK337 2
      have hfs46 := blk_frozen BK337.out 2
      have hns46_1 := NB338_337.out
      have hns46_2 := NB339_337.out
      have hms46_1 := NB337_338.out
      have hms46_2 := NB337_339.out
      refine skip_ (w1 := ?_) (by rfl) rfl ?_ ?_
      rotate_left
      · go_simp
        rfl
      refine hK.out _ _ ?_
      clear hK K
      refine last_ (i := 5) (N := none) #[true, true, true, true, true, true] rfl rfl (by kernel_rfl) (by decide) (fun K hK => ?_)
      have hs47 : w43.cell? ⟨gb338, 0, none⟩ = some (.bool a1_0) := bc_ BK338 0
      have hfs47 := blk_frozen BK338.out 0
      have hns47_0 := NB337_338.out
      have hns47_2 := NB339_338.out
      have hms47_0 := NB338_337.out
      have hms47_2 := NB338_339.out
      have hs48 : w43.cell? ⟨gb338, 1, none⟩ = some (.string a1_1) := bc_ BK338 1
      have hfs48 := blk_frozen BK338.out 1
      have hns48_0 := NB337_338.out
      have hns48_2 := NB339_338.out
      have hms48_0 := NB338_337.out
      have hms48_2 := NB338_339.out
      have hs49 : w43.cell? ⟨gb338, 2, none⟩ = some (.int .i64 a1_2) := bc_ BK338 2
      have hfs49 := blk_frozen BK338.out 2
      have hns49_0 := NB337_338.out
      have hns49_2 := NB339_338.out
      have hms49_0 := NB338_337.out
      have hms49_2 := NB338_339.out
      refine skip_ (w1 := ?_) (by rfl) rfl ?_ ?_
      rotate_left
      · go_simp
        rfl
      refine hK.out _ _ ?_
      clear hK K
      refine done_ (by kernel_rfl) ?_
      have hnb50 := NB337_338.out
      have hnc50 := NB338_337.out
      have hnb51 := NB337_339.out
      have hnc51 := NB339_337.out
      obtain ⟨hcz52_0, hcz52_1, hcz52_2, hfz52_0, hfz52_1, hfz52_2⟩ := bo3_ BK337
      have hnb53 := NB338_339.out
      have hnc53 := NB339_338.out
      obtain ⟨hcz54_0, hcz54_1, hcz54_2, hfz54_0, hfz54_1, hfz54_2⟩ := bo3_ BK338
      try go_wp2_with (first | ((with_reducible refine gate_callee (f := 73) rfl ?_); refine gl_ (some 19) Tryz.func73 #[.agg #[.bool t340, .string t341, .int .i64 t342], .agg #[.bool t343, .string t344, .int .i64 t345]] ?_; (with_reducible refine (dec_both.calls t340 t341 t342 t343 t344 t345 t346 t347 t348 _ A5.out).mono ?_); rintro e w55 ⟨rfl, hb⟩; refine ⟨_, rfl, ?_⟩; have n0_ := Aside0.mk (blk_below (g := gb337) (o := .cells #[.bool t340, .string t341, .int .i64 t342] 31 (0, 0)) (by (with_reducible repeat (first | refine blk_drewN ?_ _ | refine blk_drew ?_ | refine blk_alloc ?_ _)); refine blk_far ?_ NB337_338.out _; (with_reducible repeat (first | refine blk_drewN ?_ _ | refine blk_drew ?_ | refine blk_alloc ?_ _)); refine blk_far ?_ NB337_338.out _; (with_reducible repeat (first | refine blk_drewN ?_ _ | refine blk_drew ?_ | refine blk_alloc ?_ _)); refine blk_far ?_ NB337_338.out _; (with_reducible repeat (first | refine blk_drewN ?_ _ | refine blk_drew ?_ | refine blk_alloc ?_ _)); refine blk_put (cs := #[.bool t340, .string t341, .int .i64 a0_2]) ?_ 2 _ rfl; (with_reducible repeat (first | refine blk_drewN ?_ _ | refine blk_drew ?_ | refine blk_alloc ?_ _)); refine blk_put (cs := #[.bool t340, .string a0_1, .int .i64 a0_2]) ?_ 1 _ rfl; (with_reducible repeat (first | refine blk_drewN ?_ _ | refine blk_drew ?_ | refine blk_alloc ?_ _)); refine blk_put (cs := #[.bool a0_0, .string a0_1, .int .i64 a0_2]) ?_ 0 _ rfl; (with_reducible repeat (first | refine blk_drewN ?_ _ | refine blk_drew ?_ | refine blk_alloc ?_ _)); exact BK337.out) hb); have n1_ := Aside0.mk (blk_below (g := gb338) (o := .cells #[.bool t343, .string t344, .int .i64 t345] 31 (0, 0)) (by (with_reducible repeat (first | refine blk_drewN ?_ _ | refine blk_drew ?_ | refine blk_alloc ?_ _)); refine blk_put (cs := #[.bool t343, .string t344, .int .i64 a1_2]) ?_ 2 _ rfl; (with_reducible repeat (first | refine blk_drewN ?_ _ | refine blk_drew ?_ | refine blk_alloc ?_ _)); refine blk_put (cs := #[.bool t343, .string a1_1, .int .i64 a1_2]) ?_ 1 _ rfl; (with_reducible repeat (first | refine blk_drewN ?_ _ | refine blk_drew ?_ | refine blk_alloc ?_ _)); refine blk_put (cs := #[.bool a1_0, .string a1_1, .int .i64 a1_2]) ?_ 0 _ rfl; (with_reducible repeat (first | refine blk_drewN ?_ _ | refine blk_drew ?_ | refine blk_alloc ?_ _)); refine blk_far ?_ NB338_337.out _; (with_reducible repeat (first | refine blk_drewN ?_ _ | refine blk_drew ?_ | refine blk_alloc ?_ _)); refine blk_far ?_ NB338_337.out _; (with_reducible repeat (first | refine blk_drewN ?_ _ | refine blk_drew ?_ | refine blk_alloc ?_ _)); refine blk_far ?_ NB338_337.out _; (with_reducible repeat (first | refine blk_drewN ?_ _ | refine blk_drew ?_ | refine blk_alloc ?_ _)); exact BK338.out) hb); have n2_ := Aside0.mk (blk_below (g := gb339) (o := .cells #[.bool false, .string (⟨#[]⟩ : ByteArray), .int .i64 0] 31 (0, 0)) (by (with_reducible repeat (first | refine blk_drewN ?_ _ | refine blk_drew ?_ | refine blk_alloc ?_ _)); refine blk_far ?_ NB339_338.out _; (with_reducible repeat (first | refine blk_drewN ?_ _ | refine blk_drew ?_ | refine blk_alloc ?_ _)); refine blk_far ?_ NB339_338.out _; (with_reducible repeat (first | refine blk_drewN ?_ _ | refine blk_drew ?_ | refine blk_alloc ?_ _)); refine blk_far ?_ NB339_338.out _; (with_reducible repeat (first | refine blk_drewN ?_ _ | refine blk_drew ?_ | refine blk_alloc ?_ _)); refine blk_far ?_ NB339_337.out _; (with_reducible repeat (first | refine blk_drewN ?_ _ | refine blk_drew ?_ | refine blk_alloc ?_ _)); refine blk_far ?_ NB339_337.out _; (with_reducible repeat (first | refine blk_drewN ?_ _ | refine blk_drew ?_ | refine blk_alloc ?_ _)); refine blk_far ?_ NB339_337.out _; (with_reducible repeat (first | refine blk_drewN ?_ _ | refine blk_drew ?_ | refine blk_alloc ?_ _)); exact BK339.out) hb); have n3_ := Aside0.mk (below_step (bl_ HB).out hb); clear BK337; clear BK338; clear BK339; clear HB; have BK337 := n0_; have BK338 := n1_; have BK339 := n2_; have HB := n3_; clear n0_ n1_ n2_ n3_; (try clear hb); (try clear hb2); (try clear hk); (try clear hi); obtain ⟨hcz56_0, hcz56_1, hcz56_2, hfz56_0, hfz56_1, hfz56_2⟩ := bo3_ BK337; obtain ⟨hcz57_0, hcz57_1, hcz57_2, hfz57_0, hfz57_1, hfz57_2⟩ := bo3_ BK338) | ((with_reducible refine gate_callee (f := 74) rfl ?_); refine gl_ (some 38) Tryz.func74 #[.string t346, .string t347] ?_; (with_reducible refine (num_Sub.calls k t346 t347 t353 true _ A35.out).mono ?_); rintro e w58 ⟨rfl, hb⟩; refine ⟨_, rfl, ?_⟩; replace BK337 := bb_ BK337 hb; replace BK338 := bb_ BK338 hb; replace BK339 := bb_ BK339 hb; replace HB := Aside0.mk (below_step (bl_ HB).out hb); (try clear hb); (try clear hb2); (try clear hk); (try clear hi); obtain ⟨hcz59_0, hcz59_1, hcz59_2, hfz59_0, hfz59_1, hfz59_2⟩ := bo3_ BK337) | ((with_reducible refine gate_callee (f := 16) rfl ?_); refine gl_ (some 46) Tryz.func16 #[.bool t340, .string t353, .int .i64 t348] ?_; (with_reducible refine (dec_Made.calls k t340 t353 t348 t355 t356 t357 _ A37.out).mono ?_); rintro e w60 ⟨rfl, hb⟩; refine ⟨_, rfl, ?_⟩; replace BK337 := bb_ BK337 hb; replace BK338 := bb_ BK338 hb; replace BK339 := bb_ BK339 hb; replace HB := Aside0.mk (below_step (bl_ HB).out hb); (try clear hb); (try clear hb2); (try clear hk); (try clear hi); obtain ⟨hcz61_0, hcz61_1, hcz61_2, hfz61_0, hfz61_1, hfz61_2⟩ := bo3_ BK339))
      refine bodyPost_ret (results_cell_row rfl _ _ gb339 31 #[.bool t355, .string t356, .int .i64 t357] (0, 0) _ rfl (by (with_reducible repeat (first | refine blk_drewN ?_ _ | refine blk_drew ?_ | refine blk_alloc ?_ _)); refine blk_put (cs := #[.bool t355, .string t356, .int .i64 0]) ?_ 2 _ rfl; (with_reducible repeat (first | refine blk_drewN ?_ _ | refine blk_drew ?_ | refine blk_alloc ?_ _)); refine blk_put (cs := #[.bool t355, .string (⟨#[]⟩ : ByteArray), .int .i64 0]) ?_ 1 _ rfl; (with_reducible repeat (first | refine blk_drewN ?_ _ | refine blk_drew ?_ | refine blk_alloc ?_ _)); refine blk_put (cs := #[.bool false, .string (⟨#[]⟩ : ByteArray), .int .i64 0]) ?_ 0 _ rfl; (with_reducible repeat (first | refine blk_drewN ?_ _ | refine blk_drew ?_ | refine blk_alloc ?_ _)); exact BK339.out) Tryz.underlying31 rfl (by kernel_rfl)) rfl ?_
      exact ⟨ew_, (bl_ HB).out⟩
    · replace c36 := Bool.eq_false_iff.mpr c36
      subst c36
      have H1 : ((num_Sub.f k t347 t346).bind fun bt358 => ((dec_Made.f k t343 bt358.1 t348).bind fun bt360 => (some (bt360.1, bt360.2.1, bt360.2.2)))) = some (r1, r2, r3) := by rw [if_neg (show ¬ (false = true) by decide)] at H; exact H
      clear H
      have H := H1
      clear H1
      replace H := Option.bind_eq_some_iff.mp H
      obtain ⟨⟨t358, t359⟩, A620, H⟩ := H
      replace H : ((dec_Made.f k t343 t358 t348).bind fun bt360 => (some (bt360.1, bt360.2.1, bt360.2.2))) = some (r1, r2, r3) := H
      have A62 := Aside0.mk A620
      clear A620
      replace H := Option.bind_eq_some_iff.mp H
      obtain ⟨⟨t360, t361, t362⟩, A630, H⟩ := H
      replace H : (some (t360, t361, t362)) = some (r1, r2, r3) := H
      have A63 := Aside0.mk A630
      clear A630
      simp only [Option.some.injEq, Prod.mk.injEq] at H
      obtain ⟨rfl, rfl, rfl⟩ := H
      go_enter Tryz.func56, Tryz.ntmps56
      try go_wp2_with (first | ((with_reducible refine gate_dst (N := 2) rfl ?_); refine be_ 2 #[.bool a0_0, .string a0_1, .int .i64 a0_2] 31 ?_; intro gb337 hg w64 hbox hb; have BK337 := Aside0.mk (hbox); have GW337 := sz_ HB hg; have GE337 := sz_ HB hg; replace HB := Aside0.mk (below_step (bl_ HB).out hb); clear hb hbox hg) | ((with_reducible refine gate_dst (N := 3) rfl ?_); refine be_ 3 #[.bool a1_0, .string a1_1, .int .i64 a1_2] 31 ?_; intro gb338 hg w65 hbox hb; have BK338 := Aside0.mk (hbox); have GW338 := sz_ HB hg; have GE338 := sz_ HB hg; have NB337_338 := na_ BK337 hg; have NB338_337 := nb_ BK337 hg; replace BK337 := bb_ BK337 hb; replace HB := Aside0.mk (below_step (bl_ HB).out hb); clear hb hbox hg) | ((with_reducible refine gate_dst (N := 4) rfl ?_); refine be_ 4 #[.bool false, .string (⟨#[]⟩ : ByteArray), .int .i64 0] 31 ?_; intro gb339 hg w66 hbox hb; have BK339 := Aside0.mk (hbox); have GW339 := sz_ HB hg; have GE339 := sz_ HB hg; have NB337_339 := na_ BK337 hg; have NB339_337 := nb_ BK337 hg; have NB338_339 := na_ BK338 hg; have NB339_338 := nb_ BK338 hg; replace BK337 := bb_ BK337 hb; replace BK338 := bb_ BK338 hb; replace HB := Aside0.mk (below_step (bl_ HB).out hb); clear hb hbox hg))
      replace BK337 := Aside0.mk (blk_drew BK337.out)
      replace BK338 := Aside0.mk (blk_drew BK338.out)
      replace BK339 := Aside0.mk (blk_drew BK339.out)
      replace HB := Aside0.mk (below_drew1 HB.out)
      refine start_ (n := 6) (S := fun w' => w'.cell? ⟨gb337, 0, none⟩ = some (.bool a0_0) ∧ w'.cell? ⟨gb337, 1, none⟩ = some (.string a0_1) ∧ w'.cell? ⟨gb337, 2, none⟩ = some (.int .i64 a0_2) ∧ w'.cell? ⟨gb338, 0, none⟩ = some (.bool a1_0) ∧ w'.cell? ⟨gb338, 1, none⟩ = some (.string a1_1) ∧ w'.cell? ⟨gb338, 2, none⟩ = some (.int .i64 a1_2)) (ds := [4, 5]) #[false, false, false, false, false, false] (by kernel_rfl) rfl rfl ⟨bc_ BK337 0, bc_ BK337 1, bc_ BK337 2, bc_ BK338 0, bc_ BK338 1, bc_ BK338 2⟩ (fun hHeld => ?_)
      generalize w66.drew = w67 at BK337 BK338 BK339 HB hHeld ⊢
      refine tk0_ 0 12 #[true, false, false, false, false, false] hHeld rfl (by rintro w' ⟨s0, s1, s2, s3, s4, s5⟩; go_simp; with_reducible rfl) ?_
      refine tk0_ 2 14 #[true, false, true, false, false, false] hHeld rfl (by rintro w' ⟨s0, s1, s2, s3, s4, s5⟩; go_simp; with_reducible rfl) ?_
      refine one_ (i := 1) (N := some 13) #[true, true, true, false, false, false] rfl rfl (by kernel_rfl) (by decide) (fun K hK => ?_)
      refine gs_ Tryz.func8 #[.agg #[.bool a0_0, .string a0_1, .int .i64 a0_2]] ?_
      with_reducible refine (dec_Dec_Norm.calls k a0_0 a0_1 a0_2 t340 t341 t342 _ A3.out).mono ?_
      rintro e w68 ⟨rfl, hb⟩
      refine ⟨_, rfl, ?_⟩
      replace BK337 := bb_ BK337 hb
      replace BK338 := bb_ BK338 hb
      replace BK339 := bb_ BK339 hb
      replace HB := Aside0.mk (below_step (bl_ HB).out hb)
      (try clear hb)
      (try clear hb2)
      (try clear hk)
      (try clear hi)
      refine hK.out _ _ ⟨bc_ BK337 0, bc_ BK337 1, bc_ BK337 2, bc_ BK338 0, bc_ BK338 1, bc_ BK338 2⟩ (fun hHeld => ?_)
      clear hK K
      refine nm_ 13 ?_
      refine one_ (i := 3) (N := some 15) #[true, true, true, true, false, false] rfl rfl (by kernel_rfl) (by decide) (fun K hK => ?_)
      refine gs_ Tryz.func8 #[.agg #[.bool a1_0, .string a1_1, .int .i64 a1_2]] ?_
      with_reducible refine (dec_Dec_Norm.calls k a1_0 a1_1 a1_2 t343 t344 t345 _ A4.out).mono ?_
      rintro e w69 ⟨rfl, hb⟩
      refine ⟨_, rfl, ?_⟩
      replace BK337 := bb_ BK337 hb
      replace BK338 := bb_ BK338 hb
      replace BK339 := bb_ BK339 hb
      replace HB := Aside0.mk (below_step (bl_ HB).out hb)
      (try clear hb)
      (try clear hb2)
      (try clear hk)
      (try clear hi)
      refine hK.out _ _ ⟨bc_ BK337 0, bc_ BK337 1, bc_ BK337 2, bc_ BK338 0, bc_ BK338 1, bc_ BK338 2⟩ (fun hHeld => ?_)
      clear hK K
      refine nm_ 15 ?_
      refine last_ (i := 4) (N := none) #[true, true, true, true, true, false] rfl rfl (by kernel_rfl) (by decide) (fun K hK => ?_)
      have hs70 : w69.cell? ⟨gb337, 0, none⟩ = some (.bool a0_0) := bc_ BK337 0
      have hfs70 := blk_frozen BK337.out 0
      have hns70_1 := NB338_337.out
      have hns70_2 := NB339_337.out
      have hms70_1 := NB337_338.out
      have hms70_2 := NB337_339.out
      have hs71 : w69.cell? ⟨gb337, 1, none⟩ = some (.string a0_1) := bc_ BK337 1
      have hfs71 := blk_frozen BK337.out 1
      have hns71_1 := NB338_337.out
      have hns71_2 := NB339_337.out
      have hms71_1 := NB337_338.out
      have hms71_2 := NB337_339.out
      have hs72 : w69.cell? ⟨gb337, 2, none⟩ = some (.int .i64 a0_2) := bc_ BK337 2
      have hfs72 := blk_frozen BK337.out 2
      have hns72_1 := NB338_337.out
      have hns72_2 := NB339_337.out
      have hms72_1 := NB337_338.out
      have hms72_2 := NB337_339.out
      refine skip_ (w1 := ?_) (by rfl) rfl ?_ ?_
      rotate_left
      · go_simp
        rfl
      refine hK.out _ _ ?_
      clear hK K
      refine last_ (i := 5) (N := none) #[true, true, true, true, true, true] rfl rfl (by kernel_rfl) (by decide) (fun K hK => ?_)
      have hs73 : w69.cell? ⟨gb338, 0, none⟩ = some (.bool a1_0) := bc_ BK338 0
      have hfs73 := blk_frozen BK338.out 0
      have hns73_0 := NB337_338.out
      have hns73_2 := NB339_338.out
      have hms73_0 := NB338_337.out
      have hms73_2 := NB338_339.out
      have hs74 : w69.cell? ⟨gb338, 1, none⟩ = some (.string a1_1) := bc_ BK338 1
      have hfs74 := blk_frozen BK338.out 1
      have hns74_0 := NB337_338.out
      have hns74_2 := NB339_338.out
      have hms74_0 := NB338_337.out
      have hms74_2 := NB338_339.out
      have hs75 : w69.cell? ⟨gb338, 2, none⟩ = some (.int .i64 a1_2) := bc_ BK338 2
      have hfs75 := blk_frozen BK338.out 2
      have hns75_0 := NB337_338.out
      have hns75_2 := NB339_338.out
      have hms75_0 := NB338_337.out
      have hms75_2 := NB338_339.out
      refine skip_ (w1 := ?_) (by rfl) rfl ?_ ?_
      rotate_left
      · go_simp
        rfl
      refine hK.out _ _ ?_
      clear hK K
      refine done_ (by kernel_rfl) ?_
      have hnb76 := NB337_338.out
      have hnc76 := NB338_337.out
      have hnb77 := NB337_339.out
      have hnc77 := NB339_337.out
      obtain ⟨hcz78_0, hcz78_1, hcz78_2, hfz78_0, hfz78_1, hfz78_2⟩ := bo3_ BK337
      have hnb79 := NB338_339.out
      have hnc79 := NB339_338.out
      obtain ⟨hcz80_0, hcz80_1, hcz80_2, hfz80_0, hfz80_1, hfz80_2⟩ := bo3_ BK338
      try go_wp2_with (first | ((with_reducible refine gate_callee (f := 73) rfl ?_); refine gl_ (some 19) Tryz.func73 #[.agg #[.bool t340, .string t341, .int .i64 t342], .agg #[.bool t343, .string t344, .int .i64 t345]] ?_; (with_reducible refine (dec_both.calls t340 t341 t342 t343 t344 t345 t346 t347 t348 _ A5.out).mono ?_); rintro e w81 ⟨rfl, hb⟩; refine ⟨_, rfl, ?_⟩; have n0_ := Aside0.mk (blk_below (g := gb337) (o := .cells #[.bool t340, .string t341, .int .i64 t342] 31 (0, 0)) (by (with_reducible repeat (first | refine blk_drewN ?_ _ | refine blk_drew ?_ | refine blk_alloc ?_ _)); refine blk_far ?_ NB337_338.out _; (with_reducible repeat (first | refine blk_drewN ?_ _ | refine blk_drew ?_ | refine blk_alloc ?_ _)); refine blk_far ?_ NB337_338.out _; (with_reducible repeat (first | refine blk_drewN ?_ _ | refine blk_drew ?_ | refine blk_alloc ?_ _)); refine blk_far ?_ NB337_338.out _; (with_reducible repeat (first | refine blk_drewN ?_ _ | refine blk_drew ?_ | refine blk_alloc ?_ _)); refine blk_put (cs := #[.bool t340, .string t341, .int .i64 a0_2]) ?_ 2 _ rfl; (with_reducible repeat (first | refine blk_drewN ?_ _ | refine blk_drew ?_ | refine blk_alloc ?_ _)); refine blk_put (cs := #[.bool t340, .string a0_1, .int .i64 a0_2]) ?_ 1 _ rfl; (with_reducible repeat (first | refine blk_drewN ?_ _ | refine blk_drew ?_ | refine blk_alloc ?_ _)); refine blk_put (cs := #[.bool a0_0, .string a0_1, .int .i64 a0_2]) ?_ 0 _ rfl; (with_reducible repeat (first | refine blk_drewN ?_ _ | refine blk_drew ?_ | refine blk_alloc ?_ _)); exact BK337.out) hb); have n1_ := Aside0.mk (blk_below (g := gb338) (o := .cells #[.bool t343, .string t344, .int .i64 t345] 31 (0, 0)) (by (with_reducible repeat (first | refine blk_drewN ?_ _ | refine blk_drew ?_ | refine blk_alloc ?_ _)); refine blk_put (cs := #[.bool t343, .string t344, .int .i64 a1_2]) ?_ 2 _ rfl; (with_reducible repeat (first | refine blk_drewN ?_ _ | refine blk_drew ?_ | refine blk_alloc ?_ _)); refine blk_put (cs := #[.bool t343, .string a1_1, .int .i64 a1_2]) ?_ 1 _ rfl; (with_reducible repeat (first | refine blk_drewN ?_ _ | refine blk_drew ?_ | refine blk_alloc ?_ _)); refine blk_put (cs := #[.bool a1_0, .string a1_1, .int .i64 a1_2]) ?_ 0 _ rfl; (with_reducible repeat (first | refine blk_drewN ?_ _ | refine blk_drew ?_ | refine blk_alloc ?_ _)); refine blk_far ?_ NB338_337.out _; (with_reducible repeat (first | refine blk_drewN ?_ _ | refine blk_drew ?_ | refine blk_alloc ?_ _)); refine blk_far ?_ NB338_337.out _; (with_reducible repeat (first | refine blk_drewN ?_ _ | refine blk_drew ?_ | refine blk_alloc ?_ _)); refine blk_far ?_ NB338_337.out _; (with_reducible repeat (first | refine blk_drewN ?_ _ | refine blk_drew ?_ | refine blk_alloc ?_ _)); exact BK338.out) hb); have n2_ := Aside0.mk (blk_below (g := gb339) (o := .cells #[.bool false, .string (⟨#[]⟩ : ByteArray), .int .i64 0] 31 (0, 0)) (by (with_reducible repeat (first | refine blk_drewN ?_ _ | refine blk_drew ?_ | refine blk_alloc ?_ _)); refine blk_far ?_ NB339_338.out _; (with_reducible repeat (first | refine blk_drewN ?_ _ | refine blk_drew ?_ | refine blk_alloc ?_ _)); refine blk_far ?_ NB339_338.out _; (with_reducible repeat (first | refine blk_drewN ?_ _ | refine blk_drew ?_ | refine blk_alloc ?_ _)); refine blk_far ?_ NB339_338.out _; (with_reducible repeat (first | refine blk_drewN ?_ _ | refine blk_drew ?_ | refine blk_alloc ?_ _)); refine blk_far ?_ NB339_337.out _; (with_reducible repeat (first | refine blk_drewN ?_ _ | refine blk_drew ?_ | refine blk_alloc ?_ _)); refine blk_far ?_ NB339_337.out _; (with_reducible repeat (first | refine blk_drewN ?_ _ | refine blk_drew ?_ | refine blk_alloc ?_ _)); refine blk_far ?_ NB339_337.out _; (with_reducible repeat (first | refine blk_drewN ?_ _ | refine blk_drew ?_ | refine blk_alloc ?_ _)); exact BK339.out) hb); have n3_ := Aside0.mk (below_step (bl_ HB).out hb); clear BK337; clear BK338; clear BK339; clear HB; have BK337 := n0_; have BK338 := n1_; have BK339 := n2_; have HB := n3_; clear n0_ n1_ n2_ n3_; (try clear hb); (try clear hb2); (try clear hk); (try clear hi); obtain ⟨hcz82_0, hcz82_1, hcz82_2, hfz82_0, hfz82_1, hfz82_2⟩ := bo3_ BK337; obtain ⟨hcz83_0, hcz83_1, hcz83_2, hfz83_0, hfz83_1, hfz83_2⟩ := bo3_ BK338) | ((with_reducible refine gate_callee (f := 74) rfl ?_); refine gl_ (some 38) Tryz.func74 #[.string t346, .string t347] ?_; (with_reducible refine (num_Sub.calls k t346 t347 t353 false _ A35.out).mono ?_); rintro e w84 ⟨rfl, hb⟩; refine ⟨_, rfl, ?_⟩; replace BK337 := bb_ BK337 hb; replace BK338 := bb_ BK338 hb; replace BK339 := bb_ BK339 hb; replace HB := Aside0.mk (below_step (bl_ HB).out hb); (try clear hb); (try clear hb2); (try clear hk); (try clear hi)) | ((with_reducible refine gate_callee (f := 74) rfl ?_); refine gl_ (some 50) Tryz.func74 #[.string t347, .string t346] ?_; (with_reducible refine (num_Sub.calls k t347 t346 t358 t359 _ A62.out).mono ?_); rintro e w85 ⟨rfl, hb⟩; refine ⟨_, rfl, ?_⟩; replace BK337 := bb_ BK337 hb; replace BK338 := bb_ BK338 hb; replace BK339 := bb_ BK339 hb; replace HB := Aside0.mk (below_step (bl_ HB).out hb); (try clear hb); (try clear hb2); (try clear hk); (try clear hi); obtain ⟨hcz86_0, hcz86_1, hcz86_2, hfz86_0, hfz86_1, hfz86_2⟩ := bo3_ BK338) | ((with_reducible refine gate_callee (f := 16) rfl ?_); refine gl_ (some 57) Tryz.func16 #[.bool t343, .string t358, .int .i64 t348] ?_; (with_reducible refine (dec_Made.calls k t343 t358 t348 t360 t361 t362 _ A63.out).mono ?_); rintro e w87 ⟨rfl, hb⟩; refine ⟨_, rfl, ?_⟩; replace BK337 := bb_ BK337 hb; replace BK338 := bb_ BK338 hb; replace BK339 := bb_ BK339 hb; replace HB := Aside0.mk (below_step (bl_ HB).out hb); (try clear hb); (try clear hb2); (try clear hk); (try clear hi); obtain ⟨hcz88_0, hcz88_1, hcz88_2, hfz88_0, hfz88_1, hfz88_2⟩ := bo3_ BK339))
      refine bodyPost_ret (results_cell_row rfl _ _ gb339 31 #[.bool t360, .string t361, .int .i64 t362] (0, 0) _ rfl (by (with_reducible repeat (first | refine blk_drewN ?_ _ | refine blk_drew ?_ | refine blk_alloc ?_ _)); refine blk_put (cs := #[.bool t360, .string t361, .int .i64 0]) ?_ 2 _ rfl; (with_reducible repeat (first | refine blk_drewN ?_ _ | refine blk_drew ?_ | refine blk_alloc ?_ _)); refine blk_put (cs := #[.bool t360, .string (⟨#[]⟩ : ByteArray), .int .i64 0]) ?_ 1 _ rfl; (with_reducible repeat (first | refine blk_drewN ?_ _ | refine blk_drew ?_ | refine blk_alloc ?_ _)); refine blk_put (cs := #[.bool false, .string (⟨#[]⟩ : ByteArray), .int .i64 0]) ?_ 0 _ rfl; (with_reducible repeat (first | refine blk_drewN ?_ _ | refine blk_drew ?_ | refine blk_alloc ?_ _)); exact BK339.out) Tryz.underlying31 rfl (by kernel_rfl)) rfl ?_
      exact ⟨ew_, (bl_ HB).out⟩

/-! ### dec_Dec_Minus: function 57 -/
def dec_Dec_Minus.f (k : Nat) (a0_0 : Bool) (a0_1 : ByteArray) (a0_2 : Int) : Option (Bool × ByteArray × Int) := (dec_Made.f k (!a0_0) a0_1 a0_2).bind fun bt365 => (some (bt365.1, bt365.2.1, bt365.2.2))
theorem dec_Dec_Minus.mono : ∀ a0 a1 a2 k, LeO (dec_Dec_Minus.f k a0 a1 a2) (dec_Dec_Minus.f (k + 1) a0 a1 a2) := by
  intro a0 a1 a2 k
  unfold dec_Dec_Minus.f
  repeat' first
      | (with_reducible exact dec_Made.mono _ _ _ _)
      | (with_reducible exact LeO.refl _)
      | (with_reducible exact LeO.none _)
      | (with_reducible refine LeO.ite ?_ ?_)
      | (with_reducible refine LeO.bind ?_ (fun _ => ?_))
      | exact dec_Made.mono _ _ _ _
      | exact LeO.none _
      | refine LeO.ite ?_ ?_
      | refine LeO.bind ?_ (fun _ => ?_)
set_option maxHeartbeats 8000000 in
set_option maxRecDepth 100000 in
theorem dec_Dec_Minus.calls (k : Nat) (a0_0 : Bool) (a0_1 : ByteArray) (a0_2 : Int) (r1 : Bool) (r2 : ByteArray) (r3 : Int) (w : World) (h : dec_Dec_Minus.f k a0_0 a0_1 a0_2 = some (r1, r2, r3)) :
    Calls Tryz.prog 57 #[.agg #[.bool a0_0, .string a0_1, .int .i64 a0_2]] w fun e w' => e = .returned (.agg #[.bool r1, .string r2, .int .i64 r3]) ∧ Below w.heap.size w w' := by
  have hu31 := Tryz.underlying31
  have HB := Aside0.mk (Below.refl w.heap.size w)
  have H : ((dec_Made.f k (!a0_0) a0_1 a0_2).bind fun bt365 => (some (bt365.1, bt365.2.1, bt365.2.2))) = some (r1, r2, r3) := h
  clear h
  replace H := Option.bind_eq_some_iff.mp H
  obtain ⟨⟨t365, t366, t367⟩, A20, H⟩ := H
  replace H : (some (t365, t366, t367)) = some (r1, r2, r3) := H
  have A2 := Aside0.mk A20
  clear A20
  simp only [Option.some.injEq, Prod.mk.injEq] at H
  obtain ⟨rfl, rfl, rfl⟩ := H
  go_enter Tryz.func57, Tryz.ntmps57
  go_wp2_with (first | ((with_reducible refine gate_dst (N := 1) rfl ?_); refine be_ 1 #[.bool a0_0, .string a0_1, .int .i64 a0_2] 31 ?_; intro gb363 hg w3 hbox hb; have BK363 := Aside0.mk (hbox); have GW363 := sz_ HB hg; have GE363 := sz_ HB hg; replace HB := Aside0.mk (below_step (bl_ HB).out hb); clear hb hbox hg) | ((with_reducible refine gate_dst (N := 2) rfl ?_); refine be_ 2 #[.bool false, .string (⟨#[]⟩ : ByteArray), .int .i64 0] 31 ?_; intro gb364 hg w4 hbox hb; have BK364 := Aside0.mk (hbox); have GW364 := sz_ HB hg; have GE364 := sz_ HB hg; have NB363_364 := na_ BK363 hg; have NB364_363 := nb_ BK363 hg; replace BK363 := bb_ BK363 hb; replace HB := Aside0.mk (below_step (bl_ HB).out hb); clear hb hbox hg; have hnb5 := NB363_364.out; have hnc5 := NB364_363.out; obtain ⟨hcz6_0, hcz6_1, hcz6_2, hfz6_0, hfz6_1, hfz6_2⟩ := bo3_ BK363) | ((with_reducible refine gate_callee (f := 16) rfl ?_); refine gl_ (some 10) Tryz.func16 #[.bool (!a0_0), .string a0_1, .int .i64 a0_2] ?_; (with_reducible refine (dec_Made.calls k (!a0_0) a0_1 a0_2 t365 t366 t367 _ A2.out).mono ?_); rintro e w7 ⟨rfl, hb⟩; refine ⟨_, rfl, ?_⟩; replace BK363 := bb_ BK363 hb; replace BK364 := bb_ BK364 hb; replace HB := Aside0.mk (below_step (bl_ HB).out hb); (try clear hb); (try clear hb2); (try clear hk); (try clear hi); obtain ⟨hcz8_0, hcz8_1, hcz8_2, hfz8_0, hfz8_1, hfz8_2⟩ := bo3_ BK364))
  refine bodyPost_ret (results_cell_row rfl _ _ gb364 31 #[.bool t365, .string t366, .int .i64 t367] (0, 0) _ rfl (by (with_reducible repeat (first | refine blk_drewN ?_ _ | refine blk_drew ?_ | refine blk_alloc ?_ _)); refine blk_put (cs := #[.bool t365, .string t366, .int .i64 0]) ?_ 2 _ rfl; (with_reducible repeat (first | refine blk_drewN ?_ _ | refine blk_drew ?_ | refine blk_alloc ?_ _)); refine blk_put (cs := #[.bool t365, .string (⟨#[]⟩ : ByteArray), .int .i64 0]) ?_ 1 _ rfl; (with_reducible repeat (first | refine blk_drewN ?_ _ | refine blk_drew ?_ | refine blk_alloc ?_ _)); refine blk_put (cs := #[.bool false, .string (⟨#[]⟩ : ByteArray), .int .i64 0]) ?_ 0 _ rfl; (with_reducible repeat (first | refine blk_drewN ?_ _ | refine blk_drew ?_ | refine blk_alloc ?_ _)); exact BK364.out) Tryz.underlying31 rfl (by kernel_rfl)) rfl ?_
  exact ⟨ew_, (bl_ HB).out⟩

/-! ### dec_Sub: function 32 -/
def dec_Sub.f (k : Nat) (a0_0 : Bool) (a0_1 : ByteArray) (a0_2 : Int) (a1_0 : Bool) (a1_1 : ByteArray) (a1_2 : Int) : Option (Bool × ByteArray × Int) := (dec_Dec_Minus.f k a1_0 a1_1 a1_2).bind fun bt371 => ((dec_Add.f k a0_0 a0_1 a0_2 bt371.1 bt371.2.1 bt371.2.2).bind fun bt374 => (some (bt374.1, bt374.2.1, bt374.2.2)))
theorem dec_Sub.mono : ∀ a0 a1 a2 a3 a4 a5 k, LeO (dec_Sub.f k a0 a1 a2 a3 a4 a5) (dec_Sub.f (k + 1) a0 a1 a2 a3 a4 a5) := by
  intro a0 a1 a2 a3 a4 a5 k
  unfold dec_Sub.f
  repeat' first
      | (with_reducible exact dec_Add.mono _ _ _ _ _ _ _)
      | (with_reducible exact dec_Dec_Minus.mono _ _ _ _)
      | (with_reducible exact LeO.refl _)
      | (with_reducible exact LeO.none _)
      | (with_reducible refine LeO.ite ?_ ?_)
      | (with_reducible refine LeO.bind ?_ (fun _ => ?_))
      | exact dec_Add.mono _ _ _ _ _ _ _
      | exact dec_Dec_Minus.mono _ _ _ _
      | exact LeO.none _
      | refine LeO.ite ?_ ?_
      | refine LeO.bind ?_ (fun _ => ?_)
set_option maxHeartbeats 8000000 in
set_option maxRecDepth 100000 in
theorem dec_Sub.calls (k : Nat) (a0_0 : Bool) (a0_1 : ByteArray) (a0_2 : Int) (a1_0 : Bool) (a1_1 : ByteArray) (a1_2 : Int) (r1 : Bool) (r2 : ByteArray) (r3 : Int) (w : World) (h : dec_Sub.f k a0_0 a0_1 a0_2 a1_0 a1_1 a1_2 = some (r1, r2, r3)) :
    Calls Tryz.prog 32 #[.agg #[.bool a0_0, .string a0_1, .int .i64 a0_2], .agg #[.bool a1_0, .string a1_1, .int .i64 a1_2]] w fun e w' => e = .returned (.agg #[.bool r1, .string r2, .int .i64 r3]) ∧ Below w.heap.size w w' := by
  have hu31 := Tryz.underlying31
  have HB := Aside0.mk (Below.refl w.heap.size w)
  have H : ((dec_Dec_Minus.f k a1_0 a1_1 a1_2).bind fun bt371 => ((dec_Add.f k a0_0 a0_1 a0_2 bt371.1 bt371.2.1 bt371.2.2).bind fun bt374 => (some (bt374.1, bt374.2.1, bt374.2.2)))) = some (r1, r2, r3) := h
  clear h
  replace H := Option.bind_eq_some_iff.mp H
  obtain ⟨⟨t371, t372, t373⟩, A30, H⟩ := H
  replace H : ((dec_Add.f k a0_0 a0_1 a0_2 t371 t372 t373).bind fun bt374 => (some (bt374.1, bt374.2.1, bt374.2.2))) = some (r1, r2, r3) := H
  have A3 := Aside0.mk A30
  clear A30
  replace H := Option.bind_eq_some_iff.mp H
  obtain ⟨⟨t374, t375, t376⟩, A40, H⟩ := H
  replace H : (some (t374, t375, t376)) = some (r1, r2, r3) := H
  have A4 := Aside0.mk A40
  clear A40
  simp only [Option.some.injEq, Prod.mk.injEq] at H
  obtain ⟨rfl, rfl, rfl⟩ := H
  go_enter Tryz.func32, Tryz.ntmps32
  try go_wp2_with (first | ((with_reducible refine gate_dst (N := 2) rfl ?_); refine be_ 2 #[.bool a0_0, .string a0_1, .int .i64 a0_2] 31 ?_; intro gb368 hg w5 hbox hb; have BK368 := Aside0.mk (hbox); have GW368 := sz_ HB hg; have GE368 := sz_ HB hg; replace HB := Aside0.mk (below_step (bl_ HB).out hb); clear hb hbox hg) | ((with_reducible refine gate_dst (N := 3) rfl ?_); refine be_ 3 #[.bool a1_0, .string a1_1, .int .i64 a1_2] 31 ?_; intro gb369 hg w6 hbox hb; have BK369 := Aside0.mk (hbox); have GW369 := sz_ HB hg; have GE369 := sz_ HB hg; have NB368_369 := na_ BK368 hg; have NB369_368 := nb_ BK368 hg; replace BK368 := bb_ BK368 hb; replace HB := Aside0.mk (below_step (bl_ HB).out hb); clear hb hbox hg) | ((with_reducible refine gate_dst (N := 4) rfl ?_); refine be_ 4 #[.bool false, .string (⟨#[]⟩ : ByteArray), .int .i64 0] 31 ?_; intro gb370 hg w7 hbox hb; have BK370 := Aside0.mk (hbox); have GW370 := sz_ HB hg; have GE370 := sz_ HB hg; have NB368_370 := na_ BK368 hg; have NB370_368 := nb_ BK368 hg; have NB369_370 := na_ BK369 hg; have NB370_369 := nb_ BK369 hg; replace BK368 := bb_ BK368 hb; replace BK369 := bb_ BK369 hb; replace HB := Aside0.mk (below_step (bl_ HB).out hb); clear hb hbox hg))
  replace BK368 := Aside0.mk (blk_drew BK368.out)
  replace BK369 := Aside0.mk (blk_drew BK369.out)
  replace BK370 := Aside0.mk (blk_drew BK370.out)
  replace HB := Aside0.mk (below_drew1 HB.out)
  refine start_ (n := 5) (S := fun w' => w'.cell? ⟨gb368, 0, none⟩ = some (.bool a0_0) ∧ w'.cell? ⟨gb368, 1, none⟩ = some (.string a0_1) ∧ w'.cell? ⟨gb368, 2, none⟩ = some (.int .i64 a0_2) ∧ w'.cell? ⟨gb369, 0, none⟩ = some (.bool a1_0) ∧ w'.cell? ⟨gb369, 1, none⟩ = some (.string a1_1) ∧ w'.cell? ⟨gb369, 2, none⟩ = some (.int .i64 a1_2)) (ds := []) #[false, false, false, false, false] (by kernel_rfl) rfl rfl ⟨bc_ BK368 0, bc_ BK368 1, bc_ BK368 2, bc_ BK369 0, bc_ BK369 1, bc_ BK369 2⟩ (fun hHeld => ?_)
  generalize w7.drew = w8 at BK368 BK369 BK370 HB hHeld ⊢
  refine tk0_ 0 5 #[true, false, false, false, false] hHeld rfl (by rintro w' ⟨s0, s1, s2, s3, s4, s5⟩; go_simp; with_reducible rfl) ?_
  refine tk0_ 1 6 #[true, true, false, false, false] hHeld rfl (by rintro w' ⟨s0, s1, s2, s3, s4, s5⟩; go_simp; with_reducible rfl) ?_
  refine one_ (i := 2) (N := some 7) #[true, true, true, false, false] rfl rfl (by kernel_rfl) (by decide) (fun K hK => ?_)
  refine gs_ Tryz.func57 #[.agg #[.bool a1_0, .string a1_1, .int .i64 a1_2]] ?_
  with_reducible refine (dec_Dec_Minus.calls k a1_0 a1_1 a1_2 t371 t372 t373 _ A3.out).mono ?_
  rintro e w9 ⟨rfl, hb⟩
  refine ⟨_, rfl, ?_⟩
  replace BK368 := bb_ BK368 hb
  replace BK369 := bb_ BK369 hb
  replace BK370 := bb_ BK370 hb
  replace HB := Aside0.mk (below_step (bl_ HB).out hb)
  (try clear hb)
  (try clear hb2)
  (try clear hk)
  (try clear hi)
  refine hK.out _ _ ⟨bc_ BK368 0, bc_ BK368 1, bc_ BK368 2, bc_ BK369 0, bc_ BK369 1, bc_ BK369 2⟩ (fun hHeld => ?_)
  clear hK K
  refine nm_ 7 ?_
  refine one_ (i := 3) (N := some 8) #[true, true, true, true, false] rfl rfl (by kernel_rfl) (by decide) (fun K hK => ?_)
  refine gs_ Tryz.func56 #[.agg #[.bool a0_0, .string a0_1, .int .i64 a0_2], .agg #[.bool t371, .string t372, .int .i64 t373]] ?_
  with_reducible refine (dec_Add.calls k a0_0 a0_1 a0_2 t371 t372 t373 t374 t375 t376 _ A4.out).mono ?_
  rintro e w10 ⟨rfl, hb⟩
  refine ⟨_, rfl, ?_⟩
  replace BK368 := bb_ BK368 hb
  replace BK369 := bb_ BK369 hb
  replace BK370 := bb_ BK370 hb
  replace HB := Aside0.mk (below_step (bl_ HB).out hb)
  (try clear hb)
  (try clear hb2)
  (try clear hk)
  (try clear hi)
  refine hK.out _ _ ⟨bc_ BK368 0, bc_ BK368 1, bc_ BK368 2, bc_ BK369 0, bc_ BK369 1, bc_ BK369 2⟩ (fun hHeld => ?_)
  clear hK K
  refine nm_ 8 ?_
  refine one_ (i := 4) (N := none) #[true, true, true, true, true] rfl rfl (by kernel_rfl) (by decide) (fun K hK => ?_)
  have hs11 : w10.cell? ⟨gb370, 0, none⟩ = some (.bool false) := bc_ BK370 0
  have hfs11 := blk_frozen BK370.out 0
  have hns11_0 := NB368_370.out
  have hns11_1 := NB369_370.out
  have hms11_0 := NB370_368.out
  have hms11_1 := NB370_369.out
  have hs12 : w10.cell? ⟨gb370, 1, none⟩ = some (.string (⟨#[]⟩ : ByteArray)) := bc_ BK370 1
  have hfs12 := blk_frozen BK370.out 1
  have hns12_0 := NB368_370.out
  have hns12_1 := NB369_370.out
  have hms12_0 := NB370_368.out
  have hms12_1 := NB370_369.out
  have hs13 : w10.cell? ⟨gb370, 2, none⟩ = some (.int .i64 0) := bc_ BK370 2
  have hfs13 := blk_frozen BK370.out 2
  have hns13_0 := NB368_370.out
  have hns13_1 := NB369_370.out
  have hms13_0 := NB370_368.out
  have hms13_1 := NB370_369.out
  refine skip_ (w1 := ?_) (by rfl) rfl ?_ ?_
  rotate_left
  · go_simp
    rfl
  refine hK.out _ _ ⟨((cell_far (p := ⟨gb370, _, none⟩) NB368_370.out _).trans (((cell_far (p := ⟨gb370, _, none⟩) NB368_370.out _).trans (((cell_far (p := ⟨gb370, _, none⟩) NB368_370.out _).trans (hHeld.1)))))), ((cell_far (p := ⟨gb370, _, none⟩) NB368_370.out _).trans (((cell_far (p := ⟨gb370, _, none⟩) NB368_370.out _).trans (((cell_far (p := ⟨gb370, _, none⟩) NB368_370.out _).trans (hHeld.2.1)))))), ((cell_far (p := ⟨gb370, _, none⟩) NB368_370.out _).trans (((cell_far (p := ⟨gb370, _, none⟩) NB368_370.out _).trans (((cell_far (p := ⟨gb370, _, none⟩) NB368_370.out _).trans (hHeld.2.2.1)))))), ((cell_far (p := ⟨gb370, _, none⟩) NB369_370.out _).trans (((cell_far (p := ⟨gb370, _, none⟩) NB369_370.out _).trans (((cell_far (p := ⟨gb370, _, none⟩) NB369_370.out _).trans (hHeld.2.2.2.1)))))), ((cell_far (p := ⟨gb370, _, none⟩) NB369_370.out _).trans (((cell_far (p := ⟨gb370, _, none⟩) NB369_370.out _).trans (((cell_far (p := ⟨gb370, _, none⟩) NB369_370.out _).trans (hHeld.2.2.2.2.1)))))), ((cell_far (p := ⟨gb370, _, none⟩) NB369_370.out _).trans (((cell_far (p := ⟨gb370, _, none⟩) NB369_370.out _).trans (((cell_far (p := ⟨gb370, _, none⟩) NB369_370.out _).trans (hHeld.2.2.2.2.2))))))⟩ (fun hHeld => ?_)
  clear hK K
  refine done_ (by kernel_rfl) ?_
  try go_wp2
  refine bodyPost_ret (results_cell_row rfl _ _ gb370 31 #[.bool t374, .string t375, .int .i64 t376] (0, 0) _ rfl (by (with_reducible repeat (first | refine blk_drewN ?_ _ | refine blk_drew ?_ | refine blk_alloc ?_ _)); refine blk_put (cs := #[.bool t374, .string t375, .int .i64 0]) ?_ 2 _ rfl; (with_reducible repeat (first | refine blk_drewN ?_ _ | refine blk_drew ?_ | refine blk_alloc ?_ _)); refine blk_put (cs := #[.bool t374, .string (⟨#[]⟩ : ByteArray), .int .i64 0]) ?_ 1 _ rfl; (with_reducible repeat (first | refine blk_drewN ?_ _ | refine blk_drew ?_ | refine blk_alloc ?_ _)); refine blk_put (cs := #[.bool false, .string (⟨#[]⟩ : ByteArray), .int .i64 0]) ?_ 0 _ rfl; (with_reducible repeat (first | refine blk_drewN ?_ _ | refine blk_drew ?_ | refine blk_alloc ?_ _)); exact BK370.out) Tryz.underlying31 rfl (by kernel_rfl)) rfl ?_
  exact ⟨ew_, (bl_ HB).out⟩

/-! ### dec_Cmp: function 33 -/
def dec_Cmp.f (k : Nat) (a0_0 : Bool) (a0_1 : ByteArray) (a0_2 : Int) (a1_0 : Bool) (a1_1 : ByteArray) (a1_2 : Int) : Option (Int) := (dec_Sub.f k a0_0 a0_1 a0_2 a1_0 a1_1 a1_2).bind fun bt379 => ((dec_Dec_Zero.f k bt379.1 bt379.2.1 bt379.2.2).bind fun t383 => (if t383 = true then (some 0) else (if bt379.1 = true then (some (-1)) else (some 1))))
theorem dec_Cmp.mono : ∀ a0 a1 a2 a3 a4 a5 k, LeO (dec_Cmp.f k a0 a1 a2 a3 a4 a5) (dec_Cmp.f (k + 1) a0 a1 a2 a3 a4 a5) := by
  intro a0 a1 a2 a3 a4 a5 k
  unfold dec_Cmp.f
  repeat' first
      | (with_reducible exact dec_Dec_Zero.mono _ _ _ _)
      | (with_reducible exact dec_Sub.mono _ _ _ _ _ _ _)
      | (with_reducible exact LeO.refl _)
      | (with_reducible exact LeO.none _)
      | (with_reducible refine LeO.ite ?_ ?_)
      | (with_reducible refine LeO.bind ?_ (fun _ => ?_))
      | exact dec_Dec_Zero.mono _ _ _ _
      | exact dec_Sub.mono _ _ _ _ _ _ _
      | exact LeO.none _
      | refine LeO.ite ?_ ?_
      | refine LeO.bind ?_ (fun _ => ?_)
set_option maxHeartbeats 8000000 in
set_option maxRecDepth 100000 in
theorem dec_Cmp.calls (k : Nat) (a0_0 : Bool) (a0_1 : ByteArray) (a0_2 : Int) (a1_0 : Bool) (a1_1 : ByteArray) (a1_2 : Int) (r : Int) (w : World) (h : dec_Cmp.f k a0_0 a0_1 a0_2 a1_0 a1_1 a1_2 = some r) :
    Calls Tryz.prog 33 #[.agg #[.bool a0_0, .string a0_1, .int .i64 a0_2], .agg #[.bool a1_0, .string a1_1, .int .i64 a1_2]] w fun e w' => e = .returned (.int .i64 r) ∧ Below w.heap.size w w' := by
  have hu31 := Tryz.underlying31
  have HB := Aside0.mk (Below.refl w.heap.size w)
  have H : ((dec_Sub.f k a0_0 a0_1 a0_2 a1_0 a1_1 a1_2).bind fun bt379 => ((dec_Dec_Zero.f k bt379.1 bt379.2.1 bt379.2.2).bind fun t383 => (if t383 = true then (some 0) else (if bt379.1 = true then (some (-1)) else (some 1))))) = some r := h
  clear h
  replace H := Option.bind_eq_some_iff.mp H
  obtain ⟨⟨t379, t380, t381⟩, A30, H⟩ := H
  replace H : ((dec_Dec_Zero.f k t379 t380 t381).bind fun t383 => (if t383 = true then (some 0) else (if t379 = true then (some (-1)) else (some 1)))) = some r := H
  have A3 := Aside0.mk A30
  clear A30
  replace H := Option.bind_eq_some_iff.mp H
  obtain ⟨t383, A40, H⟩ := H
  replace H : (if t383 = true then (some 0) else (if t379 = true then (some (-1)) else (some 1))) = some r := H
  have A4 := Aside0.mk A40
  clear A40
  by_cases c5 : t383 = true
  · subst c5
    have H1 : (some 0) = some r := by rw [if_pos rfl] at H; exact H
    clear H
    have H := H1
    clear H1
    obtain rfl := Option.some.inj H
    go_enter Tryz.func33, Tryz.ntmps33
    go_wp2_with (first | ((with_reducible refine gate_dst (N := 2) rfl ?_); refine be_ 2 #[.bool a0_0, .string a0_1, .int .i64 a0_2] 31 ?_; intro gb377 hg w6 hbox hb; have BK377 := Aside0.mk (hbox); have GW377 := sz_ HB hg; have GE377 := sz_ HB hg; replace HB := Aside0.mk (below_step (bl_ HB).out hb); clear hb hbox hg) | ((with_reducible refine gate_dst (N := 3) rfl ?_); refine be_ 3 #[.bool a1_0, .string a1_1, .int .i64 a1_2] 31 ?_; intro gb378 hg w7 hbox hb; have BK378 := Aside0.mk (hbox); have GW378 := sz_ HB hg; have GE378 := sz_ HB hg; have NB377_378 := na_ BK377 hg; have NB378_377 := nb_ BK377 hg; replace BK377 := bb_ BK377 hb; replace HB := Aside0.mk (below_step (bl_ HB).out hb); clear hb hbox hg; have hnb8 := NB377_378.out; have hnc8 := NB378_377.out; obtain ⟨hcz9_0, hcz9_1, hcz9_2, hfz9_0, hfz9_1, hfz9_2⟩ := bo3_ BK377; obtain ⟨hcz10_0, hcz10_1, hcz10_2, hfz10_0, hfz10_1, hfz10_2⟩ := bo3_ BK378) | ((with_reducible refine gate_callee (f := 32) rfl ?_); refine gl_ (some 8) Tryz.func32 #[.agg #[.bool a0_0, .string a0_1, .int .i64 a0_2], .agg #[.bool a1_0, .string a1_1, .int .i64 a1_2]] ?_; (with_reducible refine (dec_Sub.calls k a0_0 a0_1 a0_2 a1_0 a1_1 a1_2 t379 t380 t381 _ A3.out).mono ?_); rintro e w11 ⟨rfl, hb⟩; refine ⟨_, rfl, ?_⟩; replace BK377 := bb_ BK377 hb; replace BK378 := bb_ BK378 hb; replace HB := Aside0.mk (below_step (bl_ HB).out hb); (try clear hb); (try clear hb2); (try clear hk); (try clear hi)) | ((with_reducible refine gate_dst (N := 5) rfl ?_); refine be_ 5 #[.bool false, .string (⟨#[]⟩ : ByteArray), .int .i64 0] 31 ?_; intro gb382 hg w12 hbox hb; have BK382 := Aside0.mk (hbox); have GW382 := sz_ HB hg; have GE382 := sz_ HB hg; have NB377_382 := na_ BK377 hg; have NB382_377 := nb_ BK377 hg; have NB378_382 := na_ BK378 hg; have NB382_378 := nb_ BK378 hg; replace BK377 := bb_ BK377 hb; replace BK378 := bb_ BK378 hb; replace HB := Aside0.mk (below_step (bl_ HB).out hb); clear hb hbox hg; have hnb13 := NB382_377.out; have hnc13 := NB377_382.out; have hnb14 := NB382_378.out; have hnc14 := NB378_382.out; obtain ⟨hcz15_0, hcz15_1, hcz15_2, hfz15_0, hfz15_1, hfz15_2⟩ := bo3_ BK382) | ((with_reducible refine gate_callee (f := 13) rfl ?_); refine gl_ (some 11) Tryz.func13 #[.agg #[.bool t379, .string t380, .int .i64 t381]] ?_; (with_reducible refine (dec_Dec_Zero.calls k t379 t380 t381 true _ A4.out).mono ?_); rintro e w16 ⟨rfl, hb⟩; refine ⟨_, rfl, ?_⟩; have n0_ := Aside0.mk (blk_below (g := gb377) (o := .cells #[.bool a0_0, .string a0_1, .int .i64 a0_2] 31 (0, 0)) (by (with_reducible repeat (first | refine blk_drewN ?_ _ | refine blk_drew ?_ | refine blk_alloc ?_ _)); refine blk_far ?_ NB377_382.out _; (with_reducible repeat (first | refine blk_drewN ?_ _ | refine blk_drew ?_ | refine blk_alloc ?_ _)); refine blk_far ?_ NB377_382.out _; (with_reducible repeat (first | refine blk_drewN ?_ _ | refine blk_drew ?_ | refine blk_alloc ?_ _)); refine blk_far ?_ NB377_382.out _; (with_reducible repeat (first | refine blk_drewN ?_ _ | refine blk_drew ?_ | refine blk_alloc ?_ _)); exact BK377.out) hb); have n1_ := Aside0.mk (blk_below (g := gb378) (o := .cells #[.bool a1_0, .string a1_1, .int .i64 a1_2] 31 (0, 0)) (by (with_reducible repeat (first | refine blk_drewN ?_ _ | refine blk_drew ?_ | refine blk_alloc ?_ _)); refine blk_far ?_ NB378_382.out _; (with_reducible repeat (first | refine blk_drewN ?_ _ | refine blk_drew ?_ | refine blk_alloc ?_ _)); refine blk_far ?_ NB378_382.out _; (with_reducible repeat (first | refine blk_drewN ?_ _ | refine blk_drew ?_ | refine blk_alloc ?_ _)); refine blk_far ?_ NB378_382.out _; (with_reducible repeat (first | refine blk_drewN ?_ _ | refine blk_drew ?_ | refine blk_alloc ?_ _)); exact BK378.out) hb); have n2_ := Aside0.mk (blk_below (g := gb382) (o := .cells #[.bool t379, .string t380, .int .i64 t381] 31 (0, 0)) (by (with_reducible repeat (first | refine blk_drewN ?_ _ | refine blk_drew ?_ | refine blk_alloc ?_ _)); refine blk_put (cs := #[.bool t379, .string t380, .int .i64 0]) ?_ 2 _ rfl; (with_reducible repeat (first | refine blk_drewN ?_ _ | refine blk_drew ?_ | refine blk_alloc ?_ _)); refine blk_put (cs := #[.bool t379, .string (⟨#[]⟩ : ByteArray), .int .i64 0]) ?_ 1 _ rfl; (with_reducible repeat (first | refine blk_drewN ?_ _ | refine blk_drew ?_ | refine blk_alloc ?_ _)); refine blk_put (cs := #[.bool false, .string (⟨#[]⟩ : ByteArray), .int .i64 0]) ?_ 0 _ rfl; (with_reducible repeat (first | refine blk_drewN ?_ _ | refine blk_drew ?_ | refine blk_alloc ?_ _)); exact BK382.out) hb); have n3_ := Aside0.mk (below_step (bl_ HB).out hb); clear BK377; clear BK378; clear BK382; clear HB; have BK377 := n0_; have BK378 := n1_; have BK382 := n2_; have HB := n3_; clear n0_ n1_ n2_ n3_; (try clear hb); (try clear hb2); (try clear hk); (try clear hi)))
    go_ret
    exact ⟨ew_, (bl_ HB).out⟩
  · replace c5 := Bool.eq_false_iff.mpr c5
    subst c5
    have H1 : (if t379 = true then (some (-1)) else (some 1)) = some r := by rw [if_neg (show ¬ (false = true) by decide)] at H; exact H
    clear H
    have H := H1
    clear H1
    by_cases c17 : t379 = true
    · subst c17
      have H1 : (some (-1)) = some r := by rw [if_pos rfl] at H; exact H
      clear H
      have H := H1
      clear H1
      obtain rfl := Option.some.inj H
      go_enter Tryz.func33, Tryz.ntmps33
      go_wp2_with (first | ((with_reducible refine gate_dst (N := 2) rfl ?_); refine be_ 2 #[.bool a0_0, .string a0_1, .int .i64 a0_2] 31 ?_; intro gb377 hg w18 hbox hb; have BK377 := Aside0.mk (hbox); have GW377 := sz_ HB hg; have GE377 := sz_ HB hg; replace HB := Aside0.mk (below_step (bl_ HB).out hb); clear hb hbox hg) | ((with_reducible refine gate_dst (N := 3) rfl ?_); refine be_ 3 #[.bool a1_0, .string a1_1, .int .i64 a1_2] 31 ?_; intro gb378 hg w19 hbox hb; have BK378 := Aside0.mk (hbox); have GW378 := sz_ HB hg; have GE378 := sz_ HB hg; have NB377_378 := na_ BK377 hg; have NB378_377 := nb_ BK377 hg; replace BK377 := bb_ BK377 hb; replace HB := Aside0.mk (below_step (bl_ HB).out hb); clear hb hbox hg; have hnb20 := NB377_378.out; have hnc20 := NB378_377.out; obtain ⟨hcz21_0, hcz21_1, hcz21_2, hfz21_0, hfz21_1, hfz21_2⟩ := bo3_ BK377; obtain ⟨hcz22_0, hcz22_1, hcz22_2, hfz22_0, hfz22_1, hfz22_2⟩ := bo3_ BK378) | ((with_reducible refine gate_callee (f := 32) rfl ?_); refine gl_ (some 8) Tryz.func32 #[.agg #[.bool a0_0, .string a0_1, .int .i64 a0_2], .agg #[.bool a1_0, .string a1_1, .int .i64 a1_2]] ?_; (with_reducible refine (dec_Sub.calls k a0_0 a0_1 a0_2 a1_0 a1_1 a1_2 true t380 t381 _ A3.out).mono ?_); rintro e w23 ⟨rfl, hb⟩; refine ⟨_, rfl, ?_⟩; replace BK377 := bb_ BK377 hb; replace BK378 := bb_ BK378 hb; replace HB := Aside0.mk (below_step (bl_ HB).out hb); (try clear hb); (try clear hb2); (try clear hk); (try clear hi)) | ((with_reducible refine gate_dst (N := 5) rfl ?_); refine be_ 5 #[.bool false, .string (⟨#[]⟩ : ByteArray), .int .i64 0] 31 ?_; intro gb382 hg w24 hbox hb; have BK382 := Aside0.mk (hbox); have GW382 := sz_ HB hg; have GE382 := sz_ HB hg; have NB377_382 := na_ BK377 hg; have NB382_377 := nb_ BK377 hg; have NB378_382 := na_ BK378 hg; have NB382_378 := nb_ BK378 hg; replace BK377 := bb_ BK377 hb; replace BK378 := bb_ BK378 hb; replace HB := Aside0.mk (below_step (bl_ HB).out hb); clear hb hbox hg; have hnb25 := NB382_377.out; have hnc25 := NB377_382.out; have hnb26 := NB382_378.out; have hnc26 := NB378_382.out; obtain ⟨hcz27_0, hcz27_1, hcz27_2, hfz27_0, hfz27_1, hfz27_2⟩ := bo3_ BK382) | ((with_reducible refine gate_callee (f := 13) rfl ?_); refine gl_ (some 11) Tryz.func13 #[.agg #[.bool true, .string t380, .int .i64 t381]] ?_; (with_reducible refine (dec_Dec_Zero.calls k true t380 t381 false _ A4.out).mono ?_); rintro e w28 ⟨rfl, hb⟩; refine ⟨_, rfl, ?_⟩; have n0_ := Aside0.mk (blk_below (g := gb377) (o := .cells #[.bool a0_0, .string a0_1, .int .i64 a0_2] 31 (0, 0)) (by (with_reducible repeat (first | refine blk_drewN ?_ _ | refine blk_drew ?_ | refine blk_alloc ?_ _)); refine blk_far ?_ NB377_382.out _; (with_reducible repeat (first | refine blk_drewN ?_ _ | refine blk_drew ?_ | refine blk_alloc ?_ _)); refine blk_far ?_ NB377_382.out _; (with_reducible repeat (first | refine blk_drewN ?_ _ | refine blk_drew ?_ | refine blk_alloc ?_ _)); refine blk_far ?_ NB377_382.out _; (with_reducible repeat (first | refine blk_drewN ?_ _ | refine blk_drew ?_ | refine blk_alloc ?_ _)); exact BK377.out) hb); have n1_ := Aside0.mk (blk_below (g := gb378) (o := .cells #[.bool a1_0, .string a1_1, .int .i64 a1_2] 31 (0, 0)) (by (with_reducible repeat (first | refine blk_drewN ?_ _ | refine blk_drew ?_ | refine blk_alloc ?_ _)); refine blk_far ?_ NB378_382.out _; (with_reducible repeat (first | refine blk_drewN ?_ _ | refine blk_drew ?_ | refine blk_alloc ?_ _)); refine blk_far ?_ NB378_382.out _; (with_reducible repeat (first | refine blk_drewN ?_ _ | refine blk_drew ?_ | refine blk_alloc ?_ _)); refine blk_far ?_ NB378_382.out _; (with_reducible repeat (first | refine blk_drewN ?_ _ | refine blk_drew ?_ | refine blk_alloc ?_ _)); exact BK378.out) hb); have n2_ := Aside0.mk (blk_below (g := gb382) (o := .cells #[.bool true, .string t380, .int .i64 t381] 31 (0, 0)) (by (with_reducible repeat (first | refine blk_drewN ?_ _ | refine blk_drew ?_ | refine blk_alloc ?_ _)); refine blk_put (cs := #[.bool true, .string t380, .int .i64 0]) ?_ 2 _ rfl; (with_reducible repeat (first | refine blk_drewN ?_ _ | refine blk_drew ?_ | refine blk_alloc ?_ _)); refine blk_put (cs := #[.bool true, .string (⟨#[]⟩ : ByteArray), .int .i64 0]) ?_ 1 _ rfl; (with_reducible repeat (first | refine blk_drewN ?_ _ | refine blk_drew ?_ | refine blk_alloc ?_ _)); refine blk_put (cs := #[.bool false, .string (⟨#[]⟩ : ByteArray), .int .i64 0]) ?_ 0 _ rfl; (with_reducible repeat (first | refine blk_drewN ?_ _ | refine blk_drew ?_ | refine blk_alloc ?_ _)); exact BK382.out) hb); have n3_ := Aside0.mk (below_step (bl_ HB).out hb); clear BK377; clear BK378; clear BK382; clear HB; have BK377 := n0_; have BK378 := n1_; have BK382 := n2_; have HB := n3_; clear n0_ n1_ n2_ n3_; (try clear hb); (try clear hb2); (try clear hk); (try clear hi); obtain ⟨hcz29_0, hcz29_1, hcz29_2, hfz29_0, hfz29_1, hfz29_2⟩ := bo3_ BK382))
      go_ret
      exact ⟨ew_, (bl_ HB).out⟩
    · replace c17 := Bool.eq_false_iff.mpr c17
      subst c17
      have H1 : (some 1) = some r := by rw [if_neg (show ¬ (false = true) by decide)] at H; exact H
      clear H
      have H := H1
      clear H1
      obtain rfl := Option.some.inj H
      go_enter Tryz.func33, Tryz.ntmps33
      go_wp2_with (first | ((with_reducible refine gate_dst (N := 2) rfl ?_); refine be_ 2 #[.bool a0_0, .string a0_1, .int .i64 a0_2] 31 ?_; intro gb377 hg w30 hbox hb; have BK377 := Aside0.mk (hbox); have GW377 := sz_ HB hg; have GE377 := sz_ HB hg; replace HB := Aside0.mk (below_step (bl_ HB).out hb); clear hb hbox hg) | ((with_reducible refine gate_dst (N := 3) rfl ?_); refine be_ 3 #[.bool a1_0, .string a1_1, .int .i64 a1_2] 31 ?_; intro gb378 hg w31 hbox hb; have BK378 := Aside0.mk (hbox); have GW378 := sz_ HB hg; have GE378 := sz_ HB hg; have NB377_378 := na_ BK377 hg; have NB378_377 := nb_ BK377 hg; replace BK377 := bb_ BK377 hb; replace HB := Aside0.mk (below_step (bl_ HB).out hb); clear hb hbox hg; have hnb32 := NB377_378.out; have hnc32 := NB378_377.out; obtain ⟨hcz33_0, hcz33_1, hcz33_2, hfz33_0, hfz33_1, hfz33_2⟩ := bo3_ BK377; obtain ⟨hcz34_0, hcz34_1, hcz34_2, hfz34_0, hfz34_1, hfz34_2⟩ := bo3_ BK378) | ((with_reducible refine gate_callee (f := 32) rfl ?_); refine gl_ (some 8) Tryz.func32 #[.agg #[.bool a0_0, .string a0_1, .int .i64 a0_2], .agg #[.bool a1_0, .string a1_1, .int .i64 a1_2]] ?_; (with_reducible refine (dec_Sub.calls k a0_0 a0_1 a0_2 a1_0 a1_1 a1_2 false t380 t381 _ A3.out).mono ?_); rintro e w35 ⟨rfl, hb⟩; refine ⟨_, rfl, ?_⟩; replace BK377 := bb_ BK377 hb; replace BK378 := bb_ BK378 hb; replace HB := Aside0.mk (below_step (bl_ HB).out hb); (try clear hb); (try clear hb2); (try clear hk); (try clear hi)) | ((with_reducible refine gate_dst (N := 5) rfl ?_); refine be_ 5 #[.bool false, .string (⟨#[]⟩ : ByteArray), .int .i64 0] 31 ?_; intro gb382 hg w36 hbox hb; have BK382 := Aside0.mk (hbox); have GW382 := sz_ HB hg; have GE382 := sz_ HB hg; have NB377_382 := na_ BK377 hg; have NB382_377 := nb_ BK377 hg; have NB378_382 := na_ BK378 hg; have NB382_378 := nb_ BK378 hg; replace BK377 := bb_ BK377 hb; replace BK378 := bb_ BK378 hb; replace HB := Aside0.mk (below_step (bl_ HB).out hb); clear hb hbox hg; have hnb37 := NB382_377.out; have hnc37 := NB377_382.out; have hnb38 := NB382_378.out; have hnc38 := NB378_382.out; obtain ⟨hcz39_0, hcz39_1, hcz39_2, hfz39_0, hfz39_1, hfz39_2⟩ := bo3_ BK382) | ((with_reducible refine gate_callee (f := 13) rfl ?_); refine gl_ (some 11) Tryz.func13 #[.agg #[.bool false, .string t380, .int .i64 t381]] ?_; (with_reducible refine (dec_Dec_Zero.calls k false t380 t381 false _ A4.out).mono ?_); rintro e w40 ⟨rfl, hb⟩; refine ⟨_, rfl, ?_⟩; have n0_ := Aside0.mk (blk_below (g := gb377) (o := .cells #[.bool a0_0, .string a0_1, .int .i64 a0_2] 31 (0, 0)) (by (with_reducible repeat (first | refine blk_drewN ?_ _ | refine blk_drew ?_ | refine blk_alloc ?_ _)); refine blk_far ?_ NB377_382.out _; (with_reducible repeat (first | refine blk_drewN ?_ _ | refine blk_drew ?_ | refine blk_alloc ?_ _)); refine blk_far ?_ NB377_382.out _; (with_reducible repeat (first | refine blk_drewN ?_ _ | refine blk_drew ?_ | refine blk_alloc ?_ _)); refine blk_far ?_ NB377_382.out _; (with_reducible repeat (first | refine blk_drewN ?_ _ | refine blk_drew ?_ | refine blk_alloc ?_ _)); exact BK377.out) hb); have n1_ := Aside0.mk (blk_below (g := gb378) (o := .cells #[.bool a1_0, .string a1_1, .int .i64 a1_2] 31 (0, 0)) (by (with_reducible repeat (first | refine blk_drewN ?_ _ | refine blk_drew ?_ | refine blk_alloc ?_ _)); refine blk_far ?_ NB378_382.out _; (with_reducible repeat (first | refine blk_drewN ?_ _ | refine blk_drew ?_ | refine blk_alloc ?_ _)); refine blk_far ?_ NB378_382.out _; (with_reducible repeat (first | refine blk_drewN ?_ _ | refine blk_drew ?_ | refine blk_alloc ?_ _)); refine blk_far ?_ NB378_382.out _; (with_reducible repeat (first | refine blk_drewN ?_ _ | refine blk_drew ?_ | refine blk_alloc ?_ _)); exact BK378.out) hb); have n2_ := Aside0.mk (blk_below (g := gb382) (o := .cells #[.bool false, .string t380, .int .i64 t381] 31 (0, 0)) (by (with_reducible repeat (first | refine blk_drewN ?_ _ | refine blk_drew ?_ | refine blk_alloc ?_ _)); refine blk_put (cs := #[.bool false, .string t380, .int .i64 0]) ?_ 2 _ rfl; (with_reducible repeat (first | refine blk_drewN ?_ _ | refine blk_drew ?_ | refine blk_alloc ?_ _)); refine blk_put (cs := #[.bool false, .string (⟨#[]⟩ : ByteArray), .int .i64 0]) ?_ 1 _ rfl; (with_reducible repeat (first | refine blk_drewN ?_ _ | refine blk_drew ?_ | refine blk_alloc ?_ _)); refine blk_put (cs := #[.bool false, .string (⟨#[]⟩ : ByteArray), .int .i64 0]) ?_ 0 _ rfl; (with_reducible repeat (first | refine blk_drewN ?_ _ | refine blk_drew ?_ | refine blk_alloc ?_ _)); exact BK382.out) hb); have n3_ := Aside0.mk (below_step (bl_ HB).out hb); clear BK377; clear BK378; clear BK382; clear HB; have BK377 := n0_; have BK378 := n1_; have BK382 := n2_; have HB := n3_; clear n0_ n1_ n2_ n3_; (try clear hb); (try clear hb2); (try clear hk); (try clear hi); obtain ⟨hcz41_0, hcz41_1, hcz41_2, hfz41_0, hfz41_1, hfz41_2⟩ := bo3_ BK382))
      go_ret
      exact ⟨ew_, (bl_ HB).out⟩

/-! ### dec_Dec_Abs: function 34 -/
def dec_Dec_Abs.f (k : Nat) (a0_0 : Bool) (a0_1 : ByteArray) (a0_2 : Int) : Option (Bool × ByteArray × Int) := (dec_Made.f k false a0_1 a0_2).bind fun bt386 => (some (bt386.1, bt386.2.1, bt386.2.2))
theorem dec_Dec_Abs.mono : ∀ a0 a1 a2 k, LeO (dec_Dec_Abs.f k a0 a1 a2) (dec_Dec_Abs.f (k + 1) a0 a1 a2) := by
  intro a0 a1 a2 k
  unfold dec_Dec_Abs.f
  repeat' first
      | (with_reducible exact dec_Made.mono _ _ _ _)
      | (with_reducible exact LeO.refl _)
      | (with_reducible exact LeO.none _)
      | (with_reducible refine LeO.ite ?_ ?_)
      | (with_reducible refine LeO.bind ?_ (fun _ => ?_))
      | exact dec_Made.mono _ _ _ _
      | exact LeO.none _
      | refine LeO.ite ?_ ?_
      | refine LeO.bind ?_ (fun _ => ?_)
set_option maxHeartbeats 8000000 in
set_option maxRecDepth 100000 in
theorem dec_Dec_Abs.calls (k : Nat) (a0_0 : Bool) (a0_1 : ByteArray) (a0_2 : Int) (r1 : Bool) (r2 : ByteArray) (r3 : Int) (w : World) (h : dec_Dec_Abs.f k a0_0 a0_1 a0_2 = some (r1, r2, r3)) :
    Calls Tryz.prog 34 #[.agg #[.bool a0_0, .string a0_1, .int .i64 a0_2]] w fun e w' => e = .returned (.agg #[.bool r1, .string r2, .int .i64 r3]) ∧ Below w.heap.size w w' := by
  have hu31 := Tryz.underlying31
  have HB := Aside0.mk (Below.refl w.heap.size w)
  have H : ((dec_Made.f k false a0_1 a0_2).bind fun bt386 => (some (bt386.1, bt386.2.1, bt386.2.2))) = some (r1, r2, r3) := h
  clear h
  replace H := Option.bind_eq_some_iff.mp H
  obtain ⟨⟨t386, t387, t388⟩, A20, H⟩ := H
  replace H : (some (t386, t387, t388)) = some (r1, r2, r3) := H
  have A2 := Aside0.mk A20
  clear A20
  simp only [Option.some.injEq, Prod.mk.injEq] at H
  obtain ⟨rfl, rfl, rfl⟩ := H
  go_enter Tryz.func34, Tryz.ntmps34
  go_wp2_with (first | ((with_reducible refine gate_dst (N := 1) rfl ?_); refine be_ 1 #[.bool a0_0, .string a0_1, .int .i64 a0_2] 31 ?_; intro gb384 hg w3 hbox hb; have BK384 := Aside0.mk (hbox); have GW384 := sz_ HB hg; have GE384 := sz_ HB hg; replace HB := Aside0.mk (below_step (bl_ HB).out hb); clear hb hbox hg) | ((with_reducible refine gate_dst (N := 2) rfl ?_); refine be_ 2 #[.bool false, .string (⟨#[]⟩ : ByteArray), .int .i64 0] 31 ?_; intro gb385 hg w4 hbox hb; have BK385 := Aside0.mk (hbox); have GW385 := sz_ HB hg; have GE385 := sz_ HB hg; have NB384_385 := na_ BK384 hg; have NB385_384 := nb_ BK384 hg; replace BK384 := bb_ BK384 hb; replace HB := Aside0.mk (below_step (bl_ HB).out hb); clear hb hbox hg; have hnb5 := NB384_385.out; have hnc5 := NB385_384.out; obtain ⟨hcz6_0, hcz6_1, hcz6_2, hfz6_0, hfz6_1, hfz6_2⟩ := bo3_ BK384) | ((with_reducible refine gate_callee (f := 16) rfl ?_); refine gl_ (some 7) Tryz.func16 #[.bool false, .string a0_1, .int .i64 a0_2] ?_; (with_reducible refine (dec_Made.calls k false a0_1 a0_2 t386 t387 t388 _ A2.out).mono ?_); rintro e w7 ⟨rfl, hb⟩; refine ⟨_, rfl, ?_⟩; replace BK384 := bb_ BK384 hb; replace BK385 := bb_ BK385 hb; replace HB := Aside0.mk (below_step (bl_ HB).out hb); (try clear hb); (try clear hb2); (try clear hk); (try clear hi); obtain ⟨hcz8_0, hcz8_1, hcz8_2, hfz8_0, hfz8_1, hfz8_2⟩ := bo3_ BK385))
  refine bodyPost_ret (results_cell_row rfl _ _ gb385 31 #[.bool t386, .string t387, .int .i64 t388] (0, 0) _ rfl (by (with_reducible repeat (first | refine blk_drewN ?_ _ | refine blk_drew ?_ | refine blk_alloc ?_ _)); refine blk_put (cs := #[.bool t386, .string t387, .int .i64 0]) ?_ 2 _ rfl; (with_reducible repeat (first | refine blk_drewN ?_ _ | refine blk_drew ?_ | refine blk_alloc ?_ _)); refine blk_put (cs := #[.bool t386, .string (⟨#[]⟩ : ByteArray), .int .i64 0]) ?_ 1 _ rfl; (with_reducible repeat (first | refine blk_drewN ?_ _ | refine blk_drew ?_ | refine blk_alloc ?_ _)); refine blk_put (cs := #[.bool false, .string (⟨#[]⟩ : ByteArray), .int .i64 0]) ?_ 0 _ rfl; (with_reducible repeat (first | refine blk_drewN ?_ _ | refine blk_drew ?_ | refine blk_alloc ?_ _)); exact BK385.out) Tryz.underlying31 rfl (by kernel_rfl)) rfl ?_
  exact ⟨ew_, (bl_ HB).out⟩

/-! ### florinlaw03_twice: function 35 -/
def florinlaw03_twice.f (k : Nat) (a0_0 : Bool) (a0_1 : ByteArray) (a0_2 : Int) : Option (Bool × ByteArray × Int) := (dec_Add.f k a0_0 a0_1 a0_2 a0_0 a0_1 a0_2).bind fun bt391 => (some (bt391.1, bt391.2.1, bt391.2.2))
theorem florinlaw03_twice.mono : ∀ a0 a1 a2 k, LeO (florinlaw03_twice.f k a0 a1 a2) (florinlaw03_twice.f (k + 1) a0 a1 a2) := by
  intro a0 a1 a2 k
  unfold florinlaw03_twice.f
  repeat' first
      | (with_reducible exact dec_Add.mono _ _ _ _ _ _ _)
      | (with_reducible exact LeO.refl _)
      | (with_reducible exact LeO.none _)
      | (with_reducible refine LeO.ite ?_ ?_)
      | (with_reducible refine LeO.bind ?_ (fun _ => ?_))
      | exact dec_Add.mono _ _ _ _ _ _ _
      | exact LeO.none _
      | refine LeO.ite ?_ ?_
      | refine LeO.bind ?_ (fun _ => ?_)
set_option maxHeartbeats 8000000 in
set_option maxRecDepth 100000 in
theorem florinlaw03_twice.calls (k : Nat) (a0_0 : Bool) (a0_1 : ByteArray) (a0_2 : Int) (r1 : Bool) (r2 : ByteArray) (r3 : Int) (w : World) (h : florinlaw03_twice.f k a0_0 a0_1 a0_2 = some (r1, r2, r3)) :
    Calls Tryz.prog 35 #[.agg #[.bool a0_0, .string a0_1, .int .i64 a0_2]] w fun e w' => e = .returned (.agg #[.bool r1, .string r2, .int .i64 r3]) ∧ Below w.heap.size w w' := by
  have hu31 := Tryz.underlying31
  have HB := Aside0.mk (Below.refl w.heap.size w)
  have H : ((dec_Add.f k a0_0 a0_1 a0_2 a0_0 a0_1 a0_2).bind fun bt391 => (some (bt391.1, bt391.2.1, bt391.2.2))) = some (r1, r2, r3) := h
  clear h
  replace H := Option.bind_eq_some_iff.mp H
  obtain ⟨⟨t391, t392, t393⟩, A20, H⟩ := H
  replace H : (some (t391, t392, t393)) = some (r1, r2, r3) := H
  have A2 := Aside0.mk A20
  clear A20
  simp only [Option.some.injEq, Prod.mk.injEq] at H
  obtain ⟨rfl, rfl, rfl⟩ := H
  go_enter Tryz.func35, Tryz.ntmps35
  go_wp2_with (first | ((with_reducible refine gate_dst (N := 1) rfl ?_); refine be_ 1 #[.bool a0_0, .string a0_1, .int .i64 a0_2] 31 ?_; intro gb389 hg w3 hbox hb; have BK389 := Aside0.mk (hbox); have GW389 := sz_ HB hg; have GE389 := sz_ HB hg; replace HB := Aside0.mk (below_step (bl_ HB).out hb); clear hb hbox hg) | ((with_reducible refine gate_dst (N := 2) rfl ?_); refine be_ 2 #[.bool false, .string (⟨#[]⟩ : ByteArray), .int .i64 0] 31 ?_; intro gb390 hg w4 hbox hb; have BK390 := Aside0.mk (hbox); have GW390 := sz_ HB hg; have GE390 := sz_ HB hg; have NB389_390 := na_ BK389 hg; have NB390_389 := nb_ BK389 hg; replace BK389 := bb_ BK389 hb; replace HB := Aside0.mk (below_step (bl_ HB).out hb); clear hb hbox hg; have hnb5 := NB389_390.out; have hnc5 := NB390_389.out; obtain ⟨hcz6_0, hcz6_1, hcz6_2, hfz6_0, hfz6_1, hfz6_2⟩ := bo3_ BK389) | ((with_reducible refine gate_callee (f := 56) rfl ?_); refine gl_ (some 5) Tryz.func56 #[.agg #[.bool a0_0, .string a0_1, .int .i64 a0_2], .agg #[.bool a0_0, .string a0_1, .int .i64 a0_2]] ?_; (with_reducible refine (dec_Add.calls k a0_0 a0_1 a0_2 a0_0 a0_1 a0_2 t391 t392 t393 _ A2.out).mono ?_); rintro e w7 ⟨rfl, hb⟩; refine ⟨_, rfl, ?_⟩; replace BK389 := bb_ BK389 hb; replace BK390 := bb_ BK390 hb; replace HB := Aside0.mk (below_step (bl_ HB).out hb); (try clear hb); (try clear hb2); (try clear hk); (try clear hi); obtain ⟨hcz8_0, hcz8_1, hcz8_2, hfz8_0, hfz8_1, hfz8_2⟩ := bo3_ BK390))
  refine bodyPost_ret (results_cell_row rfl _ _ gb390 31 #[.bool t391, .string t392, .int .i64 t393] (0, 0) _ rfl (by (with_reducible repeat (first | refine blk_drewN ?_ _ | refine blk_drew ?_ | refine blk_alloc ?_ _)); refine blk_put (cs := #[.bool t391, .string t392, .int .i64 0]) ?_ 2 _ rfl; (with_reducible repeat (first | refine blk_drewN ?_ _ | refine blk_drew ?_ | refine blk_alloc ?_ _)); refine blk_put (cs := #[.bool t391, .string (⟨#[]⟩ : ByteArray), .int .i64 0]) ?_ 1 _ rfl; (with_reducible repeat (first | refine blk_drewN ?_ _ | refine blk_drew ?_ | refine blk_alloc ?_ _)); refine blk_put (cs := #[.bool false, .string (⟨#[]⟩ : ByteArray), .int .i64 0]) ?_ 0 _ rfl; (with_reducible repeat (first | refine blk_drewN ?_ _ | refine blk_drew ?_ | refine blk_alloc ?_ _)); exact BK390.out) Tryz.underlying31 rfl (by kernel_rfl)) rfl ?_
  exact ⟨ew_, (bl_ HB).out⟩

/-! ### dec_Dec_Scale: function 58 -/
def dec_Dec_Scale.f (k : Nat) (a0_0 : Bool) (a0_1 : ByteArray) (a0_2 : Int) (a1 : Int) : Option (Bool × ByteArray × Int) := (dec_Dec_Norm.f k a0_0 a0_1 a0_2).bind fun bt396 => ((dec_held.f a1).bind fun t399 => ((dec_Made.f k bt396.1 bt396.2.1 (wrap64 (bt396.2.2 + t399))).bind fun bt400 => (some (bt400.1, bt400.2.1, bt400.2.2))))
theorem dec_Dec_Scale.mono : ∀ a0 a1 a2 a3 k, LeO (dec_Dec_Scale.f k a0 a1 a2 a3) (dec_Dec_Scale.f (k + 1) a0 a1 a2 a3) := by
  intro a0 a1 a2 a3 k
  unfold dec_Dec_Scale.f
  repeat' first
      | (with_reducible exact dec_Dec_Norm.mono _ _ _ _)
      | (with_reducible exact dec_Made.mono _ _ _ _)
      | (with_reducible exact LeO.refl _)
      | (with_reducible exact LeO.none _)
      | (with_reducible refine LeO.ite ?_ ?_)
      | (with_reducible refine LeO.bind ?_ (fun _ => ?_))
      | exact dec_Dec_Norm.mono _ _ _ _
      | exact dec_Made.mono _ _ _ _
      | exact LeO.none _
      | refine LeO.ite ?_ ?_
      | refine LeO.bind ?_ (fun _ => ?_)
def dec_Dec_Scale.T2 : Bool × List (List Nat × List Nat) := (true, [([], []), ([0], [0]), ([], []), ([2], [2]), ([], []), ([4], [4]), ([], []), ([6], [6]), ([5, 7], [5, 7]), ([1, 3, 8, 7], [1, 3, 8]), ([9, 9, 0, 1, 2, 3, 4, 5, 6, 7, 8, 9], [9])])
def dec_Dec_Scale.B2 : List Nat := [0, 1, 0, 4, 0, 16, 0, 64, 240, 511, 1023]
theorem dec_Dec_Scale.tab2 : rtab .any (opsOf Tryz.f58 2) = dec_Dec_Scale.T2 := by kernel_rfl
theorem dec_Dec_Scale.bits2 : waitsOk dec_Dec_Scale.T2.2 dec_Dec_Scale.B2 = true := by kernel_rfl
set_option maxHeartbeats 8000000 in
set_option maxRecDepth 100000 in
theorem dec_Dec_Scale.calls (k : Nat) (a0_0 : Bool) (a0_1 : ByteArray) (a0_2 : Int) (a1 : Int) (r1 : Bool) (r2 : ByteArray) (r3 : Int) (w : World) (h : dec_Dec_Scale.f k a0_0 a0_1 a0_2 a1 = some (r1, r2, r3)) :
    Calls Tryz.prog 58 #[.agg #[.bool a0_0, .string a0_1, .int .i64 a0_2], .int .i64 a1] w fun e w' => e = .returned (.agg #[.bool r1, .string r2, .int .i64 r3]) ∧ Below w.heap.size w w' := by
  have hu31 := Tryz.underlying31
  have HB := Aside0.mk (Below.refl w.heap.size w)
  have H : ((dec_Dec_Norm.f k a0_0 a0_1 a0_2).bind fun bt396 => ((dec_held.f a1).bind fun t399 => ((dec_Made.f k bt396.1 bt396.2.1 (wrap64 (bt396.2.2 + t399))).bind fun bt400 => (some (bt400.1, bt400.2.1, bt400.2.2))))) = some (r1, r2, r3) := h
  clear h
  replace H := Option.bind_eq_some_iff.mp H
  obtain ⟨⟨t396, t397, t398⟩, A30, H⟩ := H
  replace H : ((dec_held.f a1).bind fun t399 => ((dec_Made.f k t396 t397 (wrap64 (t398 + t399))).bind fun bt400 => (some (bt400.1, bt400.2.1, bt400.2.2)))) = some (r1, r2, r3) := H
  have A3 := Aside0.mk A30
  clear A30
  replace H := Option.bind_eq_some_iff.mp H
  obtain ⟨t399, A40, H⟩ := H
  replace H : ((dec_Made.f k t396 t397 (wrap64 (t398 + t399))).bind fun bt400 => (some (bt400.1, bt400.2.1, bt400.2.2))) = some (r1, r2, r3) := H
  have A4 := Aside0.mk A40
  clear A40
  replace H := Option.bind_eq_some_iff.mp H
  obtain ⟨⟨t400, t401, t402⟩, A50, H⟩ := H
  replace H : (some (t400, t401, t402)) = some (r1, r2, r3) := H
  have A5 := Aside0.mk A50
  clear A50
  simp only [Option.some.injEq, Prod.mk.injEq] at H
  obtain ⟨rfl, rfl, rfl⟩ := H
  go_enter Tryz.func58, Tryz.ntmps58
  try go_wp2_with (first | ((with_reducible refine gate_dst (N := 2) rfl ?_); refine be_ 2 #[.bool a0_0, .string a0_1, .int .i64 a0_2] 31 ?_; intro gb394 hg w6 hbox hb; have BK394 := Aside0.mk (hbox); have GW394 := sz_ HB hg; have GE394 := sz_ HB hg; replace HB := Aside0.mk (below_step (bl_ HB).out hb); clear hb hbox hg) | ((with_reducible refine gate_dst (N := 4) rfl ?_); refine be_ 4 #[.bool false, .string (⟨#[]⟩ : ByteArray), .int .i64 0] 31 ?_; intro gb395 hg w7 hbox hb; have BK395 := Aside0.mk (hbox); have GW395 := sz_ HB hg; have GE395 := sz_ HB hg; have NB394_395 := na_ BK394 hg; have NB395_394 := nb_ BK394 hg; replace BK394 := bb_ BK394 hb; replace HB := Aside0.mk (below_step (bl_ HB).out hb); clear hb hbox hg; have hnb8 := NB394_395.out; have hnc8 := NB395_394.out; obtain ⟨hcz9_0, hcz9_1, hcz9_2, hfz9_0, hfz9_1, hfz9_2⟩ := bo3_ BK394) | ((with_reducible refine gate_callee (f := 8) rfl ?_); refine gl_ (some 6) Tryz.func8 #[.agg #[.bool a0_0, .string a0_1, .int .i64 a0_2]] ?_; (with_reducible refine (dec_Dec_Norm.calls k a0_0 a0_1 a0_2 t396 t397 t398 _ A3.out).mono ?_); rintro e w10 ⟨rfl, hb⟩; refine ⟨_, rfl, ?_⟩; replace BK394 := bb_ BK394 hb; replace BK395 := bb_ BK395 hb; replace HB := Aside0.mk (below_step (bl_ HB).out hb); (try clear hb); (try clear hb2); (try clear hk); (try clear hi); obtain ⟨hcz11_0, hcz11_1, hcz11_2, hfz11_0, hfz11_1, hfz11_2⟩ := bo3_ BK394))
  have n0_ : Aside0 ((((w10.setCell ⟨gb394, 0, none⟩ (.bool t396)).setCell ⟨gb394, 1, none⟩ (.string t397)).setCell ⟨gb394, 2, none⟩ (.int .i64 t398)).heap[gb394]? = some (.cells #[.bool t396, .string t397, .int .i64 t398] 31 (0, 0))) := ⟨by (with_reducible repeat (first | refine blk_drewN ?_ _ | refine blk_drew ?_ | refine blk_alloc ?_ _)); refine blk_put (cs := #[.bool t396, .string t397, .int .i64 a0_2]) ?_ 2 _ rfl; (with_reducible repeat (first | refine blk_drewN ?_ _ | refine blk_drew ?_ | refine blk_alloc ?_ _)); refine blk_put (cs := #[.bool t396, .string a0_1, .int .i64 a0_2]) ?_ 1 _ rfl; (with_reducible repeat (first | refine blk_drewN ?_ _ | refine blk_drew ?_ | refine blk_alloc ?_ _)); refine blk_put (cs := #[.bool a0_0, .string a0_1, .int .i64 a0_2]) ?_ 0 _ rfl; (with_reducible repeat (first | refine blk_drewN ?_ _ | refine blk_drew ?_ | refine blk_alloc ?_ _)); exact BK394.out⟩
  have n1_ : Aside0 ((((w10.setCell ⟨gb394, 0, none⟩ (.bool t396)).setCell ⟨gb394, 1, none⟩ (.string t397)).setCell ⟨gb394, 2, none⟩ (.int .i64 t398)).heap[gb395]? = _) := bf_ BK395
  have n2_ : Aside0 (Below w.heap.size w (((w10.setCell ⟨gb394, 0, none⟩ (.bool t396)).setCell ⟨gb394, 1, none⟩ (.string t397)).setCell ⟨gb394, 2, none⟩ (.int .i64 t398))) := (bl_ HB)
  (try clear BK394)
  (try clear BK395)
  (try clear HB)
  generalize (((w10.setCell ⟨gb394, 0, none⟩ (.bool t396)).setCell ⟨gb394, 1, none⟩ (.string t397)).setCell ⟨gb394, 2, none⟩ (.int .i64 t398)) = w12 at n0_ n1_ n2_ ⊢
  have BK394 := n0_
  have BK395 := n1_
  have HB := n2_
  clear n0_ n1_ n2_
  replace BK394 := Aside0.mk (blk_drew BK394.out)
  replace BK395 := Aside0.mk (blk_drew BK395.out)
  replace HB := Aside0.mk (below_drew1 HB.out)
  refine start_ (n := 11) (S := fun w' => w'.cell? ⟨gb394, 0, none⟩ = some (.bool t396) ∧ w'.cell? ⟨gb394, 1, none⟩ = some (.string t397) ∧ w'.cell? ⟨gb394, 2, none⟩ = some (.int .i64 t398)) (ds := []) #[false, false, false, false, false, false, false, false, false, false, false] (by kernel_rfl) rfl rfl ⟨bc_ BK394 0, bc_ BK394 1, bc_ BK394 2⟩ (fun hHeld => ?_); refine with_tabW dec_Dec_Scale.tab2 dec_Dec_Scale.bits2 (fun HT_ HW_ => ?_)
  generalize w12.drew = w13 at BK394 BK395 HB hHeld ⊢
  refine pu_ 0 7 (bm_ 11 1) HT_ ?_
  refine pu_ 2 9 (bm_ 11 5) HT_ ?_
  refine pu_ 4 11 (bm_ 11 21) HT_ ?_
  refine pu_ 6 13 (bm_ 11 85) HT_ ?_
  refine tk_ 1 8 (bm_ 11 87) HT_ HW_ hHeld rfl (by rintro w' ⟨s0, s1, s2⟩; go_simp; with_reducible rfl) ?_
  refine tk_ 3 10 (bm_ 11 95) HT_ HW_ hHeld rfl (by rintro w' ⟨s0, s1, s2⟩; go_simp; with_reducible rfl) ?_
  refine tk_ 5 12 (bm_ 11 127) HT_ HW_ hHeld rfl (by rintro w' ⟨s0, s1, s2⟩; go_simp; with_reducible rfl) ?_
  refine one_ (i := 7) (N := some 14) (bm_ 11 255) rfl rfl (one_of HT_.out (by kernel_rfl)) (by decide) (fun K hK => ?_)
  refine gs_ Tryz.func39 #[.int .i64 a1] ?_
  with_reducible refine (dec_held.calls a1 t399 _ A4.out).mono ?_
  rintro e w14 ⟨rfl, hb⟩
  refine ⟨_, rfl, ?_⟩
  replace BK394 := bb_ BK394 hb
  replace BK395 := bb_ BK395 hb
  replace HB := Aside0.mk (below_step (bl_ HB).out hb)
  (try clear hb)
  (try clear hb2)
  (try clear hk)
  (try clear hi)
  refine hK.out _ _ ⟨bc_ BK394 0, bc_ BK394 1, bc_ BK394 2⟩ (fun hHeld => ?_)
  clear hK K
  refine nm_ 14 ?_
  refine pu_ 8 15 (bm_ 11 511) HT_ ?_
  refine one_ (i := 9) (N := some 16) (bm_ 11 1023) rfl rfl (one_of HT_.out (by kernel_rfl)) (by decide) (fun K hK => ?_)
  refine gs_ Tryz.func16 #[.bool t396, .string t397, .int .i64 (wrap64 (t398 + t399))] ?_
  with_reducible refine (dec_Made.calls k t396 t397 (wrap64 (t398 + t399)) t400 t401 t402 _ A5.out).mono ?_
  rintro e w15 ⟨rfl, hb⟩
  refine ⟨_, rfl, ?_⟩
  replace BK394 := bb_ BK394 hb
  replace BK395 := bb_ BK395 hb
  replace HB := Aside0.mk (below_step (bl_ HB).out hb)
  (try clear hb)
  (try clear hb2)
  (try clear hk)
  (try clear hi)
  refine hK.out _ _ ⟨bc_ BK394 0, bc_ BK394 1, bc_ BK394 2⟩ (fun hHeld => ?_)
  clear hK K
  refine nm_ 16 ?_
  refine one_ (i := 10) (N := none) (bm_ 11 2047) rfl rfl (one_of HT_.out (by kernel_rfl)) (by decide) (fun K hK => ?_)
  have hs16 : w15.cell? ⟨gb395, 0, none⟩ = some (.bool false) := bc_ BK395 0
  have hfs16 := blk_frozen BK395.out 0
  have hns16_0 := NB394_395.out
  have hms16_0 := NB395_394.out
  have hs17 : w15.cell? ⟨gb395, 1, none⟩ = some (.string (⟨#[]⟩ : ByteArray)) := bc_ BK395 1
  have hfs17 := blk_frozen BK395.out 1
  have hns17_0 := NB394_395.out
  have hms17_0 := NB395_394.out
  have hs18 : w15.cell? ⟨gb395, 2, none⟩ = some (.int .i64 0) := bc_ BK395 2
  have hfs18 := blk_frozen BK395.out 2
  have hns18_0 := NB394_395.out
  have hms18_0 := NB395_394.out
  refine skip_ (w1 := ?_) (by rfl) rfl ?_ ?_
  rotate_left
  · go_simp
    rfl
  refine hK.out _ _ ⟨((cell_far (p := ⟨gb395, _, none⟩) NB394_395.out _).trans (((cell_far (p := ⟨gb395, _, none⟩) NB394_395.out _).trans (((cell_far (p := ⟨gb395, _, none⟩) NB394_395.out _).trans (hHeld.1)))))), ((cell_far (p := ⟨gb395, _, none⟩) NB394_395.out _).trans (((cell_far (p := ⟨gb395, _, none⟩) NB394_395.out _).trans (((cell_far (p := ⟨gb395, _, none⟩) NB394_395.out _).trans (hHeld.2.1)))))), ((cell_far (p := ⟨gb395, _, none⟩) NB394_395.out _).trans (((cell_far (p := ⟨gb395, _, none⟩) NB394_395.out _).trans (((cell_far (p := ⟨gb395, _, none⟩) NB394_395.out _).trans (hHeld.2.2))))))⟩ (fun hHeld => ?_)
  clear hK K
  refine done_ (done_of HT_.out (by kernel_rfl)) ?_
  try go_wp2
  refine bodyPost_ret (results_cell_row rfl _ _ gb395 31 #[.bool t400, .string t401, .int .i64 t402] (0, 0) _ rfl (by (with_reducible repeat (first | refine blk_drewN ?_ _ | refine blk_drew ?_ | refine blk_alloc ?_ _)); refine blk_put (cs := #[.bool t400, .string t401, .int .i64 0]) ?_ 2 _ rfl; (with_reducible repeat (first | refine blk_drewN ?_ _ | refine blk_drew ?_ | refine blk_alloc ?_ _)); refine blk_put (cs := #[.bool t400, .string (⟨#[]⟩ : ByteArray), .int .i64 0]) ?_ 1 _ rfl; (with_reducible repeat (first | refine blk_drewN ?_ _ | refine blk_drew ?_ | refine blk_alloc ?_ _)); refine blk_put (cs := #[.bool false, .string (⟨#[]⟩ : ByteArray), .int .i64 0]) ?_ 0 _ rfl; (with_reducible repeat (first | refine blk_drewN ?_ _ | refine blk_drew ?_ | refine blk_alloc ?_ _)); exact BK395.out) Tryz.underlying31 rfl (by kernel_rfl)) rfl ?_
  exact ⟨ew_, (bl_ HB).out⟩

end Go.Proofs.YthkpmiajcmihjaaGreatDoor.P
