-- written by a program of this session (wip/p2)
import Derived.Test.YtoegmienlhgjnaaDoorPx0
import Derived.Test.YtoegmienlhgjnaaDoorPx2
import Derived.Test.YtoegmienlhgjnaaDoorPx3
import Derived.Test.YtoegmienlhgjnaaDoorPx4
import Derived.Test.YtoegmienlhgjnaaDoorPx10
namespace Go.Proofs.YtoegmienlhgjnaaDoor.P
open Go.RowKit Go.Proofs.YtoegmienlhgjnaaDoorW.PrintWords Go.Proofs.YtoegmienlhgjnaaDoorW.PrintLast Go.Proofs.YtoegmienlhgjnaaDoorW.PrintMore
attribute [local go_sem] max2_int min2_int max_two min_two max_three min_three max_four min_four   -- for this text's walks alone
set_option linter.unusedVariables false
set_option linter.unusedSimpArgs false

/-! ### dec_Add: function 37 -/
def dec_Add.f (k : Nat) (a0_0 : Bool) (a0_1 : ByteArray) (a0_2 : Int) (a1_0 : Bool) (a1_1 : ByteArray) (a1_2 : Int) : Option (Bool × ByteArray × Int) := (dec_Dec_Norm.f k a0_0 a0_1 a0_2).bind fun bt249 => ((dec_Dec_Norm.f k a1_0 a1_1 a1_2).bind fun bt252 => ((dec_both.f bt249.1 bt249.2.1 bt249.2.2 bt252.1 bt252.2.1 bt252.2.2).bind fun bt255 => (if (bt249.1 == bt252.1) = true then ((num_Add.f k bt255.1 bt255.2.1).bind fun t258 => ((dec_Made.f k bt249.1 t258 bt255.2.2).bind fun bt259 => (some (bt259.1, bt259.2.1, bt259.2.2)))) else ((num_Sub.f k bt255.1 bt255.2.1).bind fun bt262 => (if bt262.2 = true then ((dec_Made.f k bt249.1 bt262.1 bt255.2.2).bind fun bt264 => (some (bt264.1, bt264.2.1, bt264.2.2))) else ((num_Sub.f k bt255.2.1 bt255.1).bind fun bt267 => ((dec_Made.f k bt252.1 bt267.1 bt255.2.2).bind fun bt269 => (some (bt269.1, bt269.2.1, bt269.2.2)))))))))
theorem dec_Add.mono : ∀ a0 a1 a2 a3 a4 a5 k, LeO (dec_Add.f k a0 a1 a2 a3 a4 a5) (dec_Add.f (k + 1) a0 a1 a2 a3 a4 a5) := by
  intro a0 a1 a2 a3 a4 a5 k
  unfold dec_Add.f
  repeat' first
      | (with_reducible exact dec_Dec_Norm.mono _ _ _ _)
      | (with_reducible exact dec_Made.mono _ _ _ _)
      | (with_reducible exact num_Add.mono _ _ _)
      | (with_reducible exact num_Sub.mono _ _ _)
      | (with_reducible exact LeO.refl _)
      | (with_reducible exact LeO.none _)
      | (with_reducible refine LeO.ite ?_ ?_)
      | (with_reducible refine LeO.bind ?_ (fun _ => ?_))
      | exact dec_Dec_Norm.mono _ _ _ _
      | exact dec_Made.mono _ _ _ _
      | exact num_Add.mono _ _ _
      | exact num_Sub.mono _ _ _
      | exact LeO.none _
      | refine LeO.ite ?_ ?_
      | refine LeO.bind ?_ (fun _ => ?_)
def dec_Add.T4 : Bool × List (List Nat × List Nat) := (true, [([], []), ([0], [0]), ([], []), ([], []), ([2, 3], [2, 3]), ([], []), ([1, 4, 5, 4], [1, 4, 5]), ([6, 6, 0, 1, 2, 3, 4, 5, 6], [6])])
def dec_Add.B4 : List Nat := [0, 1, 0, 0, 12, 0, 63, 127]
theorem dec_Add.tab4 : rtab .any (opsOf Tryd.f37 4) = dec_Add.T4 := by kernel_rfl
theorem dec_Add.bits4 : waitsOk dec_Add.T4.2 dec_Add.B4 = true := by kernel_rfl
set_option maxHeartbeats 8000000 in
set_option maxRecDepth 100000 in
theorem dec_Add.calls (k : Nat) (a0_0 : Bool) (a0_1 : ByteArray) (a0_2 : Int) (a1_0 : Bool) (a1_1 : ByteArray) (a1_2 : Int) (r1 : Bool) (r2 : ByteArray) (r3 : Int) (w : World) (h : dec_Add.f k a0_0 a0_1 a0_2 a1_0 a1_1 a1_2 = some (r1, r2, r3)) :
    Calls Tryd.prog 37 #[.agg #[.bool a0_0, .string a0_1, .int .i64 a0_2], .agg #[.bool a1_0, .string a1_1, .int .i64 a1_2]] w fun e w' => e = .returned (.agg #[.bool r1, .string r2, .int .i64 r3]) ∧ Below w.heap.size w w' := by
  have hu30 := Tryd.underlying30
  have HB := Aside0.mk (Below.refl w.heap.size w)
  have H : ((dec_Dec_Norm.f k a0_0 a0_1 a0_2).bind fun bt249 => ((dec_Dec_Norm.f k a1_0 a1_1 a1_2).bind fun bt252 => ((dec_both.f bt249.1 bt249.2.1 bt249.2.2 bt252.1 bt252.2.1 bt252.2.2).bind fun bt255 => (if (bt249.1 == bt252.1) = true then ((num_Add.f k bt255.1 bt255.2.1).bind fun t258 => ((dec_Made.f k bt249.1 t258 bt255.2.2).bind fun bt259 => (some (bt259.1, bt259.2.1, bt259.2.2)))) else ((num_Sub.f k bt255.1 bt255.2.1).bind fun bt262 => (if bt262.2 = true then ((dec_Made.f k bt249.1 bt262.1 bt255.2.2).bind fun bt264 => (some (bt264.1, bt264.2.1, bt264.2.2))) else ((num_Sub.f k bt255.2.1 bt255.1).bind fun bt267 => ((dec_Made.f k bt252.1 bt267.1 bt255.2.2).bind fun bt269 => (some (bt269.1, bt269.2.1, bt269.2.2)))))))))) = some (r1, r2, r3) := h
  clear h
  replace H := Option.bind_eq_some_iff.mp H
  obtain ⟨⟨t249, t250, t251⟩, A30, H⟩ := H
  replace H : ((dec_Dec_Norm.f k a1_0 a1_1 a1_2).bind fun bt252 => ((dec_both.f t249 t250 t251 bt252.1 bt252.2.1 bt252.2.2).bind fun bt255 => (if (t249 == bt252.1) = true then ((num_Add.f k bt255.1 bt255.2.1).bind fun t258 => ((dec_Made.f k t249 t258 bt255.2.2).bind fun bt259 => (some (bt259.1, bt259.2.1, bt259.2.2)))) else ((num_Sub.f k bt255.1 bt255.2.1).bind fun bt262 => (if bt262.2 = true then ((dec_Made.f k t249 bt262.1 bt255.2.2).bind fun bt264 => (some (bt264.1, bt264.2.1, bt264.2.2))) else ((num_Sub.f k bt255.2.1 bt255.1).bind fun bt267 => ((dec_Made.f k bt252.1 bt267.1 bt255.2.2).bind fun bt269 => (some (bt269.1, bt269.2.1, bt269.2.2))))))))) = some (r1, r2, r3) := H
  have A3 := Aside0.mk A30
  clear A30
  replace H := Option.bind_eq_some_iff.mp H
  obtain ⟨⟨t252, t253, t254⟩, A40, H⟩ := H
  replace H : ((dec_both.f t249 t250 t251 t252 t253 t254).bind fun bt255 => (if (t249 == t252) = true then ((num_Add.f k bt255.1 bt255.2.1).bind fun t258 => ((dec_Made.f k t249 t258 bt255.2.2).bind fun bt259 => (some (bt259.1, bt259.2.1, bt259.2.2)))) else ((num_Sub.f k bt255.1 bt255.2.1).bind fun bt262 => (if bt262.2 = true then ((dec_Made.f k t249 bt262.1 bt255.2.2).bind fun bt264 => (some (bt264.1, bt264.2.1, bt264.2.2))) else ((num_Sub.f k bt255.2.1 bt255.1).bind fun bt267 => ((dec_Made.f k t252 bt267.1 bt255.2.2).bind fun bt269 => (some (bt269.1, bt269.2.1, bt269.2.2)))))))) = some (r1, r2, r3) := H
  have A4 := Aside0.mk A40
  clear A40
  replace H := Option.bind_eq_some_iff.mp H
  obtain ⟨⟨t255, t256, t257⟩, A50, H⟩ := H
  replace H : (if (t249 == t252) = true then ((num_Add.f k t255 t256).bind fun t258 => ((dec_Made.f k t249 t258 t257).bind fun bt259 => (some (bt259.1, bt259.2.1, bt259.2.2)))) else ((num_Sub.f k t255 t256).bind fun bt262 => (if bt262.2 = true then ((dec_Made.f k t249 bt262.1 t257).bind fun bt264 => (some (bt264.1, bt264.2.1, bt264.2.2))) else ((num_Sub.f k t256 t255).bind fun bt267 => ((dec_Made.f k t252 bt267.1 t257).bind fun bt269 => (some (bt269.1, bt269.2.1, bt269.2.2))))))) = some (r1, r2, r3) := H
  have A5 := Aside0.mk A50
  clear A50
  by_cases c6 : (t249 == t252) = true
  · rw [if_pos c6] at H
    have c6b0 : (t249 == t252) = true := c6
    (try (have c6b1 : decide (t249 = t252) = true := by simpa using c6))
    (try (have c6b2 : (t249 == t252) = true := by simpa using c6))
    clear c6
    replace H := Option.bind_eq_some_iff.mp H
    obtain ⟨t258, A70, H⟩ := H
    replace H : ((dec_Made.f k t249 t258 t257).bind fun bt259 => (some (bt259.1, bt259.2.1, bt259.2.2))) = some (r1, r2, r3) := H
    have A7 := Aside0.mk A70
    clear A70
    replace H := Option.bind_eq_some_iff.mp H
    obtain ⟨⟨t259, t260, t261⟩, A80, H⟩ := H
    replace H : (some (t259, t260, t261)) = some (r1, r2, r3) := H
    have A8 := Aside0.mk A80
    clear A80
    simp only [Option.some.injEq, Prod.mk.injEq] at H
    obtain ⟨rfl, rfl, rfl⟩ := H
    go_enter Tryd.func37, Tryd.ntmps37
    try go_wp2_with (first | ((with_reducible refine gate_dst (N := 2) rfl ?_); refine box_event ?hg (N := 2) ?hd (cs := #[.bool a0_0, .string a0_1, .int .i64 a0_2]) (t := 30) ?hr ?_; (case hd => rfl); (case hg => rfl); (case hr => first | (go_simp; done) | (go_simp; rfl)); intro gb246 hg w9 hbox hb; have n0_ := Aside0.mk (below_step (bl_ HB).out hb); have n1_ := Aside0.mk (hbox); have n2_ := Aside0.mk ((by rw [hg]; exact (below_size (bl_ HB).out) : w.heap.size ≤ gb246)); have n3_ := Aside0.mk ((by rw [hg]; exact (below_size (bl_ HB).out) : w.heap.size ≤ gb246)); clear HB; have HB := n0_; have BK246 := n1_; have GW246 := n2_; have GE246 := n3_; clear n0_ n1_ n2_ n3_; clear hb hbox hg) | ((with_reducible refine gate_dst (N := 3) rfl ?_); refine box_event ?hg (N := 3) ?hd (cs := #[.bool a1_0, .string a1_1, .int .i64 a1_2]) (t := 30) ?hr ?_; (case hd => rfl); (case hg => rfl); (case hr => first | (go_simp; done) | (go_simp; rfl)); intro gb247 hg w10 hbox hb; have n0_ := bb_ BK246 hb; have n1_ := Aside0.mk (below_step (bl_ HB).out hb); have n2_ := Aside0.mk (hbox); have n3_ := Aside0.mk ((by rw [hg]; exact (below_size (bl_ HB).out) : w.heap.size ≤ gb247)); have n4_ := Aside0.mk ((by rw [hg]; exact (below_size (bl_ HB).out) : w.heap.size ≤ gb247)); have n5_ := Aside0.mk ((by rw [hg]; exact Nat.ne_of_lt (blk_lt (g := gb246) (o := .cells #[.bool a0_0, .string a0_1, .int .i64 a0_2] 30 (0, 0)) (by (with_reducible repeat (first | refine blk_drewN ?_ _ | refine blk_drew ?_ | refine blk_alloc ?_ _)); exact BK246.out)) : gb246 ≠ gb247)); have n6_ := Aside0.mk ((by rw [hg]; exact Nat.ne_of_gt (blk_lt (g := gb246) (o := .cells #[.bool a0_0, .string a0_1, .int .i64 a0_2] 30 (0, 0)) (by (with_reducible repeat (first | refine blk_drewN ?_ _ | refine blk_drew ?_ | refine blk_alloc ?_ _)); exact BK246.out)) : gb247 ≠ gb246)); clear BK246; clear HB; have BK246 := n0_; have HB := n1_; have BK247 := n2_; have GW247 := n3_; have GE247 := n4_; have NB246_247 := n5_; have NB247_246 := n6_; clear n0_ n1_ n2_ n3_ n4_ n5_ n6_; clear hb hbox hg) | ((with_reducible refine gate_dst (N := 4) rfl ?_); refine box_event ?hg (N := 4) ?hd (cs := #[.bool false, .string (⟨#[]⟩ : ByteArray), .int .i64 0]) (t := 30) ?hr ?_; (case hd => rfl); (case hg => rfl); (case hr => first | (go_simp; done) | (go_simp; rfl)); intro gb248 hg w11 hbox hb; have n0_ := bb_ BK246 hb; have n1_ := bb_ BK247 hb; have n2_ := Aside0.mk (below_step (bl_ HB).out hb); have n3_ := Aside0.mk (hbox); have n4_ := Aside0.mk ((by rw [hg]; exact (below_size (bl_ HB).out) : w.heap.size ≤ gb248)); have n5_ := Aside0.mk ((by rw [hg]; exact (below_size (bl_ HB).out) : w.heap.size ≤ gb248)); have n6_ := Aside0.mk ((by rw [hg]; exact Nat.ne_of_lt (blk_lt (g := gb246) (o := .cells #[.bool a0_0, .string a0_1, .int .i64 a0_2] 30 (0, 0)) (by (with_reducible repeat (first | refine blk_drewN ?_ _ | refine blk_drew ?_ | refine blk_alloc ?_ _)); exact BK246.out)) : gb246 ≠ gb248)); have n7_ := Aside0.mk ((by rw [hg]; exact Nat.ne_of_gt (blk_lt (g := gb246) (o := .cells #[.bool a0_0, .string a0_1, .int .i64 a0_2] 30 (0, 0)) (by (with_reducible repeat (first | refine blk_drewN ?_ _ | refine blk_drew ?_ | refine blk_alloc ?_ _)); exact BK246.out)) : gb248 ≠ gb246)); have n8_ := Aside0.mk ((by rw [hg]; exact Nat.ne_of_lt (blk_lt (g := gb247) (o := .cells #[.bool a1_0, .string a1_1, .int .i64 a1_2] 30 (0, 0)) (by (with_reducible repeat (first | refine blk_drewN ?_ _ | refine blk_drew ?_ | refine blk_alloc ?_ _)); exact BK247.out)) : gb247 ≠ gb248)); have n9_ := Aside0.mk ((by rw [hg]; exact Nat.ne_of_gt (blk_lt (g := gb247) (o := .cells #[.bool a1_0, .string a1_1, .int .i64 a1_2] 30 (0, 0)) (by (with_reducible repeat (first | refine blk_drewN ?_ _ | refine blk_drew ?_ | refine blk_alloc ?_ _)); exact BK247.out)) : gb248 ≠ gb247)); clear BK246; clear BK247; clear HB; have BK246 := n0_; have BK247 := n1_; have HB := n2_; have BK248 := n3_; have GW248 := n4_; have GE248 := n5_; have NB246_248 := n6_; have NB248_246 := n7_; have NB247_248 := n8_; have NB248_247 := n9_; clear n0_ n1_ n2_ n3_ n4_ n5_ n6_ n7_ n8_ n9_; clear hb hbox hg))
    replace BK246 := Aside0.mk (blk_drew BK246.out)
    replace BK247 := Aside0.mk (blk_drew BK247.out)
    replace BK248 := Aside0.mk (blk_drew BK248.out)
    replace HB := Aside0.mk (below_drew1 HB.out)
    refine start_ (n := 6) (S := fun w' => w'.cell? ⟨gb246, 0, none⟩ = some (.bool a0_0) ∧ w'.cell? ⟨gb246, 1, none⟩ = some (.string a0_1) ∧ w'.cell? ⟨gb246, 2, none⟩ = some (.int .i64 a0_2) ∧ w'.cell? ⟨gb247, 0, none⟩ = some (.bool a1_0) ∧ w'.cell? ⟨gb247, 1, none⟩ = some (.string a1_1) ∧ w'.cell? ⟨gb247, 2, none⟩ = some (.int .i64 a1_2)) (ds := [4, 5]) #[false, false, false, false, false, false] (by kernel_rfl) rfl rfl ⟨bc_ BK246 0, bc_ BK246 1, bc_ BK246 2, bc_ BK247 0, bc_ BK247 1, bc_ BK247 2⟩ (fun hHeld => ?_)
    generalize w11.drew = w12 at BK246 BK247 BK248 HB hHeld ⊢
    refine tk0_ 0 12 #[true, false, false, false, false, false] hHeld rfl (by rintro w' ⟨s0, s1, s2, s3, s4, s5⟩; go_simp; with_reducible rfl) ?_
    refine tk0_ 2 14 #[true, false, true, false, false, false] hHeld rfl (by rintro w' ⟨s0, s1, s2, s3, s4, s5⟩; go_simp; with_reducible rfl) ?_
    refine one_ (i := 1) (N := some 13) #[true, true, true, false, false, false] rfl rfl (by kernel_rfl) (by decide) (fun K hK => ?_)
    refine gs_ Tryd.func22 #[.agg #[.bool a0_0, .string a0_1, .int .i64 a0_2]] ?_
    with_reducible refine (dec_Dec_Norm.calls k a0_0 a0_1 a0_2 t249 t250 t251 _ A3.out).mono ?_
    rintro e w13 ⟨rfl, hb⟩
    refine ⟨_, rfl, ?_⟩
    replace BK246 := bb_ BK246 hb
    replace BK247 := bb_ BK247 hb
    replace BK248 := bb_ BK248 hb
    replace HB := Aside0.mk (below_step (bl_ HB).out hb)
    (try clear hb)
    (try clear hb2)
    (try clear hk)
    (try clear hi)
    refine hK.out _ _ ⟨bc_ BK246 0, bc_ BK246 1, bc_ BK246 2, bc_ BK247 0, bc_ BK247 1, bc_ BK247 2⟩ (fun hHeld => ?_)
    clear hK K
    refine nm_ 13 ?_
    refine one_ (i := 3) (N := some 15) #[true, true, true, true, false, false] rfl rfl (by kernel_rfl) (by decide) (fun K hK => ?_)
    refine gs_ Tryd.func22 #[.agg #[.bool a1_0, .string a1_1, .int .i64 a1_2]] ?_
    with_reducible refine (dec_Dec_Norm.calls k a1_0 a1_1 a1_2 t252 t253 t254 _ A4.out).mono ?_
    rintro e w14 ⟨rfl, hb⟩
    refine ⟨_, rfl, ?_⟩
    replace BK246 := bb_ BK246 hb
    replace BK247 := bb_ BK247 hb
    replace BK248 := bb_ BK248 hb
    replace HB := Aside0.mk (below_step (bl_ HB).out hb)
    (try clear hb)
    (try clear hb2)
    (try clear hk)
    (try clear hi)
    refine hK.out _ _ ⟨bc_ BK246 0, bc_ BK246 1, bc_ BK246 2, bc_ BK247 0, bc_ BK247 1, bc_ BK247 2⟩ (fun hHeld => ?_)
    clear hK K
    refine nm_ 15 ?_
    refine last_ (i := 4) (N := none) #[true, true, true, true, true, false] rfl rfl (by kernel_rfl) (by decide) (fun K hK => ?_)
    have hs15 : w14.cell? ⟨gb246, 0, none⟩ = some (.bool a0_0) := bc_ BK246 0
    have hfs15 := blk_frozen BK246.out 0
    have hns15_1 := NB247_246.out
    have hns15_2 := NB248_246.out
    have hms15_1 := NB246_247.out
    have hms15_2 := NB246_248.out
    have hs16 : w14.cell? ⟨gb246, 1, none⟩ = some (.string a0_1) := bc_ BK246 1
    have hfs16 := blk_frozen BK246.out 1
    have hns16_1 := NB247_246.out
    have hns16_2 := NB248_246.out
    have hms16_1 := NB246_247.out
    have hms16_2 := NB246_248.out
    have hs17 : w14.cell? ⟨gb246, 2, none⟩ = some (.int .i64 a0_2) := bc_ BK246 2
    have hfs17 := blk_frozen BK246.out 2
    have hns17_1 := NB247_246.out
    have hns17_2 := NB248_246.out
    have hms17_1 := NB246_247.out
    have hms17_2 := NB246_248.out
    refine skip_ (w1 := ?_) (by rfl) rfl ?_ ?_
    rotate_left
    · go_simp
      rfl
    refine hK.out _ _ ?_
    clear hK K
    refine last_ (i := 5) (N := none) #[true, true, true, true, true, true] rfl rfl (by kernel_rfl) (by decide) (fun K hK => ?_)
    have hs18 : w14.cell? ⟨gb247, 0, none⟩ = some (.bool a1_0) := bc_ BK247 0
    have hfs18 := blk_frozen BK247.out 0
    have hns18_0 := NB246_247.out
    have hns18_2 := NB248_247.out
    have hms18_0 := NB247_246.out
    have hms18_2 := NB247_248.out
    have hs19 : w14.cell? ⟨gb247, 1, none⟩ = some (.string a1_1) := bc_ BK247 1
    have hfs19 := blk_frozen BK247.out 1
    have hns19_0 := NB246_247.out
    have hns19_2 := NB248_247.out
    have hms19_0 := NB247_246.out
    have hms19_2 := NB247_248.out
    have hs20 : w14.cell? ⟨gb247, 2, none⟩ = some (.int .i64 a1_2) := bc_ BK247 2
    have hfs20 := blk_frozen BK247.out 2
    have hns20_0 := NB246_247.out
    have hns20_2 := NB248_247.out
    have hms20_0 := NB247_246.out
    have hms20_2 := NB247_248.out
    refine skip_ (w1 := ?_) (by rfl) rfl ?_ ?_
    rotate_left
    · go_simp
      rfl
    refine hK.out _ _ ?_
    clear hK K
    refine done_ (by kernel_rfl) ?_
    have hnb21 := NB246_247.out
    have hnc21 := NB247_246.out
    have hnb22 := NB246_248.out
    have hnc22 := NB248_246.out
    have hcz23_0 : w14.cell? ⟨gb246, 0, none⟩ = some (.bool a0_0) := bc_ BK246 0
    have hcz23_1 : w14.cell? ⟨gb246, 1, none⟩ = some (.string a0_1) := bc_ BK246 1
    have hcz23_2 : w14.cell? ⟨gb246, 2, none⟩ = some (.int .i64 a0_2) := bc_ BK246 2
    have hfz23_0 := blk_frozen BK246.out 0
    have hfz23_1 := blk_frozen BK246.out 1
    have hfz23_2 := blk_frozen BK246.out 2
    have hnb24 := NB247_248.out
    have hnc24 := NB248_247.out
    have hcz25_0 : w14.cell? ⟨gb247, 0, none⟩ = some (.bool a1_0) := bc_ BK247 0
    have hcz25_1 : w14.cell? ⟨gb247, 1, none⟩ = some (.string a1_1) := bc_ BK247 1
    have hcz25_2 : w14.cell? ⟨gb247, 2, none⟩ = some (.int .i64 a1_2) := bc_ BK247 2
    have hfz25_0 := blk_frozen BK247.out 0
    have hfz25_1 := blk_frozen BK247.out 1
    have hfz25_2 := blk_frozen BK247.out 2
    try go_wp2_with (first | ((with_reducible refine gate_callee (f := 53) rfl ?_); refine goesL_ (some 19) rfl rfl Tryd.func53 (by kernel_rfl) rfl #[.agg #[.bool t249, .string t250, .int .i64 t251], .agg #[.bool t252, .string t253, .int .i64 t254]] rfl (by (try simp only [List.map_toArray, List.map_cons, List.map_nil]); first | done | rfl | (simp only [List.length_drop, List.length_take]; rfl) | (have z_ : ∀ s_ : ByteArray, s_.size ≤ 9223372036854775807 → -(s_.size : Int) = wrap64 (-(s_.size : Int)) := (fun s_ h_ => by unfold wrap64; omega); rw [← z_ _ (by omega)]; rfl) | (simp only [ByteArray.size_append]; rfl)) ?_; (with_reducible refine (dec_both.calls t249 t250 t251 t252 t253 t254 t255 t256 t257 _ A5.out).mono ?_); rintro e w26 ⟨rfl, hb⟩; refine ⟨_, rfl, ?_⟩; have n0_ := Aside0.mk (blk_below (g := gb246) (o := .cells #[.bool t249, .string t250, .int .i64 t251] 30 (0, 0)) (by (with_reducible repeat (first | refine blk_drewN ?_ _ | refine blk_drew ?_ | refine blk_alloc ?_ _)); refine blk_far ?_ NB246_247.out _; (with_reducible repeat (first | refine blk_drewN ?_ _ | refine blk_drew ?_ | refine blk_alloc ?_ _)); refine blk_far ?_ NB246_247.out _; (with_reducible repeat (first | refine blk_drewN ?_ _ | refine blk_drew ?_ | refine blk_alloc ?_ _)); refine blk_far ?_ NB246_247.out _; (with_reducible repeat (first | refine blk_drewN ?_ _ | refine blk_drew ?_ | refine blk_alloc ?_ _)); refine blk_put (cs := #[.bool t249, .string t250, .int .i64 a0_2]) ?_ 2 _ rfl; (with_reducible repeat (first | refine blk_drewN ?_ _ | refine blk_drew ?_ | refine blk_alloc ?_ _)); refine blk_put (cs := #[.bool t249, .string a0_1, .int .i64 a0_2]) ?_ 1 _ rfl; (with_reducible repeat (first | refine blk_drewN ?_ _ | refine blk_drew ?_ | refine blk_alloc ?_ _)); refine blk_put (cs := #[.bool a0_0, .string a0_1, .int .i64 a0_2]) ?_ 0 _ rfl; (with_reducible repeat (first | refine blk_drewN ?_ _ | refine blk_drew ?_ | refine blk_alloc ?_ _)); exact BK246.out) hb); have n1_ := Aside0.mk (blk_below (g := gb247) (o := .cells #[.bool t252, .string t253, .int .i64 t254] 30 (0, 0)) (by (with_reducible repeat (first | refine blk_drewN ?_ _ | refine blk_drew ?_ | refine blk_alloc ?_ _)); refine blk_put (cs := #[.bool t252, .string t253, .int .i64 a1_2]) ?_ 2 _ rfl; (with_reducible repeat (first | refine blk_drewN ?_ _ | refine blk_drew ?_ | refine blk_alloc ?_ _)); refine blk_put (cs := #[.bool t252, .string a1_1, .int .i64 a1_2]) ?_ 1 _ rfl; (with_reducible repeat (first | refine blk_drewN ?_ _ | refine blk_drew ?_ | refine blk_alloc ?_ _)); refine blk_put (cs := #[.bool a1_0, .string a1_1, .int .i64 a1_2]) ?_ 0 _ rfl; (with_reducible repeat (first | refine blk_drewN ?_ _ | refine blk_drew ?_ | refine blk_alloc ?_ _)); refine blk_far ?_ NB247_246.out _; (with_reducible repeat (first | refine blk_drewN ?_ _ | refine blk_drew ?_ | refine blk_alloc ?_ _)); refine blk_far ?_ NB247_246.out _; (with_reducible repeat (first | refine blk_drewN ?_ _ | refine blk_drew ?_ | refine blk_alloc ?_ _)); refine blk_far ?_ NB247_246.out _; (with_reducible repeat (first | refine blk_drewN ?_ _ | refine blk_drew ?_ | refine blk_alloc ?_ _)); exact BK247.out) hb); have n2_ := Aside0.mk (blk_below (g := gb248) (o := .cells #[.bool false, .string (⟨#[]⟩ : ByteArray), .int .i64 0] 30 (0, 0)) (by (with_reducible repeat (first | refine blk_drewN ?_ _ | refine blk_drew ?_ | refine blk_alloc ?_ _)); refine blk_far ?_ NB248_247.out _; (with_reducible repeat (first | refine blk_drewN ?_ _ | refine blk_drew ?_ | refine blk_alloc ?_ _)); refine blk_far ?_ NB248_247.out _; (with_reducible repeat (first | refine blk_drewN ?_ _ | refine blk_drew ?_ | refine blk_alloc ?_ _)); refine blk_far ?_ NB248_247.out _; (with_reducible repeat (first | refine blk_drewN ?_ _ | refine blk_drew ?_ | refine blk_alloc ?_ _)); refine blk_far ?_ NB248_246.out _; (with_reducible repeat (first | refine blk_drewN ?_ _ | refine blk_drew ?_ | refine blk_alloc ?_ _)); refine blk_far ?_ NB248_246.out _; (with_reducible repeat (first | refine blk_drewN ?_ _ | refine blk_drew ?_ | refine blk_alloc ?_ _)); refine blk_far ?_ NB248_246.out _; (with_reducible repeat (first | refine blk_drewN ?_ _ | refine blk_drew ?_ | refine blk_alloc ?_ _)); exact BK248.out) hb); have n3_ := Aside0.mk (below_step (bl_ HB).out hb); clear BK246; clear BK247; clear BK248; clear HB; have BK246 := n0_; have BK247 := n1_; have BK248 := n2_; have HB := n3_; clear n0_ n1_ n2_ n3_; (try clear hb); (try clear hb2); (try clear hk); (try clear hi); have hcz27_0 : w26.cell? ⟨gb246, 0, none⟩ = some (.bool t249) := bc_ BK246 0; have hcz27_1 : w26.cell? ⟨gb246, 1, none⟩ = some (.string t250) := bc_ BK246 1; have hcz27_2 : w26.cell? ⟨gb246, 2, none⟩ = some (.int .i64 t251) := bc_ BK246 2; have hfz27_0 := blk_frozen BK246.out 0; have hfz27_1 := blk_frozen BK246.out 1; have hfz27_2 := blk_frozen BK246.out 2; have hcz28_0 : w26.cell? ⟨gb247, 0, none⟩ = some (.bool t252) := bc_ BK247 0; have hcz28_1 : w26.cell? ⟨gb247, 1, none⟩ = some (.string t253) := bc_ BK247 1; have hcz28_2 : w26.cell? ⟨gb247, 2, none⟩ = some (.int .i64 t254) := bc_ BK247 2; have hfz28_0 := blk_frozen BK247.out 0; have hfz28_1 := blk_frozen BK247.out 1; have hfz28_2 := blk_frozen BK247.out 2))
    replace BK246 := Aside0.mk (blk_drew BK246.out)
    replace BK247 := Aside0.mk (blk_drew BK247.out)
    replace BK248 := Aside0.mk (blk_drew BK248.out)
    replace HB := Aside0.mk (below_drew1 HB.out)
    refine start_ (n := 8) (S := fun w' => w'.cell? ⟨gb246, 0, none⟩ = some (.bool t249) ∧ w'.cell? ⟨gb246, 1, none⟩ = some (.string t250) ∧ w'.cell? ⟨gb246, 2, none⟩ = some (.int .i64 t251)) (ds := []) #[false, false, false, false, false, false, false, false] (by kernel_rfl) rfl rfl ⟨bc_ BK246 0, bc_ BK246 1, bc_ BK246 2⟩ (fun hHeld => ?_); refine with_tabW dec_Add.tab4 dec_Add.bits4 (fun HT_ HW_ => ?_)
    generalize w26.drew = w29 at BK246 BK247 BK248 HB hHeld ⊢
    refine pu_ 0 28 #[true, false, false, false, false, false, false, false] HT_ ?_
    refine pu_ 2 30 #[true, false, true, false, false, false, false, false] HT_ ?_
    refine pu_ 3 31 #[true, false, true, true, false, false, false, false] HT_ ?_
    refine pu_ 5 33 #[true, false, true, true, false, true, false, false] HT_ ?_
    refine tk_ 1 29 #[true, true, true, true, false, true, false, false] HT_ HW_ hHeld rfl (by rintro w' ⟨s0, s1, s2⟩; go_simp; with_reducible rfl) ?_
    refine one_ (i := 4) (N := some 32) #[true, true, true, true, true, true, false, false] rfl rfl (one_of HT_.out (by kernel_rfl)) (by decide) (fun K hK => ?_)
    refine gs_ Tryd.func52 #[.string t255, .string t256] ?_
    with_reducible refine (num_Add.calls k t255 t256 t258 _ A7.out).mono ?_
    rintro e w30 ⟨rfl, hb⟩
    refine ⟨_, rfl, ?_⟩
    replace BK246 := bb_ BK246 hb
    replace BK247 := bb_ BK247 hb
    replace BK248 := bb_ BK248 hb
    replace HB := Aside0.mk (below_step (bl_ HB).out hb)
    (try clear hb)
    (try clear hb2)
    (try clear hk)
    (try clear hi)
    refine hK.out _ _ ⟨bc_ BK246 0, bc_ BK246 1, bc_ BK246 2⟩ (fun hHeld => ?_)
    clear hK K
    refine nm_ 32 ?_
    refine one_ (i := 6) (N := some 34) #[true, true, true, true, true, true, true, false] rfl rfl (one_of HT_.out (by kernel_rfl)) (by decide) (fun K hK => ?_)
    refine gs_ Tryd.func23 #[.bool t249, .string t258, .int .i64 t257] ?_
    with_reducible refine (dec_Made.calls k t249 t258 t257 t259 t260 t261 _ A8.out).mono ?_
    rintro e w31 ⟨rfl, hb⟩
    refine ⟨_, rfl, ?_⟩
    replace BK246 := bb_ BK246 hb
    replace BK247 := bb_ BK247 hb
    replace BK248 := bb_ BK248 hb
    replace HB := Aside0.mk (below_step (bl_ HB).out hb)
    (try clear hb)
    (try clear hb2)
    (try clear hk)
    (try clear hi)
    refine hK.out _ _ ⟨bc_ BK246 0, bc_ BK246 1, bc_ BK246 2⟩ (fun hHeld => ?_)
    clear hK K
    refine nm_ 34 ?_
    refine one_ (i := 7) (N := none) #[true, true, true, true, true, true, true, true] rfl rfl (one_of HT_.out (by kernel_rfl)) (by decide) (fun K hK => ?_)
    have hs32 : w31.cell? ⟨gb248, 0, none⟩ = some (.bool false) := bc_ BK248 0
    have hfs32 := blk_frozen BK248.out 0
    have hns32_0 := NB246_248.out
    have hns32_1 := NB247_248.out
    have hms32_0 := NB248_246.out
    have hms32_1 := NB248_247.out
    have hs33 : w31.cell? ⟨gb248, 1, none⟩ = some (.string (⟨#[]⟩ : ByteArray)) := bc_ BK248 1
    have hfs33 := blk_frozen BK248.out 1
    have hns33_0 := NB246_248.out
    have hns33_1 := NB247_248.out
    have hms33_0 := NB248_246.out
    have hms33_1 := NB248_247.out
    have hs34 : w31.cell? ⟨gb248, 2, none⟩ = some (.int .i64 0) := bc_ BK248 2
    have hfs34 := blk_frozen BK248.out 2
    have hns34_0 := NB246_248.out
    have hns34_1 := NB247_248.out
    have hms34_0 := NB248_246.out
    have hms34_1 := NB248_247.out
    refine skip_ (w1 := ?_) (by rfl) rfl ?_ ?_
    rotate_left
    · go_simp
      rfl
    refine hK.out _ _ ⟨((cell_far (p := ⟨gb248, _, none⟩) NB246_248.out _).trans (((cell_far (p := ⟨gb248, _, none⟩) NB246_248.out _).trans (((cell_far (p := ⟨gb248, _, none⟩) NB246_248.out _).trans (hHeld.1)))))), ((cell_far (p := ⟨gb248, _, none⟩) NB246_248.out _).trans (((cell_far (p := ⟨gb248, _, none⟩) NB246_248.out _).trans (((cell_far (p := ⟨gb248, _, none⟩) NB246_248.out _).trans (hHeld.2.1)))))), ((cell_far (p := ⟨gb248, _, none⟩) NB246_248.out _).trans (((cell_far (p := ⟨gb248, _, none⟩) NB246_248.out _).trans (((cell_far (p := ⟨gb248, _, none⟩) NB246_248.out _).trans (hHeld.2.2))))))⟩ (fun hHeld => ?_)
    clear hK K
    refine done_ (done_of HT_.out (by kernel_rfl)) ?_
    try go_wp2
    refine bodyPost_ret (results_cell_row rfl _ _ gb248 30 #[.bool t259, .string t260, .int .i64 t261] (0, 0) _ rfl (by (with_reducible repeat (first | refine blk_drewN ?_ _ | refine blk_drew ?_ | refine blk_alloc ?_ _)); refine blk_put (cs := #[.bool t259, .string t260, .int .i64 0]) ?_ 2 _ rfl; (with_reducible repeat (first | refine blk_drewN ?_ _ | refine blk_drew ?_ | refine blk_alloc ?_ _)); refine blk_put (cs := #[.bool t259, .string (⟨#[]⟩ : ByteArray), .int .i64 0]) ?_ 1 _ rfl; (with_reducible repeat (first | refine blk_drewN ?_ _ | refine blk_drew ?_ | refine blk_alloc ?_ _)); refine blk_put (cs := #[.bool false, .string (⟨#[]⟩ : ByteArray), .int .i64 0]) ?_ 0 _ rfl; (with_reducible repeat (first | refine blk_drewN ?_ _ | refine blk_drew ?_ | refine blk_alloc ?_ _)); exact BK248.out) Tryd.underlying30 rfl (by kernel_rfl)) rfl ?_
    exact ⟨by first | rfl | (simp [errW_none, errW_some] <;> rfl) | (simp [*, errW_none, errW_some] <;> first | rfl | exact given_isEmpty _ | exact (given_isEmpty _).symm), by repeat (first | (with_reducible first | exact HB.out | apply below_alloc | apply pw_below_drewN | apply below_drew1 | refine below_set ?_ GE246.out | refine below_set ?_ GE247.out | refine below_set ?_ GE248.out) | exact HB.out)⟩
  · rw [if_neg c6] at H
    have c6b0 : (t249 == t252) = false := by simpa using c6
    (try (have c6b1 : decide (t249 = t252) = false := by simpa using c6))
    (try (have c6b2 : (t249 == t252) = false := by simpa using c6))
    (try (have c6b3 : ¬ (t249 = t252) := by simpa using c6))
    clear c6
    replace H := Option.bind_eq_some_iff.mp H
    obtain ⟨⟨t262, t263⟩, A350, H⟩ := H
    replace H : (if t263 = true then ((dec_Made.f k t249 t262 t257).bind fun bt264 => (some (bt264.1, bt264.2.1, bt264.2.2))) else ((num_Sub.f k t256 t255).bind fun bt267 => ((dec_Made.f k t252 bt267.1 t257).bind fun bt269 => (some (bt269.1, bt269.2.1, bt269.2.2))))) = some (r1, r2, r3) := H
    have A35 := Aside0.mk A350
    clear A350
    by_cases c36 : t263 = true
    · subst c36
      have H1 : ((dec_Made.f k t249 t262 t257).bind fun bt264 => (some (bt264.1, bt264.2.1, bt264.2.2))) = some (r1, r2, r3) := by rw [if_pos rfl] at H; exact H
      clear H
      have H := H1
      clear H1
      replace H := Option.bind_eq_some_iff.mp H
      obtain ⟨⟨t264, t265, t266⟩, A370, H⟩ := H
      replace H : (some (t264, t265, t266)) = some (r1, r2, r3) := H
      have A37 := Aside0.mk A370
      clear A370
      simp only [Option.some.injEq, Prod.mk.injEq] at H
      obtain ⟨rfl, rfl, rfl⟩ := H
      go_enter Tryd.func37, Tryd.ntmps37
      try go_wp2_with (first | ((with_reducible refine gate_dst (N := 2) rfl ?_); refine box_event ?hg (N := 2) ?hd (cs := #[.bool a0_0, .string a0_1, .int .i64 a0_2]) (t := 30) ?hr ?_; (case hd => rfl); (case hg => rfl); (case hr => first | (go_simp; done) | (go_simp; rfl)); intro gb246 hg w38 hbox hb; have n0_ := Aside0.mk (below_step (bl_ HB).out hb); have n1_ := Aside0.mk (hbox); have n2_ := Aside0.mk ((by rw [hg]; exact (below_size (bl_ HB).out) : w.heap.size ≤ gb246)); have n3_ := Aside0.mk ((by rw [hg]; exact (below_size (bl_ HB).out) : w.heap.size ≤ gb246)); clear HB; have HB := n0_; have BK246 := n1_; have GW246 := n2_; have GE246 := n3_; clear n0_ n1_ n2_ n3_; clear hb hbox hg) | ((with_reducible refine gate_dst (N := 3) rfl ?_); refine box_event ?hg (N := 3) ?hd (cs := #[.bool a1_0, .string a1_1, .int .i64 a1_2]) (t := 30) ?hr ?_; (case hd => rfl); (case hg => rfl); (case hr => first | (go_simp; done) | (go_simp; rfl)); intro gb247 hg w39 hbox hb; have n0_ := bb_ BK246 hb; have n1_ := Aside0.mk (below_step (bl_ HB).out hb); have n2_ := Aside0.mk (hbox); have n3_ := Aside0.mk ((by rw [hg]; exact (below_size (bl_ HB).out) : w.heap.size ≤ gb247)); have n4_ := Aside0.mk ((by rw [hg]; exact (below_size (bl_ HB).out) : w.heap.size ≤ gb247)); have n5_ := Aside0.mk ((by rw [hg]; exact Nat.ne_of_lt (blk_lt (g := gb246) (o := .cells #[.bool a0_0, .string a0_1, .int .i64 a0_2] 30 (0, 0)) (by (with_reducible repeat (first | refine blk_drewN ?_ _ | refine blk_drew ?_ | refine blk_alloc ?_ _)); exact BK246.out)) : gb246 ≠ gb247)); have n6_ := Aside0.mk ((by rw [hg]; exact Nat.ne_of_gt (blk_lt (g := gb246) (o := .cells #[.bool a0_0, .string a0_1, .int .i64 a0_2] 30 (0, 0)) (by (with_reducible repeat (first | refine blk_drewN ?_ _ | refine blk_drew ?_ | refine blk_alloc ?_ _)); exact BK246.out)) : gb247 ≠ gb246)); clear BK246; clear HB; have BK246 := n0_; have HB := n1_; have BK247 := n2_; have GW247 := n3_; have GE247 := n4_; have NB246_247 := n5_; have NB247_246 := n6_; clear n0_ n1_ n2_ n3_ n4_ n5_ n6_; clear hb hbox hg) | ((with_reducible refine gate_dst (N := 4) rfl ?_); refine box_event ?hg (N := 4) ?hd (cs := #[.bool false, .string (⟨#[]⟩ : ByteArray), .int .i64 0]) (t := 30) ?hr ?_; (case hd => rfl); (case hg => rfl); (case hr => first | (go_simp; done) | (go_simp; rfl)); intro gb248 hg w40 hbox hb; have n0_ := bb_ BK246 hb; have n1_ := bb_ BK247 hb; have n2_ := Aside0.mk (below_step (bl_ HB).out hb); have n3_ := Aside0.mk (hbox); have n4_ := Aside0.mk ((by rw [hg]; exact (below_size (bl_ HB).out) : w.heap.size ≤ gb248)); have n5_ := Aside0.mk ((by rw [hg]; exact (below_size (bl_ HB).out) : w.heap.size ≤ gb248)); have n6_ := Aside0.mk ((by rw [hg]; exact Nat.ne_of_lt (blk_lt (g := gb246) (o := .cells #[.bool a0_0, .string a0_1, .int .i64 a0_2] 30 (0, 0)) (by (with_reducible repeat (first | refine blk_drewN ?_ _ | refine blk_drew ?_ | refine blk_alloc ?_ _)); exact BK246.out)) : gb246 ≠ gb248)); have n7_ := Aside0.mk ((by rw [hg]; exact Nat.ne_of_gt (blk_lt (g := gb246) (o := .cells #[.bool a0_0, .string a0_1, .int .i64 a0_2] 30 (0, 0)) (by (with_reducible repeat (first | refine blk_drewN ?_ _ | refine blk_drew ?_ | refine blk_alloc ?_ _)); exact BK246.out)) : gb248 ≠ gb246)); have n8_ := Aside0.mk ((by rw [hg]; exact Nat.ne_of_lt (blk_lt (g := gb247) (o := .cells #[.bool a1_0, .string a1_1, .int .i64 a1_2] 30 (0, 0)) (by (with_reducible repeat (first | refine blk_drewN ?_ _ | refine blk_drew ?_ | refine blk_alloc ?_ _)); exact BK247.out)) : gb247 ≠ gb248)); have n9_ := Aside0.mk ((by rw [hg]; exact Nat.ne_of_gt (blk_lt (g := gb247) (o := .cells #[.bool a1_0, .string a1_1, .int .i64 a1_2] 30 (0, 0)) (by (with_reducible repeat (first | refine blk_drewN ?_ _ | refine blk_drew ?_ | refine blk_alloc ?_ _)); exact BK247.out)) : gb248 ≠ gb247)); clear BK246; clear BK247; clear HB; have BK246 := n0_; have BK247 := n1_; have HB := n2_; have BK248 := n3_; have GW248 := n4_; have GE248 := n5_; have NB246_248 := n6_; have NB248_246 := n7_; have NB247_248 := n8_; have NB248_247 := n9_; clear n0_ n1_ n2_ n3_ n4_ n5_ n6_ n7_ n8_ n9_; clear hb hbox hg))
      replace BK246 := Aside0.mk (blk_drew BK246.out)
      replace BK247 := Aside0.mk (blk_drew BK247.out)
      replace BK248 := Aside0.mk (blk_drew BK248.out)
      replace HB := Aside0.mk (below_drew1 HB.out)
      refine start_ (n := 6) (S := fun w' => w'.cell? ⟨gb246, 0, none⟩ = some (.bool a0_0) ∧ w'.cell? ⟨gb246, 1, none⟩ = some (.string a0_1) ∧ w'.cell? ⟨gb246, 2, none⟩ = some (.int .i64 a0_2) ∧ w'.cell? ⟨gb247, 0, none⟩ = some (.bool a1_0) ∧ w'.cell? ⟨gb247, 1, none⟩ = some (.string a1_1) ∧ w'.cell? ⟨gb247, 2, none⟩ = some (.int .i64 a1_2)) (ds := [4, 5]) #[false, false, false, false, false, false] (by kernel_rfl) rfl rfl ⟨bc_ BK246 0, bc_ BK246 1, bc_ BK246 2, bc_ BK247 0, bc_ BK247 1, bc_ BK247 2⟩ (fun hHeld => ?_)
      generalize w40.drew = w41 at BK246 BK247 BK248 HB hHeld ⊢
      refine tk0_ 0 12 #[true, false, false, false, false, false] hHeld rfl (by rintro w' ⟨s0, s1, s2, s3, s4, s5⟩; go_simp; with_reducible rfl) ?_
      refine tk0_ 2 14 #[true, false, true, false, false, false] hHeld rfl (by rintro w' ⟨s0, s1, s2, s3, s4, s5⟩; go_simp; with_reducible rfl) ?_
      refine one_ (i := 1) (N := some 13) #[true, true, true, false, false, false] rfl rfl (by kernel_rfl) (by decide) (fun K hK => ?_)
      refine gs_ Tryd.func22 #[.agg #[.bool a0_0, .string a0_1, .int .i64 a0_2]] ?_
      with_reducible refine (dec_Dec_Norm.calls k a0_0 a0_1 a0_2 t249 t250 t251 _ A3.out).mono ?_
      rintro e w42 ⟨rfl, hb⟩
      refine ⟨_, rfl, ?_⟩
      replace BK246 := bb_ BK246 hb
      replace BK247 := bb_ BK247 hb
      replace BK248 := bb_ BK248 hb
      replace HB := Aside0.mk (below_step (bl_ HB).out hb)
      (try clear hb)
      (try clear hb2)
      (try clear hk)
      (try clear hi)
      refine hK.out _ _ ⟨bc_ BK246 0, bc_ BK246 1, bc_ BK246 2, bc_ BK247 0, bc_ BK247 1, bc_ BK247 2⟩ (fun hHeld => ?_)
      clear hK K
      refine nm_ 13 ?_
      refine one_ (i := 3) (N := some 15) #[true, true, true, true, false, false] rfl rfl (by kernel_rfl) (by decide) (fun K hK => ?_)
      refine gs_ Tryd.func22 #[.agg #[.bool a1_0, .string a1_1, .int .i64 a1_2]] ?_
      with_reducible refine (dec_Dec_Norm.calls k a1_0 a1_1 a1_2 t252 t253 t254 _ A4.out).mono ?_
      rintro e w43 ⟨rfl, hb⟩
      refine ⟨_, rfl, ?_⟩
      replace BK246 := bb_ BK246 hb
      replace BK247 := bb_ BK247 hb
      replace BK248 := bb_ BK248 hb
      replace HB := Aside0.mk (below_step (bl_ HB).out hb)
      (try clear hb)
      (try clear hb2)
      (try clear hk)
      (try clear hi)
      refine hK.out _ _ ⟨bc_ BK246 0, bc_ BK246 1, bc_ BK246 2, bc_ BK247 0, bc_ BK247 1, bc_ BK247 2⟩ (fun hHeld => ?_)
      clear hK K
      refine nm_ 15 ?_
      refine last_ (i := 4) (N := none) #[true, true, true, true, true, false] rfl rfl (by kernel_rfl) (by decide) (fun K hK => ?_)
      have hs44 : w43.cell? ⟨gb246, 0, none⟩ = some (.bool a0_0) := bc_ BK246 0
      have hfs44 := blk_frozen BK246.out 0
      have hns44_1 := NB247_246.out
      have hns44_2 := NB248_246.out
      have hms44_1 := NB246_247.out
      have hms44_2 := NB246_248.out
      have hs45 : w43.cell? ⟨gb246, 1, none⟩ = some (.string a0_1) := bc_ BK246 1
      have hfs45 := blk_frozen BK246.out 1
      have hns45_1 := NB247_246.out
      have hns45_2 := NB248_246.out
      have hms45_1 := NB246_247.out
      have hms45_2 := NB246_248.out
      have hs46 : w43.cell? ⟨gb246, 2, none⟩ = some (.int .i64 a0_2) := bc_ BK246 2
      have hfs46 := blk_frozen BK246.out 2
      have hns46_1 := NB247_246.out
      have hns46_2 := NB248_246.out
      have hms46_1 := NB246_247.out
      have hms46_2 := NB246_248.out
      refine skip_ (w1 := ?_) (by rfl) rfl ?_ ?_
      rotate_left
      · go_simp
        rfl
      refine hK.out _ _ ?_
      clear hK K
      refine last_ (i := 5) (N := none) #[true, true, true, true, true, true] rfl rfl (by kernel_rfl) (by decide) (fun K hK => ?_)
      have hs47 : w43.cell? ⟨gb247, 0, none⟩ = some (.bool a1_0) := bc_ BK247 0
      have hfs47 := blk_frozen BK247.out 0
      have hns47_0 := NB246_247.out
      have hns47_2 := NB248_247.out
      have hms47_0 := NB247_246.out
      have hms47_2 := NB247_248.out
      have hs48 : w43.cell? ⟨gb247, 1, none⟩ = some (.string a1_1) := bc_ BK247 1
      have hfs48 := blk_frozen BK247.out 1
      have hns48_0 := NB246_247.out
      have hns48_2 := NB248_247.out
      have hms48_0 := NB247_246.out
      have hms48_2 := NB247_248.out
      have hs49 : w43.cell? ⟨gb247, 2, none⟩ = some (.int .i64 a1_2) := bc_ BK247 2
      have hfs49 := blk_frozen BK247.out 2
      have hns49_0 := NB246_247.out
      have hns49_2 := NB248_247.out
      have hms49_0 := NB247_246.out
      have hms49_2 := NB247_248.out
      refine skip_ (w1 := ?_) (by rfl) rfl ?_ ?_
      rotate_left
      · go_simp
        rfl
      refine hK.out _ _ ?_
      clear hK K
      refine done_ (by kernel_rfl) ?_
      have hnb50 := NB246_247.out
      have hnc50 := NB247_246.out
      have hnb51 := NB246_248.out
      have hnc51 := NB248_246.out
      have hcz52_0 : w43.cell? ⟨gb246, 0, none⟩ = some (.bool a0_0) := bc_ BK246 0
      have hcz52_1 : w43.cell? ⟨gb246, 1, none⟩ = some (.string a0_1) := bc_ BK246 1
      have hcz52_2 : w43.cell? ⟨gb246, 2, none⟩ = some (.int .i64 a0_2) := bc_ BK246 2
      have hfz52_0 := blk_frozen BK246.out 0
      have hfz52_1 := blk_frozen BK246.out 1
      have hfz52_2 := blk_frozen BK246.out 2
      have hnb53 := NB247_248.out
      have hnc53 := NB248_247.out
      have hcz54_0 : w43.cell? ⟨gb247, 0, none⟩ = some (.bool a1_0) := bc_ BK247 0
      have hcz54_1 : w43.cell? ⟨gb247, 1, none⟩ = some (.string a1_1) := bc_ BK247 1
      have hcz54_2 : w43.cell? ⟨gb247, 2, none⟩ = some (.int .i64 a1_2) := bc_ BK247 2
      have hfz54_0 := blk_frozen BK247.out 0
      have hfz54_1 := blk_frozen BK247.out 1
      have hfz54_2 := blk_frozen BK247.out 2
      try go_wp2_with (first | ((with_reducible refine gate_callee (f := 53) rfl ?_); refine goesL_ (some 19) rfl rfl Tryd.func53 (by kernel_rfl) rfl #[.agg #[.bool t249, .string t250, .int .i64 t251], .agg #[.bool t252, .string t253, .int .i64 t254]] rfl (by (try simp only [List.map_toArray, List.map_cons, List.map_nil]); first | done | rfl | (simp only [List.length_drop, List.length_take]; rfl) | (have z_ : ∀ s_ : ByteArray, s_.size ≤ 9223372036854775807 → -(s_.size : Int) = wrap64 (-(s_.size : Int)) := (fun s_ h_ => by unfold wrap64; omega); rw [← z_ _ (by omega)]; rfl) | (simp only [ByteArray.size_append]; rfl)) ?_; (with_reducible refine (dec_both.calls t249 t250 t251 t252 t253 t254 t255 t256 t257 _ A5.out).mono ?_); rintro e w55 ⟨rfl, hb⟩; refine ⟨_, rfl, ?_⟩; have n0_ := Aside0.mk (blk_below (g := gb246) (o := .cells #[.bool t249, .string t250, .int .i64 t251] 30 (0, 0)) (by (with_reducible repeat (first | refine blk_drewN ?_ _ | refine blk_drew ?_ | refine blk_alloc ?_ _)); refine blk_far ?_ NB246_247.out _; (with_reducible repeat (first | refine blk_drewN ?_ _ | refine blk_drew ?_ | refine blk_alloc ?_ _)); refine blk_far ?_ NB246_247.out _; (with_reducible repeat (first | refine blk_drewN ?_ _ | refine blk_drew ?_ | refine blk_alloc ?_ _)); refine blk_far ?_ NB246_247.out _; (with_reducible repeat (first | refine blk_drewN ?_ _ | refine blk_drew ?_ | refine blk_alloc ?_ _)); refine blk_put (cs := #[.bool t249, .string t250, .int .i64 a0_2]) ?_ 2 _ rfl; (with_reducible repeat (first | refine blk_drewN ?_ _ | refine blk_drew ?_ | refine blk_alloc ?_ _)); refine blk_put (cs := #[.bool t249, .string a0_1, .int .i64 a0_2]) ?_ 1 _ rfl; (with_reducible repeat (first | refine blk_drewN ?_ _ | refine blk_drew ?_ | refine blk_alloc ?_ _)); refine blk_put (cs := #[.bool a0_0, .string a0_1, .int .i64 a0_2]) ?_ 0 _ rfl; (with_reducible repeat (first | refine blk_drewN ?_ _ | refine blk_drew ?_ | refine blk_alloc ?_ _)); exact BK246.out) hb); have n1_ := Aside0.mk (blk_below (g := gb247) (o := .cells #[.bool t252, .string t253, .int .i64 t254] 30 (0, 0)) (by (with_reducible repeat (first | refine blk_drewN ?_ _ | refine blk_drew ?_ | refine blk_alloc ?_ _)); refine blk_put (cs := #[.bool t252, .string t253, .int .i64 a1_2]) ?_ 2 _ rfl; (with_reducible repeat (first | refine blk_drewN ?_ _ | refine blk_drew ?_ | refine blk_alloc ?_ _)); refine blk_put (cs := #[.bool t252, .string a1_1, .int .i64 a1_2]) ?_ 1 _ rfl; (with_reducible repeat (first | refine blk_drewN ?_ _ | refine blk_drew ?_ | refine blk_alloc ?_ _)); refine blk_put (cs := #[.bool a1_0, .string a1_1, .int .i64 a1_2]) ?_ 0 _ rfl; (with_reducible repeat (first | refine blk_drewN ?_ _ | refine blk_drew ?_ | refine blk_alloc ?_ _)); refine blk_far ?_ NB247_246.out _; (with_reducible repeat (first | refine blk_drewN ?_ _ | refine blk_drew ?_ | refine blk_alloc ?_ _)); refine blk_far ?_ NB247_246.out _; (with_reducible repeat (first | refine blk_drewN ?_ _ | refine blk_drew ?_ | refine blk_alloc ?_ _)); refine blk_far ?_ NB247_246.out _; (with_reducible repeat (first | refine blk_drewN ?_ _ | refine blk_drew ?_ | refine blk_alloc ?_ _)); exact BK247.out) hb); have n2_ := Aside0.mk (blk_below (g := gb248) (o := .cells #[.bool false, .string (⟨#[]⟩ : ByteArray), .int .i64 0] 30 (0, 0)) (by (with_reducible repeat (first | refine blk_drewN ?_ _ | refine blk_drew ?_ | refine blk_alloc ?_ _)); refine blk_far ?_ NB248_247.out _; (with_reducible repeat (first | refine blk_drewN ?_ _ | refine blk_drew ?_ | refine blk_alloc ?_ _)); refine blk_far ?_ NB248_247.out _; (with_reducible repeat (first | refine blk_drewN ?_ _ | refine blk_drew ?_ | refine blk_alloc ?_ _)); refine blk_far ?_ NB248_247.out _; (with_reducible repeat (first | refine blk_drewN ?_ _ | refine blk_drew ?_ | refine blk_alloc ?_ _)); refine blk_far ?_ NB248_246.out _; (with_reducible repeat (first | refine blk_drewN ?_ _ | refine blk_drew ?_ | refine blk_alloc ?_ _)); refine blk_far ?_ NB248_246.out _; (with_reducible repeat (first | refine blk_drewN ?_ _ | refine blk_drew ?_ | refine blk_alloc ?_ _)); refine blk_far ?_ NB248_246.out _; (with_reducible repeat (first | refine blk_drewN ?_ _ | refine blk_drew ?_ | refine blk_alloc ?_ _)); exact BK248.out) hb); have n3_ := Aside0.mk (below_step (bl_ HB).out hb); clear BK246; clear BK247; clear BK248; clear HB; have BK246 := n0_; have BK247 := n1_; have BK248 := n2_; have HB := n3_; clear n0_ n1_ n2_ n3_; (try clear hb); (try clear hb2); (try clear hk); (try clear hi); have hcz56_0 : w55.cell? ⟨gb246, 0, none⟩ = some (.bool t249) := bc_ BK246 0; have hcz56_1 : w55.cell? ⟨gb246, 1, none⟩ = some (.string t250) := bc_ BK246 1; have hcz56_2 : w55.cell? ⟨gb246, 2, none⟩ = some (.int .i64 t251) := bc_ BK246 2; have hfz56_0 := blk_frozen BK246.out 0; have hfz56_1 := blk_frozen BK246.out 1; have hfz56_2 := blk_frozen BK246.out 2; have hcz57_0 : w55.cell? ⟨gb247, 0, none⟩ = some (.bool t252) := bc_ BK247 0; have hcz57_1 : w55.cell? ⟨gb247, 1, none⟩ = some (.string t253) := bc_ BK247 1; have hcz57_2 : w55.cell? ⟨gb247, 2, none⟩ = some (.int .i64 t254) := bc_ BK247 2; have hfz57_0 := blk_frozen BK247.out 0; have hfz57_1 := blk_frozen BK247.out 1; have hfz57_2 := blk_frozen BK247.out 2) | ((with_reducible refine gate_callee (f := 54) rfl ?_); refine goesL_ (some 38) rfl rfl Tryd.func54 (by kernel_rfl) rfl #[.string t255, .string t256] rfl (by (try simp only [List.map_toArray, List.map_cons, List.map_nil]); first | done | rfl | (simp only [List.length_drop, List.length_take]; rfl) | (have z_ : ∀ s_ : ByteArray, s_.size ≤ 9223372036854775807 → -(s_.size : Int) = wrap64 (-(s_.size : Int)) := (fun s_ h_ => by unfold wrap64; omega); rw [← z_ _ (by omega)]; rfl) | (simp only [ByteArray.size_append]; rfl)) ?_; (with_reducible refine (num_Sub.calls k t255 t256 t262 true _ A35.out).mono ?_); rintro e w58 ⟨rfl, hb⟩; refine ⟨_, rfl, ?_⟩; have n0_ := bb_ BK246 hb; have n1_ := bb_ BK247 hb; have n2_ := bb_ BK248 hb; have n3_ := Aside0.mk (below_step (bl_ HB).out hb); clear BK246; clear BK247; clear BK248; clear HB; have BK246 := n0_; have BK247 := n1_; have BK248 := n2_; have HB := n3_; clear n0_ n1_ n2_ n3_; (try clear hb); (try clear hb2); (try clear hk); (try clear hi); have hcz59_0 : w58.cell? ⟨gb246, 0, none⟩ = some (.bool t249) := bc_ BK246 0; have hcz59_1 : w58.cell? ⟨gb246, 1, none⟩ = some (.string t250) := bc_ BK246 1; have hcz59_2 : w58.cell? ⟨gb246, 2, none⟩ = some (.int .i64 t251) := bc_ BK246 2; have hfz59_0 := blk_frozen BK246.out 0; have hfz59_1 := blk_frozen BK246.out 1; have hfz59_2 := blk_frozen BK246.out 2) | ((with_reducible refine gate_callee (f := 23) rfl ?_); refine goesL_ (some 46) rfl rfl Tryd.func23 (by kernel_rfl) rfl #[.bool t249, .string t262, .int .i64 t257] rfl (by (try simp only [List.map_toArray, List.map_cons, List.map_nil]); first | done | rfl | (simp only [List.length_drop, List.length_take]; rfl) | (have z_ : ∀ s_ : ByteArray, s_.size ≤ 9223372036854775807 → -(s_.size : Int) = wrap64 (-(s_.size : Int)) := (fun s_ h_ => by unfold wrap64; omega); rw [← z_ _ (by omega)]; rfl) | (simp only [ByteArray.size_append]; rfl)) ?_; (with_reducible refine (dec_Made.calls k t249 t262 t257 t264 t265 t266 _ A37.out).mono ?_); rintro e w60 ⟨rfl, hb⟩; refine ⟨_, rfl, ?_⟩; have n0_ := bb_ BK246 hb; have n1_ := bb_ BK247 hb; have n2_ := bb_ BK248 hb; have n3_ := Aside0.mk (below_step (bl_ HB).out hb); clear BK246; clear BK247; clear BK248; clear HB; have BK246 := n0_; have BK247 := n1_; have BK248 := n2_; have HB := n3_; clear n0_ n1_ n2_ n3_; (try clear hb); (try clear hb2); (try clear hk); (try clear hi); have hcz61_0 : w60.cell? ⟨gb248, 0, none⟩ = some (.bool false) := bc_ BK248 0; have hcz61_1 : w60.cell? ⟨gb248, 1, none⟩ = some (.string (⟨#[]⟩ : ByteArray)) := bc_ BK248 1; have hcz61_2 : w60.cell? ⟨gb248, 2, none⟩ = some (.int .i64 0) := bc_ BK248 2; have hfz61_0 := blk_frozen BK248.out 0; have hfz61_1 := blk_frozen BK248.out 1; have hfz61_2 := blk_frozen BK248.out 2))
      refine bodyPost_ret (results_cell_row rfl _ _ gb248 30 #[.bool t264, .string t265, .int .i64 t266] (0, 0) _ rfl (by (with_reducible repeat (first | refine blk_drewN ?_ _ | refine blk_drew ?_ | refine blk_alloc ?_ _)); refine blk_put (cs := #[.bool t264, .string t265, .int .i64 0]) ?_ 2 _ rfl; (with_reducible repeat (first | refine blk_drewN ?_ _ | refine blk_drew ?_ | refine blk_alloc ?_ _)); refine blk_put (cs := #[.bool t264, .string (⟨#[]⟩ : ByteArray), .int .i64 0]) ?_ 1 _ rfl; (with_reducible repeat (first | refine blk_drewN ?_ _ | refine blk_drew ?_ | refine blk_alloc ?_ _)); refine blk_put (cs := #[.bool false, .string (⟨#[]⟩ : ByteArray), .int .i64 0]) ?_ 0 _ rfl; (with_reducible repeat (first | refine blk_drewN ?_ _ | refine blk_drew ?_ | refine blk_alloc ?_ _)); exact BK248.out) Tryd.underlying30 rfl (by kernel_rfl)) rfl ?_
      exact ⟨by first | rfl | (simp [errW_none, errW_some] <;> rfl) | (simp [*, errW_none, errW_some] <;> first | rfl | exact given_isEmpty _ | exact (given_isEmpty _).symm), by repeat (first | (with_reducible first | exact HB.out | apply below_alloc | apply pw_below_drewN | apply below_drew1 | refine below_set ?_ GE246.out | refine below_set ?_ GE247.out | refine below_set ?_ GE248.out) | exact HB.out)⟩
    · replace c36 := Bool.eq_false_iff.mpr c36
      subst c36
      have H1 : ((num_Sub.f k t256 t255).bind fun bt267 => ((dec_Made.f k t252 bt267.1 t257).bind fun bt269 => (some (bt269.1, bt269.2.1, bt269.2.2)))) = some (r1, r2, r3) := by rw [if_neg (show ¬ (false = true) by decide)] at H; exact H
      clear H
      have H := H1
      clear H1
      replace H := Option.bind_eq_some_iff.mp H
      obtain ⟨⟨t267, t268⟩, A620, H⟩ := H
      replace H : ((dec_Made.f k t252 t267 t257).bind fun bt269 => (some (bt269.1, bt269.2.1, bt269.2.2))) = some (r1, r2, r3) := H
      have A62 := Aside0.mk A620
      clear A620
      replace H := Option.bind_eq_some_iff.mp H
      obtain ⟨⟨t269, t270, t271⟩, A630, H⟩ := H
      replace H : (some (t269, t270, t271)) = some (r1, r2, r3) := H
      have A63 := Aside0.mk A630
      clear A630
      simp only [Option.some.injEq, Prod.mk.injEq] at H
      obtain ⟨rfl, rfl, rfl⟩ := H
      go_enter Tryd.func37, Tryd.ntmps37
      try go_wp2_with (first | ((with_reducible refine gate_dst (N := 2) rfl ?_); refine box_event ?hg (N := 2) ?hd (cs := #[.bool a0_0, .string a0_1, .int .i64 a0_2]) (t := 30) ?hr ?_; (case hd => rfl); (case hg => rfl); (case hr => first | (go_simp; done) | (go_simp; rfl)); intro gb246 hg w64 hbox hb; have n0_ := Aside0.mk (below_step (bl_ HB).out hb); have n1_ := Aside0.mk (hbox); have n2_ := Aside0.mk ((by rw [hg]; exact (below_size (bl_ HB).out) : w.heap.size ≤ gb246)); have n3_ := Aside0.mk ((by rw [hg]; exact (below_size (bl_ HB).out) : w.heap.size ≤ gb246)); clear HB; have HB := n0_; have BK246 := n1_; have GW246 := n2_; have GE246 := n3_; clear n0_ n1_ n2_ n3_; clear hb hbox hg) | ((with_reducible refine gate_dst (N := 3) rfl ?_); refine box_event ?hg (N := 3) ?hd (cs := #[.bool a1_0, .string a1_1, .int .i64 a1_2]) (t := 30) ?hr ?_; (case hd => rfl); (case hg => rfl); (case hr => first | (go_simp; done) | (go_simp; rfl)); intro gb247 hg w65 hbox hb; have n0_ := bb_ BK246 hb; have n1_ := Aside0.mk (below_step (bl_ HB).out hb); have n2_ := Aside0.mk (hbox); have n3_ := Aside0.mk ((by rw [hg]; exact (below_size (bl_ HB).out) : w.heap.size ≤ gb247)); have n4_ := Aside0.mk ((by rw [hg]; exact (below_size (bl_ HB).out) : w.heap.size ≤ gb247)); have n5_ := Aside0.mk ((by rw [hg]; exact Nat.ne_of_lt (blk_lt (g := gb246) (o := .cells #[.bool a0_0, .string a0_1, .int .i64 a0_2] 30 (0, 0)) (by (with_reducible repeat (first | refine blk_drewN ?_ _ | refine blk_drew ?_ | refine blk_alloc ?_ _)); exact BK246.out)) : gb246 ≠ gb247)); have n6_ := Aside0.mk ((by rw [hg]; exact Nat.ne_of_gt (blk_lt (g := gb246) (o := .cells #[.bool a0_0, .string a0_1, .int .i64 a0_2] 30 (0, 0)) (by (with_reducible repeat (first | refine blk_drewN ?_ _ | refine blk_drew ?_ | refine blk_alloc ?_ _)); exact BK246.out)) : gb247 ≠ gb246)); clear BK246; clear HB; have BK246 := n0_; have HB := n1_; have BK247 := n2_; have GW247 := n3_; have GE247 := n4_; have NB246_247 := n5_; have NB247_246 := n6_; clear n0_ n1_ n2_ n3_ n4_ n5_ n6_; clear hb hbox hg) | ((with_reducible refine gate_dst (N := 4) rfl ?_); refine box_event ?hg (N := 4) ?hd (cs := #[.bool false, .string (⟨#[]⟩ : ByteArray), .int .i64 0]) (t := 30) ?hr ?_; (case hd => rfl); (case hg => rfl); (case hr => first | (go_simp; done) | (go_simp; rfl)); intro gb248 hg w66 hbox hb; have n0_ := bb_ BK246 hb; have n1_ := bb_ BK247 hb; have n2_ := Aside0.mk (below_step (bl_ HB).out hb); have n3_ := Aside0.mk (hbox); have n4_ := Aside0.mk ((by rw [hg]; exact (below_size (bl_ HB).out) : w.heap.size ≤ gb248)); have n5_ := Aside0.mk ((by rw [hg]; exact (below_size (bl_ HB).out) : w.heap.size ≤ gb248)); have n6_ := Aside0.mk ((by rw [hg]; exact Nat.ne_of_lt (blk_lt (g := gb246) (o := .cells #[.bool a0_0, .string a0_1, .int .i64 a0_2] 30 (0, 0)) (by (with_reducible repeat (first | refine blk_drewN ?_ _ | refine blk_drew ?_ | refine blk_alloc ?_ _)); exact BK246.out)) : gb246 ≠ gb248)); have n7_ := Aside0.mk ((by rw [hg]; exact Nat.ne_of_gt (blk_lt (g := gb246) (o := .cells #[.bool a0_0, .string a0_1, .int .i64 a0_2] 30 (0, 0)) (by (with_reducible repeat (first | refine blk_drewN ?_ _ | refine blk_drew ?_ | refine blk_alloc ?_ _)); exact BK246.out)) : gb248 ≠ gb246)); have n8_ := Aside0.mk ((by rw [hg]; exact Nat.ne_of_lt (blk_lt (g := gb247) (o := .cells #[.bool a1_0, .string a1_1, .int .i64 a1_2] 30 (0, 0)) (by (with_reducible repeat (first | refine blk_drewN ?_ _ | refine blk_drew ?_ | refine blk_alloc ?_ _)); exact BK247.out)) : gb247 ≠ gb248)); have n9_ := Aside0.mk ((by rw [hg]; exact Nat.ne_of_gt (blk_lt (g := gb247) (o := .cells #[.bool a1_0, .string a1_1, .int .i64 a1_2] 30 (0, 0)) (by (with_reducible repeat (first | refine blk_drewN ?_ _ | refine blk_drew ?_ | refine blk_alloc ?_ _)); exact BK247.out)) : gb248 ≠ gb247)); clear BK246; clear BK247; clear HB; have BK246 := n0_; have BK247 := n1_; have HB := n2_; have BK248 := n3_; have GW248 := n4_; have GE248 := n5_; have NB246_248 := n6_; have NB248_246 := n7_; have NB247_248 := n8_; have NB248_247 := n9_; clear n0_ n1_ n2_ n3_ n4_ n5_ n6_ n7_ n8_ n9_; clear hb hbox hg))
      replace BK246 := Aside0.mk (blk_drew BK246.out)
      replace BK247 := Aside0.mk (blk_drew BK247.out)
      replace BK248 := Aside0.mk (blk_drew BK248.out)
      replace HB := Aside0.mk (below_drew1 HB.out)
      refine start_ (n := 6) (S := fun w' => w'.cell? ⟨gb246, 0, none⟩ = some (.bool a0_0) ∧ w'.cell? ⟨gb246, 1, none⟩ = some (.string a0_1) ∧ w'.cell? ⟨gb246, 2, none⟩ = some (.int .i64 a0_2) ∧ w'.cell? ⟨gb247, 0, none⟩ = some (.bool a1_0) ∧ w'.cell? ⟨gb247, 1, none⟩ = some (.string a1_1) ∧ w'.cell? ⟨gb247, 2, none⟩ = some (.int .i64 a1_2)) (ds := [4, 5]) #[false, false, false, false, false, false] (by kernel_rfl) rfl rfl ⟨bc_ BK246 0, bc_ BK246 1, bc_ BK246 2, bc_ BK247 0, bc_ BK247 1, bc_ BK247 2⟩ (fun hHeld => ?_)
      generalize w66.drew = w67 at BK246 BK247 BK248 HB hHeld ⊢
      refine tk0_ 0 12 #[true, false, false, false, false, false] hHeld rfl (by rintro w' ⟨s0, s1, s2, s3, s4, s5⟩; go_simp; with_reducible rfl) ?_
      refine tk0_ 2 14 #[true, false, true, false, false, false] hHeld rfl (by rintro w' ⟨s0, s1, s2, s3, s4, s5⟩; go_simp; with_reducible rfl) ?_
      refine one_ (i := 1) (N := some 13) #[true, true, true, false, false, false] rfl rfl (by kernel_rfl) (by decide) (fun K hK => ?_)
      refine gs_ Tryd.func22 #[.agg #[.bool a0_0, .string a0_1, .int .i64 a0_2]] ?_
      with_reducible refine (dec_Dec_Norm.calls k a0_0 a0_1 a0_2 t249 t250 t251 _ A3.out).mono ?_
      rintro e w68 ⟨rfl, hb⟩
      refine ⟨_, rfl, ?_⟩
      replace BK246 := bb_ BK246 hb
      replace BK247 := bb_ BK247 hb
      replace BK248 := bb_ BK248 hb
      replace HB := Aside0.mk (below_step (bl_ HB).out hb)
      (try clear hb)
      (try clear hb2)
      (try clear hk)
      (try clear hi)
      refine hK.out _ _ ⟨bc_ BK246 0, bc_ BK246 1, bc_ BK246 2, bc_ BK247 0, bc_ BK247 1, bc_ BK247 2⟩ (fun hHeld => ?_)
      clear hK K
      refine nm_ 13 ?_
      refine one_ (i := 3) (N := some 15) #[true, true, true, true, false, false] rfl rfl (by kernel_rfl) (by decide) (fun K hK => ?_)
      refine gs_ Tryd.func22 #[.agg #[.bool a1_0, .string a1_1, .int .i64 a1_2]] ?_
      with_reducible refine (dec_Dec_Norm.calls k a1_0 a1_1 a1_2 t252 t253 t254 _ A4.out).mono ?_
      rintro e w69 ⟨rfl, hb⟩
      refine ⟨_, rfl, ?_⟩
      replace BK246 := bb_ BK246 hb
      replace BK247 := bb_ BK247 hb
      replace BK248 := bb_ BK248 hb
      replace HB := Aside0.mk (below_step (bl_ HB).out hb)
      (try clear hb)
      (try clear hb2)
      (try clear hk)
      (try clear hi)
      refine hK.out _ _ ⟨bc_ BK246 0, bc_ BK246 1, bc_ BK246 2, bc_ BK247 0, bc_ BK247 1, bc_ BK247 2⟩ (fun hHeld => ?_)
      clear hK K
      refine nm_ 15 ?_
      refine last_ (i := 4) (N := none) #[true, true, true, true, true, false] rfl rfl (by kernel_rfl) (by decide) (fun K hK => ?_)
      have hs70 : w69.cell? ⟨gb246, 0, none⟩ = some (.bool a0_0) := bc_ BK246 0
      have hfs70 := blk_frozen BK246.out 0
      have hns70_1 := NB247_246.out
      have hns70_2 := NB248_246.out
      have hms70_1 := NB246_247.out
      have hms70_2 := NB246_248.out
      have hs71 : w69.cell? ⟨gb246, 1, none⟩ = some (.string a0_1) := bc_ BK246 1
      have hfs71 := blk_frozen BK246.out 1
      have hns71_1 := NB247_246.out
      have hns71_2 := NB248_246.out
      have hms71_1 := NB246_247.out
      have hms71_2 := NB246_248.out
      have hs72 : w69.cell? ⟨gb246, 2, none⟩ = some (.int .i64 a0_2) := bc_ BK246 2
      have hfs72 := blk_frozen BK246.out 2
      have hns72_1 := NB247_246.out
      have hns72_2 := NB248_246.out
      have hms72_1 := NB246_247.out
      have hms72_2 := NB246_248.out
      refine skip_ (w1 := ?_) (by rfl) rfl ?_ ?_
      rotate_left
      · go_simp
        rfl
      refine hK.out _ _ ?_
      clear hK K
      refine last_ (i := 5) (N := none) #[true, true, true, true, true, true] rfl rfl (by kernel_rfl) (by decide) (fun K hK => ?_)
      have hs73 : w69.cell? ⟨gb247, 0, none⟩ = some (.bool a1_0) := bc_ BK247 0
      have hfs73 := blk_frozen BK247.out 0
      have hns73_0 := NB246_247.out
      have hns73_2 := NB248_247.out
      have hms73_0 := NB247_246.out
      have hms73_2 := NB247_248.out
      have hs74 : w69.cell? ⟨gb247, 1, none⟩ = some (.string a1_1) := bc_ BK247 1
      have hfs74 := blk_frozen BK247.out 1
      have hns74_0 := NB246_247.out
      have hns74_2 := NB248_247.out
      have hms74_0 := NB247_246.out
      have hms74_2 := NB247_248.out
      have hs75 : w69.cell? ⟨gb247, 2, none⟩ = some (.int .i64 a1_2) := bc_ BK247 2
      have hfs75 := blk_frozen BK247.out 2
      have hns75_0 := NB246_247.out
      have hns75_2 := NB248_247.out
      have hms75_0 := NB247_246.out
      have hms75_2 := NB247_248.out
      refine skip_ (w1 := ?_) (by rfl) rfl ?_ ?_
      rotate_left
      · go_simp
        rfl
      refine hK.out _ _ ?_
      clear hK K
      refine done_ (by kernel_rfl) ?_
      have hnb76 := NB246_247.out
      have hnc76 := NB247_246.out
      have hnb77 := NB246_248.out
      have hnc77 := NB248_246.out
      have hcz78_0 : w69.cell? ⟨gb246, 0, none⟩ = some (.bool a0_0) := bc_ BK246 0
      have hcz78_1 : w69.cell? ⟨gb246, 1, none⟩ = some (.string a0_1) := bc_ BK246 1
      have hcz78_2 : w69.cell? ⟨gb246, 2, none⟩ = some (.int .i64 a0_2) := bc_ BK246 2
      have hfz78_0 := blk_frozen BK246.out 0
      have hfz78_1 := blk_frozen BK246.out 1
      have hfz78_2 := blk_frozen BK246.out 2
      have hnb79 := NB247_248.out
      have hnc79 := NB248_247.out
      have hcz80_0 : w69.cell? ⟨gb247, 0, none⟩ = some (.bool a1_0) := bc_ BK247 0
      have hcz80_1 : w69.cell? ⟨gb247, 1, none⟩ = some (.string a1_1) := bc_ BK247 1
      have hcz80_2 : w69.cell? ⟨gb247, 2, none⟩ = some (.int .i64 a1_2) := bc_ BK247 2
      have hfz80_0 := blk_frozen BK247.out 0
      have hfz80_1 := blk_frozen BK247.out 1
      have hfz80_2 := blk_frozen BK247.out 2
      try go_wp2_with (first | ((with_reducible refine gate_callee (f := 53) rfl ?_); refine goesL_ (some 19) rfl rfl Tryd.func53 (by kernel_rfl) rfl #[.agg #[.bool t249, .string t250, .int .i64 t251], .agg #[.bool t252, .string t253, .int .i64 t254]] rfl (by (try simp only [List.map_toArray, List.map_cons, List.map_nil]); first | done | rfl | (simp only [List.length_drop, List.length_take]; rfl) | (have z_ : ∀ s_ : ByteArray, s_.size ≤ 9223372036854775807 → -(s_.size : Int) = wrap64 (-(s_.size : Int)) := (fun s_ h_ => by unfold wrap64; omega); rw [← z_ _ (by omega)]; rfl) | (simp only [ByteArray.size_append]; rfl)) ?_; (with_reducible refine (dec_both.calls t249 t250 t251 t252 t253 t254 t255 t256 t257 _ A5.out).mono ?_); rintro e w81 ⟨rfl, hb⟩; refine ⟨_, rfl, ?_⟩; have n0_ := Aside0.mk (blk_below (g := gb246) (o := .cells #[.bool t249, .string t250, .int .i64 t251] 30 (0, 0)) (by (with_reducible repeat (first | refine blk_drewN ?_ _ | refine blk_drew ?_ | refine blk_alloc ?_ _)); refine blk_far ?_ NB246_247.out _; (with_reducible repeat (first | refine blk_drewN ?_ _ | refine blk_drew ?_ | refine blk_alloc ?_ _)); refine blk_far ?_ NB246_247.out _; (with_reducible repeat (first | refine blk_drewN ?_ _ | refine blk_drew ?_ | refine blk_alloc ?_ _)); refine blk_far ?_ NB246_247.out _; (with_reducible repeat (first | refine blk_drewN ?_ _ | refine blk_drew ?_ | refine blk_alloc ?_ _)); refine blk_put (cs := #[.bool t249, .string t250, .int .i64 a0_2]) ?_ 2 _ rfl; (with_reducible repeat (first | refine blk_drewN ?_ _ | refine blk_drew ?_ | refine blk_alloc ?_ _)); refine blk_put (cs := #[.bool t249, .string a0_1, .int .i64 a0_2]) ?_ 1 _ rfl; (with_reducible repeat (first | refine blk_drewN ?_ _ | refine blk_drew ?_ | refine blk_alloc ?_ _)); refine blk_put (cs := #[.bool a0_0, .string a0_1, .int .i64 a0_2]) ?_ 0 _ rfl; (with_reducible repeat (first | refine blk_drewN ?_ _ | refine blk_drew ?_ | refine blk_alloc ?_ _)); exact BK246.out) hb); have n1_ := Aside0.mk (blk_below (g := gb247) (o := .cells #[.bool t252, .string t253, .int .i64 t254] 30 (0, 0)) (by (with_reducible repeat (first | refine blk_drewN ?_ _ | refine blk_drew ?_ | refine blk_alloc ?_ _)); refine blk_put (cs := #[.bool t252, .string t253, .int .i64 a1_2]) ?_ 2 _ rfl; (with_reducible repeat (first | refine blk_drewN ?_ _ | refine blk_drew ?_ | refine blk_alloc ?_ _)); refine blk_put (cs := #[.bool t252, .string a1_1, .int .i64 a1_2]) ?_ 1 _ rfl; (with_reducible repeat (first | refine blk_drewN ?_ _ | refine blk_drew ?_ | refine blk_alloc ?_ _)); refine blk_put (cs := #[.bool a1_0, .string a1_1, .int .i64 a1_2]) ?_ 0 _ rfl; (with_reducible repeat (first | refine blk_drewN ?_ _ | refine blk_drew ?_ | refine blk_alloc ?_ _)); refine blk_far ?_ NB247_246.out _; (with_reducible repeat (first | refine blk_drewN ?_ _ | refine blk_drew ?_ | refine blk_alloc ?_ _)); refine blk_far ?_ NB247_246.out _; (with_reducible repeat (first | refine blk_drewN ?_ _ | refine blk_drew ?_ | refine blk_alloc ?_ _)); refine blk_far ?_ NB247_246.out _; (with_reducible repeat (first | refine blk_drewN ?_ _ | refine blk_drew ?_ | refine blk_alloc ?_ _)); exact BK247.out) hb); have n2_ := Aside0.mk (blk_below (g := gb248) (o := .cells #[.bool false, .string (⟨#[]⟩ : ByteArray), .int .i64 0] 30 (0, 0)) (by (with_reducible repeat (first | refine blk_drewN ?_ _ | refine blk_drew ?_ | refine blk_alloc ?_ _)); refine blk_far ?_ NB248_247.out _; (with_reducible repeat (first | refine blk_drewN ?_ _ | refine blk_drew ?_ | refine blk_alloc ?_ _)); refine blk_far ?_ NB248_247.out _; (with_reducible repeat (first | refine blk_drewN ?_ _ | refine blk_drew ?_ | refine blk_alloc ?_ _)); refine blk_far ?_ NB248_247.out _; (with_reducible repeat (first | refine blk_drewN ?_ _ | refine blk_drew ?_ | refine blk_alloc ?_ _)); refine blk_far ?_ NB248_246.out _; (with_reducible repeat (first | refine blk_drewN ?_ _ | refine blk_drew ?_ | refine blk_alloc ?_ _)); refine blk_far ?_ NB248_246.out _; (with_reducible repeat (first | refine blk_drewN ?_ _ | refine blk_drew ?_ | refine blk_alloc ?_ _)); refine blk_far ?_ NB248_246.out _; (with_reducible repeat (first | refine blk_drewN ?_ _ | refine blk_drew ?_ | refine blk_alloc ?_ _)); exact BK248.out) hb); have n3_ := Aside0.mk (below_step (bl_ HB).out hb); clear BK246; clear BK247; clear BK248; clear HB; have BK246 := n0_; have BK247 := n1_; have BK248 := n2_; have HB := n3_; clear n0_ n1_ n2_ n3_; (try clear hb); (try clear hb2); (try clear hk); (try clear hi); have hcz82_0 : w81.cell? ⟨gb246, 0, none⟩ = some (.bool t249) := bc_ BK246 0; have hcz82_1 : w81.cell? ⟨gb246, 1, none⟩ = some (.string t250) := bc_ BK246 1; have hcz82_2 : w81.cell? ⟨gb246, 2, none⟩ = some (.int .i64 t251) := bc_ BK246 2; have hfz82_0 := blk_frozen BK246.out 0; have hfz82_1 := blk_frozen BK246.out 1; have hfz82_2 := blk_frozen BK246.out 2; have hcz83_0 : w81.cell? ⟨gb247, 0, none⟩ = some (.bool t252) := bc_ BK247 0; have hcz83_1 : w81.cell? ⟨gb247, 1, none⟩ = some (.string t253) := bc_ BK247 1; have hcz83_2 : w81.cell? ⟨gb247, 2, none⟩ = some (.int .i64 t254) := bc_ BK247 2; have hfz83_0 := blk_frozen BK247.out 0; have hfz83_1 := blk_frozen BK247.out 1; have hfz83_2 := blk_frozen BK247.out 2) | ((with_reducible refine gate_callee (f := 54) rfl ?_); refine goesL_ (some 38) rfl rfl Tryd.func54 (by kernel_rfl) rfl #[.string t255, .string t256] rfl (by (try simp only [List.map_toArray, List.map_cons, List.map_nil]); first | done | rfl | (simp only [List.length_drop, List.length_take]; rfl) | (have z_ : ∀ s_ : ByteArray, s_.size ≤ 9223372036854775807 → -(s_.size : Int) = wrap64 (-(s_.size : Int)) := (fun s_ h_ => by unfold wrap64; omega); rw [← z_ _ (by omega)]; rfl) | (simp only [ByteArray.size_append]; rfl)) ?_; (with_reducible refine (num_Sub.calls k t255 t256 t262 false _ A35.out).mono ?_); rintro e w84 ⟨rfl, hb⟩; refine ⟨_, rfl, ?_⟩; have n0_ := bb_ BK246 hb; have n1_ := bb_ BK247 hb; have n2_ := bb_ BK248 hb; have n3_ := Aside0.mk (below_step (bl_ HB).out hb); clear BK246; clear BK247; clear BK248; clear HB; have BK246 := n0_; have BK247 := n1_; have BK248 := n2_; have HB := n3_; clear n0_ n1_ n2_ n3_; (try clear hb); (try clear hb2); (try clear hk); (try clear hi)) | ((with_reducible refine gate_callee (f := 54) rfl ?_); refine goesL_ (some 50) rfl rfl Tryd.func54 (by kernel_rfl) rfl #[.string t256, .string t255] rfl (by (try simp only [List.map_toArray, List.map_cons, List.map_nil]); first | done | rfl | (simp only [List.length_drop, List.length_take]; rfl) | (have z_ : ∀ s_ : ByteArray, s_.size ≤ 9223372036854775807 → -(s_.size : Int) = wrap64 (-(s_.size : Int)) := (fun s_ h_ => by unfold wrap64; omega); rw [← z_ _ (by omega)]; rfl) | (simp only [ByteArray.size_append]; rfl)) ?_; (with_reducible refine (num_Sub.calls k t256 t255 t267 t268 _ A62.out).mono ?_); rintro e w85 ⟨rfl, hb⟩; refine ⟨_, rfl, ?_⟩; have n0_ := bb_ BK246 hb; have n1_ := bb_ BK247 hb; have n2_ := bb_ BK248 hb; have n3_ := Aside0.mk (below_step (bl_ HB).out hb); clear BK246; clear BK247; clear BK248; clear HB; have BK246 := n0_; have BK247 := n1_; have BK248 := n2_; have HB := n3_; clear n0_ n1_ n2_ n3_; (try clear hb); (try clear hb2); (try clear hk); (try clear hi); have hcz86_0 : w85.cell? ⟨gb247, 0, none⟩ = some (.bool t252) := bc_ BK247 0; have hcz86_1 : w85.cell? ⟨gb247, 1, none⟩ = some (.string t253) := bc_ BK247 1; have hcz86_2 : w85.cell? ⟨gb247, 2, none⟩ = some (.int .i64 t254) := bc_ BK247 2; have hfz86_0 := blk_frozen BK247.out 0; have hfz86_1 := blk_frozen BK247.out 1; have hfz86_2 := blk_frozen BK247.out 2) | ((with_reducible refine gate_callee (f := 23) rfl ?_); refine goesL_ (some 57) rfl rfl Tryd.func23 (by kernel_rfl) rfl #[.bool t252, .string t267, .int .i64 t257] rfl (by (try simp only [List.map_toArray, List.map_cons, List.map_nil]); first | done | rfl | (simp only [List.length_drop, List.length_take]; rfl) | (have z_ : ∀ s_ : ByteArray, s_.size ≤ 9223372036854775807 → -(s_.size : Int) = wrap64 (-(s_.size : Int)) := (fun s_ h_ => by unfold wrap64; omega); rw [← z_ _ (by omega)]; rfl) | (simp only [ByteArray.size_append]; rfl)) ?_; (with_reducible refine (dec_Made.calls k t252 t267 t257 t269 t270 t271 _ A63.out).mono ?_); rintro e w87 ⟨rfl, hb⟩; refine ⟨_, rfl, ?_⟩; have n0_ := bb_ BK246 hb; have n1_ := bb_ BK247 hb; have n2_ := bb_ BK248 hb; have n3_ := Aside0.mk (below_step (bl_ HB).out hb); clear BK246; clear BK247; clear BK248; clear HB; have BK246 := n0_; have BK247 := n1_; have BK248 := n2_; have HB := n3_; clear n0_ n1_ n2_ n3_; (try clear hb); (try clear hb2); (try clear hk); (try clear hi); have hcz88_0 : w87.cell? ⟨gb248, 0, none⟩ = some (.bool false) := bc_ BK248 0; have hcz88_1 : w87.cell? ⟨gb248, 1, none⟩ = some (.string (⟨#[]⟩ : ByteArray)) := bc_ BK248 1; have hcz88_2 : w87.cell? ⟨gb248, 2, none⟩ = some (.int .i64 0) := bc_ BK248 2; have hfz88_0 := blk_frozen BK248.out 0; have hfz88_1 := blk_frozen BK248.out 1; have hfz88_2 := blk_frozen BK248.out 2))
      refine bodyPost_ret (results_cell_row rfl _ _ gb248 30 #[.bool t269, .string t270, .int .i64 t271] (0, 0) _ rfl (by (with_reducible repeat (first | refine blk_drewN ?_ _ | refine blk_drew ?_ | refine blk_alloc ?_ _)); refine blk_put (cs := #[.bool t269, .string t270, .int .i64 0]) ?_ 2 _ rfl; (with_reducible repeat (first | refine blk_drewN ?_ _ | refine blk_drew ?_ | refine blk_alloc ?_ _)); refine blk_put (cs := #[.bool t269, .string (⟨#[]⟩ : ByteArray), .int .i64 0]) ?_ 1 _ rfl; (with_reducible repeat (first | refine blk_drewN ?_ _ | refine blk_drew ?_ | refine blk_alloc ?_ _)); refine blk_put (cs := #[.bool false, .string (⟨#[]⟩ : ByteArray), .int .i64 0]) ?_ 0 _ rfl; (with_reducible repeat (first | refine blk_drewN ?_ _ | refine blk_drew ?_ | refine blk_alloc ?_ _)); exact BK248.out) Tryd.underlying30 rfl (by kernel_rfl)) rfl ?_
      exact ⟨by first | rfl | (simp [errW_none, errW_some] <;> rfl) | (simp [*, errW_none, errW_some] <;> first | rfl | exact given_isEmpty _ | exact (given_isEmpty _).symm), by repeat (first | (with_reducible first | exact HB.out | apply below_alloc | apply pw_below_drewN | apply below_drew1 | refine below_set ?_ GE246.out | refine below_set ?_ GE247.out | refine below_set ?_ GE248.out) | exact HB.out)⟩

/-! ### dec_Sub: function 15 -/
def dec_Sub.f (k : Nat) (a0_0 : Bool) (a0_1 : ByteArray) (a0_2 : Int) (a1_0 : Bool) (a1_1 : ByteArray) (a1_2 : Int) : Option (Bool × ByteArray × Int) := (dec_Dec_Minus.f k a1_0 a1_1 a1_2).bind fun bt275 => ((dec_Add.f k a0_0 a0_1 a0_2 bt275.1 bt275.2.1 bt275.2.2).bind fun bt278 => (some (bt278.1, bt278.2.1, bt278.2.2)))
theorem dec_Sub.mono : ∀ a0 a1 a2 a3 a4 a5 k, LeO (dec_Sub.f k a0 a1 a2 a3 a4 a5) (dec_Sub.f (k + 1) a0 a1 a2 a3 a4 a5) := by
  intro a0 a1 a2 a3 a4 a5 k
  unfold dec_Sub.f
  repeat' first
      | (with_reducible exact dec_Add.mono _ _ _ _ _ _ _)
      | (with_reducible exact dec_Dec_Minus.mono _ _ _ _)
      | (with_reducible exact LeO.refl _)
      | (with_reducible exact LeO.none _)
      | (with_reducible refine LeO.ite ?_ ?_)
      | (with_reducible refine LeO.bind ?_ (fun _ => ?_))
      | exact dec_Add.mono _ _ _ _ _ _ _
      | exact dec_Dec_Minus.mono _ _ _ _
      | exact LeO.none _
      | refine LeO.ite ?_ ?_
      | refine LeO.bind ?_ (fun _ => ?_)
set_option maxHeartbeats 8000000 in
set_option maxRecDepth 100000 in
theorem dec_Sub.calls (k : Nat) (a0_0 : Bool) (a0_1 : ByteArray) (a0_2 : Int) (a1_0 : Bool) (a1_1 : ByteArray) (a1_2 : Int) (r1 : Bool) (r2 : ByteArray) (r3 : Int) (w : World) (h : dec_Sub.f k a0_0 a0_1 a0_2 a1_0 a1_1 a1_2 = some (r1, r2, r3)) :
    Calls Tryd.prog 15 #[.agg #[.bool a0_0, .string a0_1, .int .i64 a0_2], .agg #[.bool a1_0, .string a1_1, .int .i64 a1_2]] w fun e w' => e = .returned (.agg #[.bool r1, .string r2, .int .i64 r3]) ∧ Below w.heap.size w w' := by
  have hu30 := Tryd.underlying30
  have HB := Aside0.mk (Below.refl w.heap.size w)
  have H : ((dec_Dec_Minus.f k a1_0 a1_1 a1_2).bind fun bt275 => ((dec_Add.f k a0_0 a0_1 a0_2 bt275.1 bt275.2.1 bt275.2.2).bind fun bt278 => (some (bt278.1, bt278.2.1, bt278.2.2)))) = some (r1, r2, r3) := h
  clear h
  replace H := Option.bind_eq_some_iff.mp H
  obtain ⟨⟨t275, t276, t277⟩, A30, H⟩ := H
  replace H : ((dec_Add.f k a0_0 a0_1 a0_2 t275 t276 t277).bind fun bt278 => (some (bt278.1, bt278.2.1, bt278.2.2))) = some (r1, r2, r3) := H
  have A3 := Aside0.mk A30
  clear A30
  replace H := Option.bind_eq_some_iff.mp H
  obtain ⟨⟨t278, t279, t280⟩, A40, H⟩ := H
  replace H : (some (t278, t279, t280)) = some (r1, r2, r3) := H
  have A4 := Aside0.mk A40
  clear A40
  simp only [Option.some.injEq, Prod.mk.injEq] at H
  obtain ⟨rfl, rfl, rfl⟩ := H
  go_enter Tryd.func15, Tryd.ntmps15
  try go_wp2_with (first | ((with_reducible refine gate_dst (N := 2) rfl ?_); refine box_event ?hg (N := 2) ?hd (cs := #[.bool a0_0, .string a0_1, .int .i64 a0_2]) (t := 30) ?hr ?_; (case hd => rfl); (case hg => rfl); (case hr => first | (go_simp; done) | (go_simp; rfl)); intro gb272 hg w5 hbox hb; have n0_ := Aside0.mk (below_step (bl_ HB).out hb); have n1_ := Aside0.mk (hbox); have n2_ := Aside0.mk ((by rw [hg]; exact (below_size (bl_ HB).out) : w.heap.size ≤ gb272)); have n3_ := Aside0.mk ((by rw [hg]; exact (below_size (bl_ HB).out) : w.heap.size ≤ gb272)); clear HB; have HB := n0_; have BK272 := n1_; have GW272 := n2_; have GE272 := n3_; clear n0_ n1_ n2_ n3_; clear hb hbox hg) | ((with_reducible refine gate_dst (N := 3) rfl ?_); refine box_event ?hg (N := 3) ?hd (cs := #[.bool a1_0, .string a1_1, .int .i64 a1_2]) (t := 30) ?hr ?_; (case hd => rfl); (case hg => rfl); (case hr => first | (go_simp; done) | (go_simp; rfl)); intro gb273 hg w6 hbox hb; have n0_ := bb_ BK272 hb; have n1_ := Aside0.mk (below_step (bl_ HB).out hb); have n2_ := Aside0.mk (hbox); have n3_ := Aside0.mk ((by rw [hg]; exact (below_size (bl_ HB).out) : w.heap.size ≤ gb273)); have n4_ := Aside0.mk ((by rw [hg]; exact (below_size (bl_ HB).out) : w.heap.size ≤ gb273)); have n5_ := Aside0.mk ((by rw [hg]; exact Nat.ne_of_lt (blk_lt (g := gb272) (o := .cells #[.bool a0_0, .string a0_1, .int .i64 a0_2] 30 (0, 0)) (by (with_reducible repeat (first | refine blk_drewN ?_ _ | refine blk_drew ?_ | refine blk_alloc ?_ _)); exact BK272.out)) : gb272 ≠ gb273)); have n6_ := Aside0.mk ((by rw [hg]; exact Nat.ne_of_gt (blk_lt (g := gb272) (o := .cells #[.bool a0_0, .string a0_1, .int .i64 a0_2] 30 (0, 0)) (by (with_reducible repeat (first | refine blk_drewN ?_ _ | refine blk_drew ?_ | refine blk_alloc ?_ _)); exact BK272.out)) : gb273 ≠ gb272)); clear BK272; clear HB; have BK272 := n0_; have HB := n1_; have BK273 := n2_; have GW273 := n3_; have GE273 := n4_; have NB272_273 := n5_; have NB273_272 := n6_; clear n0_ n1_ n2_ n3_ n4_ n5_ n6_; clear hb hbox hg) | ((with_reducible refine gate_dst (N := 4) rfl ?_); refine box_event ?hg (N := 4) ?hd (cs := #[.bool false, .string (⟨#[]⟩ : ByteArray), .int .i64 0]) (t := 30) ?hr ?_; (case hd => rfl); (case hg => rfl); (case hr => first | (go_simp; done) | (go_simp; rfl)); intro gb274 hg w7 hbox hb; have n0_ := bb_ BK272 hb; have n1_ := bb_ BK273 hb; have n2_ := Aside0.mk (below_step (bl_ HB).out hb); have n3_ := Aside0.mk (hbox); have n4_ := Aside0.mk ((by rw [hg]; exact (below_size (bl_ HB).out) : w.heap.size ≤ gb274)); have n5_ := Aside0.mk ((by rw [hg]; exact (below_size (bl_ HB).out) : w.heap.size ≤ gb274)); have n6_ := Aside0.mk ((by rw [hg]; exact Nat.ne_of_lt (blk_lt (g := gb272) (o := .cells #[.bool a0_0, .string a0_1, .int .i64 a0_2] 30 (0, 0)) (by (with_reducible repeat (first | refine blk_drewN ?_ _ | refine blk_drew ?_ | refine blk_alloc ?_ _)); exact BK272.out)) : gb272 ≠ gb274)); have n7_ := Aside0.mk ((by rw [hg]; exact Nat.ne_of_gt (blk_lt (g := gb272) (o := .cells #[.bool a0_0, .string a0_1, .int .i64 a0_2] 30 (0, 0)) (by (with_reducible repeat (first | refine blk_drewN ?_ _ | refine blk_drew ?_ | refine blk_alloc ?_ _)); exact BK272.out)) : gb274 ≠ gb272)); have n8_ := Aside0.mk ((by rw [hg]; exact Nat.ne_of_lt (blk_lt (g := gb273) (o := .cells #[.bool a1_0, .string a1_1, .int .i64 a1_2] 30 (0, 0)) (by (with_reducible repeat (first | refine blk_drewN ?_ _ | refine blk_drew ?_ | refine blk_alloc ?_ _)); exact BK273.out)) : gb273 ≠ gb274)); have n9_ := Aside0.mk ((by rw [hg]; exact Nat.ne_of_gt (blk_lt (g := gb273) (o := .cells #[.bool a1_0, .string a1_1, .int .i64 a1_2] 30 (0, 0)) (by (with_reducible repeat (first | refine blk_drewN ?_ _ | refine blk_drew ?_ | refine blk_alloc ?_ _)); exact BK273.out)) : gb274 ≠ gb273)); clear BK272; clear BK273; clear HB; have BK272 := n0_; have BK273 := n1_; have HB := n2_; have BK274 := n3_; have GW274 := n4_; have GE274 := n5_; have NB272_274 := n6_; have NB274_272 := n7_; have NB273_274 := n8_; have NB274_273 := n9_; clear n0_ n1_ n2_ n3_ n4_ n5_ n6_ n7_ n8_ n9_; clear hb hbox hg))
  replace BK272 := Aside0.mk (blk_drew BK272.out)
  replace BK273 := Aside0.mk (blk_drew BK273.out)
  replace BK274 := Aside0.mk (blk_drew BK274.out)
  replace HB := Aside0.mk (below_drew1 HB.out)
  refine start_ (n := 5) (S := fun w' => w'.cell? ⟨gb272, 0, none⟩ = some (.bool a0_0) ∧ w'.cell? ⟨gb272, 1, none⟩ = some (.string a0_1) ∧ w'.cell? ⟨gb272, 2, none⟩ = some (.int .i64 a0_2) ∧ w'.cell? ⟨gb273, 0, none⟩ = some (.bool a1_0) ∧ w'.cell? ⟨gb273, 1, none⟩ = some (.string a1_1) ∧ w'.cell? ⟨gb273, 2, none⟩ = some (.int .i64 a1_2)) (ds := []) #[false, false, false, false, false] (by kernel_rfl) rfl rfl ⟨bc_ BK272 0, bc_ BK272 1, bc_ BK272 2, bc_ BK273 0, bc_ BK273 1, bc_ BK273 2⟩ (fun hHeld => ?_)
  generalize w7.drew = w8 at BK272 BK273 BK274 HB hHeld ⊢
  refine tk0_ 0 5 #[true, false, false, false, false] hHeld rfl (by rintro w' ⟨s0, s1, s2, s3, s4, s5⟩; go_simp; with_reducible rfl) ?_
  refine tk0_ 1 6 #[true, true, false, false, false] hHeld rfl (by rintro w' ⟨s0, s1, s2, s3, s4, s5⟩; go_simp; with_reducible rfl) ?_
  refine one_ (i := 2) (N := some 7) #[true, true, true, false, false] rfl rfl (by kernel_rfl) (by decide) (fun K hK => ?_)
  refine gs_ Tryd.func20 #[.agg #[.bool a1_0, .string a1_1, .int .i64 a1_2]] ?_
  with_reducible refine (dec_Dec_Minus.calls k a1_0 a1_1 a1_2 t275 t276 t277 _ A3.out).mono ?_
  rintro e w9 ⟨rfl, hb⟩
  refine ⟨_, rfl, ?_⟩
  replace BK272 := bb_ BK272 hb
  replace BK273 := bb_ BK273 hb
  replace BK274 := bb_ BK274 hb
  replace HB := Aside0.mk (below_step (bl_ HB).out hb)
  (try clear hb)
  (try clear hb2)
  (try clear hk)
  (try clear hi)
  refine hK.out _ _ ⟨bc_ BK272 0, bc_ BK272 1, bc_ BK272 2, bc_ BK273 0, bc_ BK273 1, bc_ BK273 2⟩ (fun hHeld => ?_)
  clear hK K
  refine nm_ 7 ?_
  refine one_ (i := 3) (N := some 8) #[true, true, true, true, false] rfl rfl (by kernel_rfl) (by decide) (fun K hK => ?_)
  refine gs_ Tryd.func37 #[.agg #[.bool a0_0, .string a0_1, .int .i64 a0_2], .agg #[.bool t275, .string t276, .int .i64 t277]] ?_
  with_reducible refine (dec_Add.calls k a0_0 a0_1 a0_2 t275 t276 t277 t278 t279 t280 _ A4.out).mono ?_
  rintro e w10 ⟨rfl, hb⟩
  refine ⟨_, rfl, ?_⟩
  replace BK272 := bb_ BK272 hb
  replace BK273 := bb_ BK273 hb
  replace BK274 := bb_ BK274 hb
  replace HB := Aside0.mk (below_step (bl_ HB).out hb)
  (try clear hb)
  (try clear hb2)
  (try clear hk)
  (try clear hi)
  refine hK.out _ _ ⟨bc_ BK272 0, bc_ BK272 1, bc_ BK272 2, bc_ BK273 0, bc_ BK273 1, bc_ BK273 2⟩ (fun hHeld => ?_)
  clear hK K
  refine nm_ 8 ?_
  refine one_ (i := 4) (N := none) #[true, true, true, true, true] rfl rfl (by kernel_rfl) (by decide) (fun K hK => ?_)
  have hs11 : w10.cell? ⟨gb274, 0, none⟩ = some (.bool false) := bc_ BK274 0
  have hfs11 := blk_frozen BK274.out 0
  have hns11_0 := NB272_274.out
  have hns11_1 := NB273_274.out
  have hms11_0 := NB274_272.out
  have hms11_1 := NB274_273.out
  have hs12 : w10.cell? ⟨gb274, 1, none⟩ = some (.string (⟨#[]⟩ : ByteArray)) := bc_ BK274 1
  have hfs12 := blk_frozen BK274.out 1
  have hns12_0 := NB272_274.out
  have hns12_1 := NB273_274.out
  have hms12_0 := NB274_272.out
  have hms12_1 := NB274_273.out
  have hs13 : w10.cell? ⟨gb274, 2, none⟩ = some (.int .i64 0) := bc_ BK274 2
  have hfs13 := blk_frozen BK274.out 2
  have hns13_0 := NB272_274.out
  have hns13_1 := NB273_274.out
  have hms13_0 := NB274_272.out
  have hms13_1 := NB274_273.out
  refine skip_ (w1 := ?_) (by rfl) rfl ?_ ?_
  rotate_left
  · go_simp
    rfl
  refine hK.out _ _ ⟨((cell_far (p := ⟨gb274, _, none⟩) NB272_274.out _).trans (((cell_far (p := ⟨gb274, _, none⟩) NB272_274.out _).trans (((cell_far (p := ⟨gb274, _, none⟩) NB272_274.out _).trans (hHeld.1)))))), ((cell_far (p := ⟨gb274, _, none⟩) NB272_274.out _).trans (((cell_far (p := ⟨gb274, _, none⟩) NB272_274.out _).trans (((cell_far (p := ⟨gb274, _, none⟩) NB272_274.out _).trans (hHeld.2.1)))))), ((cell_far (p := ⟨gb274, _, none⟩) NB272_274.out _).trans (((cell_far (p := ⟨gb274, _, none⟩) NB272_274.out _).trans (((cell_far (p := ⟨gb274, _, none⟩) NB272_274.out _).trans (hHeld.2.2.1)))))), ((cell_far (p := ⟨gb274, _, none⟩) NB273_274.out _).trans (((cell_far (p := ⟨gb274, _, none⟩) NB273_274.out _).trans (((cell_far (p := ⟨gb274, _, none⟩) NB273_274.out _).trans (hHeld.2.2.2.1)))))), ((cell_far (p := ⟨gb274, _, none⟩) NB273_274.out _).trans (((cell_far (p := ⟨gb274, _, none⟩) NB273_274.out _).trans (((cell_far (p := ⟨gb274, _, none⟩) NB273_274.out _).trans (hHeld.2.2.2.2.1)))))), ((cell_far (p := ⟨gb274, _, none⟩) NB273_274.out _).trans (((cell_far (p := ⟨gb274, _, none⟩) NB273_274.out _).trans (((cell_far (p := ⟨gb274, _, none⟩) NB273_274.out _).trans (hHeld.2.2.2.2.2))))))⟩ (fun hHeld => ?_)
  clear hK K
  refine done_ (by kernel_rfl) ?_
  try go_wp2
  refine bodyPost_ret (results_cell_row rfl _ _ gb274 30 #[.bool t278, .string t279, .int .i64 t280] (0, 0) _ rfl (by (with_reducible repeat (first | refine blk_drewN ?_ _ | refine blk_drew ?_ | refine blk_alloc ?_ _)); refine blk_put (cs := #[.bool t278, .string t279, .int .i64 0]) ?_ 2 _ rfl; (with_reducible repeat (first | refine blk_drewN ?_ _ | refine blk_drew ?_ | refine blk_alloc ?_ _)); refine blk_put (cs := #[.bool t278, .string (⟨#[]⟩ : ByteArray), .int .i64 0]) ?_ 1 _ rfl; (with_reducible repeat (first | refine blk_drewN ?_ _ | refine blk_drew ?_ | refine blk_alloc ?_ _)); refine blk_put (cs := #[.bool false, .string (⟨#[]⟩ : ByteArray), .int .i64 0]) ?_ 0 _ rfl; (with_reducible repeat (first | refine blk_drewN ?_ _ | refine blk_drew ?_ | refine blk_alloc ?_ _)); exact BK274.out) Tryd.underlying30 rfl (by kernel_rfl)) rfl ?_
  exact ⟨by first | rfl | (simp [errW_none, errW_some] <;> rfl) | (simp [*, errW_none, errW_some] <;> first | rfl | exact given_isEmpty _ | exact (given_isEmpty _).symm), by repeat (first | (with_reducible first | exact HB.out | apply below_alloc | apply pw_below_drewN | apply below_drew1 | refine below_set ?_ GE272.out | refine below_set ?_ GE273.out | refine below_set ?_ GE274.out) | exact HB.out)⟩

/-! ### dec_Dec_Abs: function 16 -/
def dec_Dec_Abs.f (k : Nat) (a0_0 : Bool) (a0_1 : ByteArray) (a0_2 : Int) : Option (Bool × ByteArray × Int) := (dec_Made.f k false a0_1 a0_2).bind fun bt283 => (some (bt283.1, bt283.2.1, bt283.2.2))
theorem dec_Dec_Abs.mono : ∀ a0 a1 a2 k, LeO (dec_Dec_Abs.f k a0 a1 a2) (dec_Dec_Abs.f (k + 1) a0 a1 a2) := by
  intro a0 a1 a2 k
  unfold dec_Dec_Abs.f
  repeat' first
      | (with_reducible exact dec_Made.mono _ _ _ _)
      | (with_reducible exact LeO.refl _)
      | (with_reducible exact LeO.none _)
      | (with_reducible refine LeO.ite ?_ ?_)
      | (with_reducible refine LeO.bind ?_ (fun _ => ?_))
      | exact dec_Made.mono _ _ _ _
      | exact LeO.none _
      | refine LeO.ite ?_ ?_
      | refine LeO.bind ?_ (fun _ => ?_)
set_option maxHeartbeats 8000000 in
set_option maxRecDepth 100000 in
theorem dec_Dec_Abs.calls (k : Nat) (a0_0 : Bool) (a0_1 : ByteArray) (a0_2 : Int) (r1 : Bool) (r2 : ByteArray) (r3 : Int) (w : World) (h : dec_Dec_Abs.f k a0_0 a0_1 a0_2 = some (r1, r2, r3)) :
    Calls Tryd.prog 16 #[.agg #[.bool a0_0, .string a0_1, .int .i64 a0_2]] w fun e w' => e = .returned (.agg #[.bool r1, .string r2, .int .i64 r3]) ∧ Below w.heap.size w w' := by
  have hu30 := Tryd.underlying30
  have HB := Aside0.mk (Below.refl w.heap.size w)
  have H : ((dec_Made.f k false a0_1 a0_2).bind fun bt283 => (some (bt283.1, bt283.2.1, bt283.2.2))) = some (r1, r2, r3) := h
  clear h
  replace H := Option.bind_eq_some_iff.mp H
  obtain ⟨⟨t283, t284, t285⟩, A20, H⟩ := H
  replace H : (some (t283, t284, t285)) = some (r1, r2, r3) := H
  have A2 := Aside0.mk A20
  clear A20
  simp only [Option.some.injEq, Prod.mk.injEq] at H
  obtain ⟨rfl, rfl, rfl⟩ := H
  go_enter Tryd.func16, Tryd.ntmps16
  go_wp2_with (first | ((with_reducible refine gate_dst (N := 1) rfl ?_); refine box_event ?hg (N := 1) ?hd (cs := #[.bool a0_0, .string a0_1, .int .i64 a0_2]) (t := 30) ?hr ?_; (case hd => rfl); (case hg => rfl); (case hr => first | (go_simp; done) | (go_simp; rfl)); intro gb281 hg w3 hbox hb; have n0_ := Aside0.mk (below_step (bl_ HB).out hb); have n1_ := Aside0.mk (hbox); have n2_ := Aside0.mk ((by rw [hg]; exact (below_size (bl_ HB).out) : w.heap.size ≤ gb281)); have n3_ := Aside0.mk ((by rw [hg]; exact (below_size (bl_ HB).out) : w.heap.size ≤ gb281)); clear HB; have HB := n0_; have BK281 := n1_; have GW281 := n2_; have GE281 := n3_; clear n0_ n1_ n2_ n3_; clear hb hbox hg) | ((with_reducible refine gate_dst (N := 2) rfl ?_); refine box_event ?hg (N := 2) ?hd (cs := #[.bool false, .string (⟨#[]⟩ : ByteArray), .int .i64 0]) (t := 30) ?hr ?_; (case hd => rfl); (case hg => rfl); (case hr => first | (go_simp; done) | (go_simp; rfl)); intro gb282 hg w4 hbox hb; have n0_ := bb_ BK281 hb; have n1_ := Aside0.mk (below_step (bl_ HB).out hb); have n2_ := Aside0.mk (hbox); have n3_ := Aside0.mk ((by rw [hg]; exact (below_size (bl_ HB).out) : w.heap.size ≤ gb282)); have n4_ := Aside0.mk ((by rw [hg]; exact (below_size (bl_ HB).out) : w.heap.size ≤ gb282)); have n5_ := Aside0.mk ((by rw [hg]; exact Nat.ne_of_lt (blk_lt (g := gb281) (o := .cells #[.bool a0_0, .string a0_1, .int .i64 a0_2] 30 (0, 0)) (by (with_reducible repeat (first | refine blk_drewN ?_ _ | refine blk_drew ?_ | refine blk_alloc ?_ _)); exact BK281.out)) : gb281 ≠ gb282)); have n6_ := Aside0.mk ((by rw [hg]; exact Nat.ne_of_gt (blk_lt (g := gb281) (o := .cells #[.bool a0_0, .string a0_1, .int .i64 a0_2] 30 (0, 0)) (by (with_reducible repeat (first | refine blk_drewN ?_ _ | refine blk_drew ?_ | refine blk_alloc ?_ _)); exact BK281.out)) : gb282 ≠ gb281)); clear BK281; clear HB; have BK281 := n0_; have HB := n1_; have BK282 := n2_; have GW282 := n3_; have GE282 := n4_; have NB281_282 := n5_; have NB282_281 := n6_; clear n0_ n1_ n2_ n3_ n4_ n5_ n6_; clear hb hbox hg; have hnb5 := NB281_282.out; have hnc5 := NB282_281.out; have hcz6_0 : w4.cell? ⟨gb281, 0, none⟩ = some (.bool a0_0) := bc_ BK281 0; have hcz6_1 : w4.cell? ⟨gb281, 1, none⟩ = some (.string a0_1) := bc_ BK281 1; have hcz6_2 : w4.cell? ⟨gb281, 2, none⟩ = some (.int .i64 a0_2) := bc_ BK281 2; have hfz6_0 := blk_frozen BK281.out 0; have hfz6_1 := blk_frozen BK281.out 1; have hfz6_2 := blk_frozen BK281.out 2) | ((with_reducible refine gate_callee (f := 23) rfl ?_); refine goesL_ (some 7) rfl rfl Tryd.func23 (by kernel_rfl) rfl #[.bool false, .string a0_1, .int .i64 a0_2] rfl (by (try simp only [List.map_toArray, List.map_cons, List.map_nil]); first | done | rfl | (simp only [List.length_drop, List.length_take]; rfl) | (have z_ : ∀ s_ : ByteArray, s_.size ≤ 9223372036854775807 → -(s_.size : Int) = wrap64 (-(s_.size : Int)) := (fun s_ h_ => by unfold wrap64; omega); rw [← z_ _ (by omega)]; rfl) | (simp only [ByteArray.size_append]; rfl)) ?_; (with_reducible refine (dec_Made.calls k false a0_1 a0_2 t283 t284 t285 _ A2.out).mono ?_); rintro e w7 ⟨rfl, hb⟩; refine ⟨_, rfl, ?_⟩; have n0_ := bb_ BK281 hb; have n1_ := bb_ BK282 hb; have n2_ := Aside0.mk (below_step (bl_ HB).out hb); clear BK281; clear BK282; clear HB; have BK281 := n0_; have BK282 := n1_; have HB := n2_; clear n0_ n1_ n2_; (try clear hb); (try clear hb2); (try clear hk); (try clear hi); have hcz8_0 : w7.cell? ⟨gb282, 0, none⟩ = some (.bool false) := bc_ BK282 0; have hcz8_1 : w7.cell? ⟨gb282, 1, none⟩ = some (.string (⟨#[]⟩ : ByteArray)) := bc_ BK282 1; have hcz8_2 : w7.cell? ⟨gb282, 2, none⟩ = some (.int .i64 0) := bc_ BK282 2; have hfz8_0 := blk_frozen BK282.out 0; have hfz8_1 := blk_frozen BK282.out 1; have hfz8_2 := blk_frozen BK282.out 2))
  refine bodyPost_ret (results_cell_row rfl _ _ gb282 30 #[.bool t283, .string t284, .int .i64 t285] (0, 0) _ rfl (by (with_reducible repeat (first | refine blk_drewN ?_ _ | refine blk_drew ?_ | refine blk_alloc ?_ _)); refine blk_put (cs := #[.bool t283, .string t284, .int .i64 0]) ?_ 2 _ rfl; (with_reducible repeat (first | refine blk_drewN ?_ _ | refine blk_drew ?_ | refine blk_alloc ?_ _)); refine blk_put (cs := #[.bool t283, .string (⟨#[]⟩ : ByteArray), .int .i64 0]) ?_ 1 _ rfl; (with_reducible repeat (first | refine blk_drewN ?_ _ | refine blk_drew ?_ | refine blk_alloc ?_ _)); refine blk_put (cs := #[.bool false, .string (⟨#[]⟩ : ByteArray), .int .i64 0]) ?_ 0 _ rfl; (with_reducible repeat (first | refine blk_drewN ?_ _ | refine blk_drew ?_ | refine blk_alloc ?_ _)); exact BK282.out) Tryd.underlying30 rfl (by kernel_rfl)) rfl ?_
  exact ⟨by first | rfl | (simp [errW_none, errW_some] <;> rfl) | (simp [*, errW_none, errW_some] <;> first | rfl | exact given_isEmpty _ | exact (given_isEmpty _).symm), by repeat (first | (with_reducible first | exact HB.out | apply below_alloc | apply pw_below_drewN | apply below_drew1 | refine below_set ?_ GE281.out | refine below_set ?_ GE282.out) | exact HB.out)⟩

/-! ### dec_Dec_Zero: function 38 -/
def dec_Dec_Zero.f (k : Nat) (a0_0 : Bool) (a0_1 : ByteArray) (a0_2 : Int) : Option (Bool) := (num_Trim.f k a0_1).bind fun t287 => (some (t287.toList == ([] : List UInt8)))
theorem dec_Dec_Zero.mono : ∀ a0 a1 a2 k, LeO (dec_Dec_Zero.f k a0 a1 a2) (dec_Dec_Zero.f (k + 1) a0 a1 a2) := by
  intro a0 a1 a2 k
  unfold dec_Dec_Zero.f
  repeat' first
      | (with_reducible exact num_Trim.mono _ _)
      | (with_reducible exact LeO.refl _)
      | (with_reducible exact LeO.none _)
      | (with_reducible refine LeO.ite ?_ ?_)
      | (with_reducible refine LeO.bind ?_ (fun _ => ?_))
      | exact num_Trim.mono _ _
      | exact LeO.none _
      | refine LeO.ite ?_ ?_
      | refine LeO.bind ?_ (fun _ => ?_)
set_option maxHeartbeats 8000000 in
set_option maxRecDepth 100000 in
theorem dec_Dec_Zero.calls (k : Nat) (a0_0 : Bool) (a0_1 : ByteArray) (a0_2 : Int) (r : Bool) (w : World) (h : dec_Dec_Zero.f k a0_0 a0_1 a0_2 = some r) :
    Calls Tryd.prog 38 #[.agg #[.bool a0_0, .string a0_1, .int .i64 a0_2]] w fun e w' => e = .returned (.bool r) ∧ Below w.heap.size w w' := by
  have hu30 := Tryd.underlying30
  have HB := Aside0.mk (Below.refl w.heap.size w)
  have H : ((num_Trim.f k a0_1).bind fun t287 => (some (t287.toList == ([] : List UInt8)))) = some r := h
  clear h
  replace H := Option.bind_eq_some_iff.mp H
  obtain ⟨t287, A20, H⟩ := H
  replace H : (some (t287.toList == ([] : List UInt8))) = some r := H
  have A2 := Aside0.mk A20
  clear A20
  obtain rfl := Option.some.inj H
  go_enter Tryd.func38, Tryd.ntmps38
  go_wp2_with (first | ((with_reducible refine gate_dst (N := 1) rfl ?_); refine box_event ?hg (N := 1) ?hd (cs := #[.bool a0_0, .string a0_1, .int .i64 a0_2]) (t := 30) ?hr ?_; (case hd => rfl); (case hg => rfl); (case hr => first | (go_simp; done) | (go_simp; rfl)); intro gb286 hg w3 hbox hb; have n0_ := Aside0.mk (below_step (bl_ HB).out hb); have n1_ := Aside0.mk (hbox); have n2_ := Aside0.mk ((by rw [hg]; exact (below_size (bl_ HB).out) : w.heap.size ≤ gb286)); have n3_ := Aside0.mk ((by rw [hg]; exact (below_size (bl_ HB).out) : w.heap.size ≤ gb286)); clear HB; have HB := n0_; have BK286 := n1_; have GW286 := n2_; have GE286 := n3_; clear n0_ n1_ n2_ n3_; clear hb hbox hg; have hcz4_0 : w3.cell? ⟨gb286, 0, none⟩ = some (.bool a0_0) := bc_ BK286 0; have hcz4_1 : w3.cell? ⟨gb286, 1, none⟩ = some (.string a0_1) := bc_ BK286 1; have hcz4_2 : w3.cell? ⟨gb286, 2, none⟩ = some (.int .i64 a0_2) := bc_ BK286 2; have hfz4_0 := blk_frozen BK286.out 0; have hfz4_1 := blk_frozen BK286.out 1; have hfz4_2 := blk_frozen BK286.out 2) | ((with_reducible refine gate_callee (f := 39) rfl ?_); refine goesL_ (some 5) rfl rfl Tryd.func39 (by kernel_rfl) rfl #[.string a0_1] rfl (by (try simp only [List.map_toArray, List.map_cons, List.map_nil]); first | done | rfl | (simp only [List.length_drop, List.length_take]; rfl) | (have z_ : ∀ s_ : ByteArray, s_.size ≤ 9223372036854775807 → -(s_.size : Int) = wrap64 (-(s_.size : Int)) := (fun s_ h_ => by unfold wrap64; omega); rw [← z_ _ (by omega)]; rfl) | (simp only [ByteArray.size_append]; rfl)) ?_; (with_reducible refine (num_Trim.calls k a0_1 t287 _ A2.out).mono ?_); rintro e w' ⟨rfl, ⟨nd, rfl⟩⟩; refine ⟨_, rfl, ?_⟩))
  go_ret
  exact ⟨by first | rfl | (simp [errW_none, errW_some] <;> rfl) | (simp [*, errW_none, errW_some] <;> first | rfl | exact given_isEmpty _ | exact (given_isEmpty _).symm), by repeat (first | (with_reducible first | exact HB.out | apply below_alloc | apply pw_below_drewN | apply below_drew1 | refine below_set ?_ GE286.out) | exact HB.out)⟩

/-! ### dec_Cmp: function 17 -/
def dec_Cmp.f (k : Nat) (a0_0 : Bool) (a0_1 : ByteArray) (a0_2 : Int) (a1_0 : Bool) (a1_1 : ByteArray) (a1_2 : Int) : Option (Int) := (dec_Sub.f k a0_0 a0_1 a0_2 a1_0 a1_1 a1_2).bind fun bt290 => ((dec_Dec_Zero.f k bt290.1 bt290.2.1 bt290.2.2).bind fun t294 => (if t294 = true then (some 0) else (if bt290.1 = true then (some (-1)) else (some 1))))
theorem dec_Cmp.mono : ∀ a0 a1 a2 a3 a4 a5 k, LeO (dec_Cmp.f k a0 a1 a2 a3 a4 a5) (dec_Cmp.f (k + 1) a0 a1 a2 a3 a4 a5) := by
  intro a0 a1 a2 a3 a4 a5 k
  unfold dec_Cmp.f
  repeat' first
      | (with_reducible exact dec_Dec_Zero.mono _ _ _ _)
      | (with_reducible exact dec_Sub.mono _ _ _ _ _ _ _)
      | (with_reducible exact LeO.refl _)
      | (with_reducible exact LeO.none _)
      | (with_reducible refine LeO.ite ?_ ?_)
      | (with_reducible refine LeO.bind ?_ (fun _ => ?_))
      | exact dec_Dec_Zero.mono _ _ _ _
      | exact dec_Sub.mono _ _ _ _ _ _ _
      | exact LeO.none _
      | refine LeO.ite ?_ ?_
      | refine LeO.bind ?_ (fun _ => ?_)
set_option maxHeartbeats 8000000 in
set_option maxRecDepth 100000 in
theorem dec_Cmp.calls (k : Nat) (a0_0 : Bool) (a0_1 : ByteArray) (a0_2 : Int) (a1_0 : Bool) (a1_1 : ByteArray) (a1_2 : Int) (r : Int) (w : World) (h : dec_Cmp.f k a0_0 a0_1 a0_2 a1_0 a1_1 a1_2 = some r) :
    Calls Tryd.prog 17 #[.agg #[.bool a0_0, .string a0_1, .int .i64 a0_2], .agg #[.bool a1_0, .string a1_1, .int .i64 a1_2]] w fun e w' => e = .returned (.int .i64 r) ∧ Below w.heap.size w w' := by
  have hu30 := Tryd.underlying30
  have HB := Aside0.mk (Below.refl w.heap.size w)
  have H : ((dec_Sub.f k a0_0 a0_1 a0_2 a1_0 a1_1 a1_2).bind fun bt290 => ((dec_Dec_Zero.f k bt290.1 bt290.2.1 bt290.2.2).bind fun t294 => (if t294 = true then (some 0) else (if bt290.1 = true then (some (-1)) else (some 1))))) = some r := h
  clear h
  replace H := Option.bind_eq_some_iff.mp H
  obtain ⟨⟨t290, t291, t292⟩, A30, H⟩ := H
  replace H : ((dec_Dec_Zero.f k t290 t291 t292).bind fun t294 => (if t294 = true then (some 0) else (if t290 = true then (some (-1)) else (some 1)))) = some r := H
  have A3 := Aside0.mk A30
  clear A30
  replace H := Option.bind_eq_some_iff.mp H
  obtain ⟨t294, A40, H⟩ := H
  replace H : (if t294 = true then (some 0) else (if t290 = true then (some (-1)) else (some 1))) = some r := H
  have A4 := Aside0.mk A40
  clear A40
  by_cases c5 : t294 = true
  · subst c5
    have H1 : (some 0) = some r := by rw [if_pos rfl] at H; exact H
    clear H
    have H := H1
    clear H1
    obtain rfl := Option.some.inj H
    go_enter Tryd.func17, Tryd.ntmps17
    go_wp2_with (first | ((with_reducible refine gate_dst (N := 2) rfl ?_); refine box_event ?hg (N := 2) ?hd (cs := #[.bool a0_0, .string a0_1, .int .i64 a0_2]) (t := 30) ?hr ?_; (case hd => rfl); (case hg => rfl); (case hr => first | (go_simp; done) | (go_simp; rfl)); intro gb288 hg w6 hbox hb; have n0_ := Aside0.mk (below_step (bl_ HB).out hb); have n1_ := Aside0.mk (hbox); have n2_ := Aside0.mk ((by rw [hg]; exact (below_size (bl_ HB).out) : w.heap.size ≤ gb288)); have n3_ := Aside0.mk ((by rw [hg]; exact (below_size (bl_ HB).out) : w.heap.size ≤ gb288)); clear HB; have HB := n0_; have BK288 := n1_; have GW288 := n2_; have GE288 := n3_; clear n0_ n1_ n2_ n3_; clear hb hbox hg) | ((with_reducible refine gate_dst (N := 3) rfl ?_); refine box_event ?hg (N := 3) ?hd (cs := #[.bool a1_0, .string a1_1, .int .i64 a1_2]) (t := 30) ?hr ?_; (case hd => rfl); (case hg => rfl); (case hr => first | (go_simp; done) | (go_simp; rfl)); intro gb289 hg w7 hbox hb; have n0_ := bb_ BK288 hb; have n1_ := Aside0.mk (below_step (bl_ HB).out hb); have n2_ := Aside0.mk (hbox); have n3_ := Aside0.mk ((by rw [hg]; exact (below_size (bl_ HB).out) : w.heap.size ≤ gb289)); have n4_ := Aside0.mk ((by rw [hg]; exact (below_size (bl_ HB).out) : w.heap.size ≤ gb289)); have n5_ := Aside0.mk ((by rw [hg]; exact Nat.ne_of_lt (blk_lt (g := gb288) (o := .cells #[.bool a0_0, .string a0_1, .int .i64 a0_2] 30 (0, 0)) (by (with_reducible repeat (first | refine blk_drewN ?_ _ | refine blk_drew ?_ | refine blk_alloc ?_ _)); exact BK288.out)) : gb288 ≠ gb289)); have n6_ := Aside0.mk ((by rw [hg]; exact Nat.ne_of_gt (blk_lt (g := gb288) (o := .cells #[.bool a0_0, .string a0_1, .int .i64 a0_2] 30 (0, 0)) (by (with_reducible repeat (first | refine blk_drewN ?_ _ | refine blk_drew ?_ | refine blk_alloc ?_ _)); exact BK288.out)) : gb289 ≠ gb288)); clear BK288; clear HB; have BK288 := n0_; have HB := n1_; have BK289 := n2_; have GW289 := n3_; have GE289 := n4_; have NB288_289 := n5_; have NB289_288 := n6_; clear n0_ n1_ n2_ n3_ n4_ n5_ n6_; clear hb hbox hg; have hnb8 := NB288_289.out; have hnc8 := NB289_288.out; have hcz9_0 : w7.cell? ⟨gb288, 0, none⟩ = some (.bool a0_0) := bc_ BK288 0; have hcz9_1 : w7.cell? ⟨gb288, 1, none⟩ = some (.string a0_1) := bc_ BK288 1; have hcz9_2 : w7.cell? ⟨gb288, 2, none⟩ = some (.int .i64 a0_2) := bc_ BK288 2; have hfz9_0 := blk_frozen BK288.out 0; have hfz9_1 := blk_frozen BK288.out 1; have hfz9_2 := blk_frozen BK288.out 2; have hcz10_0 : w7.cell? ⟨gb289, 0, none⟩ = some (.bool a1_0) := bc_ BK289 0; have hcz10_1 : w7.cell? ⟨gb289, 1, none⟩ = some (.string a1_1) := bc_ BK289 1; have hcz10_2 : w7.cell? ⟨gb289, 2, none⟩ = some (.int .i64 a1_2) := bc_ BK289 2; have hfz10_0 := blk_frozen BK289.out 0; have hfz10_1 := blk_frozen BK289.out 1; have hfz10_2 := blk_frozen BK289.out 2) | ((with_reducible refine gate_callee (f := 15) rfl ?_); refine goesL_ (some 8) rfl rfl Tryd.func15 (by kernel_rfl) rfl #[.agg #[.bool a0_0, .string a0_1, .int .i64 a0_2], .agg #[.bool a1_0, .string a1_1, .int .i64 a1_2]] rfl (by (try simp only [List.map_toArray, List.map_cons, List.map_nil]); first | done | rfl | (simp only [List.length_drop, List.length_take]; rfl) | (have z_ : ∀ s_ : ByteArray, s_.size ≤ 9223372036854775807 → -(s_.size : Int) = wrap64 (-(s_.size : Int)) := (fun s_ h_ => by unfold wrap64; omega); rw [← z_ _ (by omega)]; rfl) | (simp only [ByteArray.size_append]; rfl)) ?_; (with_reducible refine (dec_Sub.calls k a0_0 a0_1 a0_2 a1_0 a1_1 a1_2 t290 t291 t292 _ A3.out).mono ?_); rintro e w11 ⟨rfl, hb⟩; refine ⟨_, rfl, ?_⟩; have n0_ := bb_ BK288 hb; have n1_ := bb_ BK289 hb; have n2_ := Aside0.mk (below_step (bl_ HB).out hb); clear BK288; clear BK289; clear HB; have BK288 := n0_; have BK289 := n1_; have HB := n2_; clear n0_ n1_ n2_; (try clear hb); (try clear hb2); (try clear hk); (try clear hi)) | ((with_reducible refine gate_dst (N := 5) rfl ?_); refine box_event ?hg (N := 5) ?hd (cs := #[.bool false, .string (⟨#[]⟩ : ByteArray), .int .i64 0]) (t := 30) ?hr ?_; (case hd => rfl); (case hg => rfl); (case hr => first | (go_simp; done) | (go_simp; rfl)); intro gb293 hg w12 hbox hb; have n0_ := bb_ BK288 hb; have n1_ := bb_ BK289 hb; have n2_ := Aside0.mk (below_step (bl_ HB).out hb); have n3_ := Aside0.mk (hbox); have n4_ := Aside0.mk ((by rw [hg]; exact (below_size (bl_ HB).out) : w.heap.size ≤ gb293)); have n5_ := Aside0.mk ((by rw [hg]; exact (below_size (bl_ HB).out) : w.heap.size ≤ gb293)); have n6_ := Aside0.mk ((by rw [hg]; exact Nat.ne_of_lt (blk_lt (g := gb288) (o := .cells #[.bool a0_0, .string a0_1, .int .i64 a0_2] 30 (0, 0)) (by (with_reducible repeat (first | refine blk_drewN ?_ _ | refine blk_drew ?_ | refine blk_alloc ?_ _)); exact BK288.out)) : gb288 ≠ gb293)); have n7_ := Aside0.mk ((by rw [hg]; exact Nat.ne_of_gt (blk_lt (g := gb288) (o := .cells #[.bool a0_0, .string a0_1, .int .i64 a0_2] 30 (0, 0)) (by (with_reducible repeat (first | refine blk_drewN ?_ _ | refine blk_drew ?_ | refine blk_alloc ?_ _)); exact BK288.out)) : gb293 ≠ gb288)); have n8_ := Aside0.mk ((by rw [hg]; exact Nat.ne_of_lt (blk_lt (g := gb289) (o := .cells #[.bool a1_0, .string a1_1, .int .i64 a1_2] 30 (0, 0)) (by (with_reducible repeat (first | refine blk_drewN ?_ _ | refine blk_drew ?_ | refine blk_alloc ?_ _)); exact BK289.out)) : gb289 ≠ gb293)); have n9_ := Aside0.mk ((by rw [hg]; exact Nat.ne_of_gt (blk_lt (g := gb289) (o := .cells #[.bool a1_0, .string a1_1, .int .i64 a1_2] 30 (0, 0)) (by (with_reducible repeat (first | refine blk_drewN ?_ _ | refine blk_drew ?_ | refine blk_alloc ?_ _)); exact BK289.out)) : gb293 ≠ gb289)); clear BK288; clear BK289; clear HB; have BK288 := n0_; have BK289 := n1_; have HB := n2_; have BK293 := n3_; have GW293 := n4_; have GE293 := n5_; have NB288_293 := n6_; have NB293_288 := n7_; have NB289_293 := n8_; have NB293_289 := n9_; clear n0_ n1_ n2_ n3_ n4_ n5_ n6_ n7_ n8_ n9_; clear hb hbox hg; have hnb13 := NB293_288.out; have hnc13 := NB288_293.out; have hnb14 := NB293_289.out; have hnc14 := NB289_293.out; have hcz15_0 : w12.cell? ⟨gb293, 0, none⟩ = some (.bool false) := bc_ BK293 0; have hcz15_1 : w12.cell? ⟨gb293, 1, none⟩ = some (.string (⟨#[]⟩ : ByteArray)) := bc_ BK293 1; have hcz15_2 : w12.cell? ⟨gb293, 2, none⟩ = some (.int .i64 0) := bc_ BK293 2; have hfz15_0 := blk_frozen BK293.out 0; have hfz15_1 := blk_frozen BK293.out 1; have hfz15_2 := blk_frozen BK293.out 2) | ((with_reducible refine gate_callee (f := 38) rfl ?_); refine goesL_ (some 11) rfl rfl Tryd.func38 (by kernel_rfl) rfl #[.agg #[.bool t290, .string t291, .int .i64 t292]] rfl (by (try simp only [List.map_toArray, List.map_cons, List.map_nil]); first | done | rfl | (simp only [List.length_drop, List.length_take]; rfl) | (have z_ : ∀ s_ : ByteArray, s_.size ≤ 9223372036854775807 → -(s_.size : Int) = wrap64 (-(s_.size : Int)) := (fun s_ h_ => by unfold wrap64; omega); rw [← z_ _ (by omega)]; rfl) | (simp only [ByteArray.size_append]; rfl)) ?_; (with_reducible refine (dec_Dec_Zero.calls k t290 t291 t292 true _ A4.out).mono ?_); rintro e w16 ⟨rfl, hb⟩; refine ⟨_, rfl, ?_⟩; have n0_ := Aside0.mk (blk_below (g := gb288) (o := .cells #[.bool a0_0, .string a0_1, .int .i64 a0_2] 30 (0, 0)) (by (with_reducible repeat (first | refine blk_drewN ?_ _ | refine blk_drew ?_ | refine blk_alloc ?_ _)); refine blk_far ?_ NB288_293.out _; (with_reducible repeat (first | refine blk_drewN ?_ _ | refine blk_drew ?_ | refine blk_alloc ?_ _)); refine blk_far ?_ NB288_293.out _; (with_reducible repeat (first | refine blk_drewN ?_ _ | refine blk_drew ?_ | refine blk_alloc ?_ _)); refine blk_far ?_ NB288_293.out _; (with_reducible repeat (first | refine blk_drewN ?_ _ | refine blk_drew ?_ | refine blk_alloc ?_ _)); exact BK288.out) hb); have n1_ := Aside0.mk (blk_below (g := gb289) (o := .cells #[.bool a1_0, .string a1_1, .int .i64 a1_2] 30 (0, 0)) (by (with_reducible repeat (first | refine blk_drewN ?_ _ | refine blk_drew ?_ | refine blk_alloc ?_ _)); refine blk_far ?_ NB289_293.out _; (with_reducible repeat (first | refine blk_drewN ?_ _ | refine blk_drew ?_ | refine blk_alloc ?_ _)); refine blk_far ?_ NB289_293.out _; (with_reducible repeat (first | refine blk_drewN ?_ _ | refine blk_drew ?_ | refine blk_alloc ?_ _)); refine blk_far ?_ NB289_293.out _; (with_reducible repeat (first | refine blk_drewN ?_ _ | refine blk_drew ?_ | refine blk_alloc ?_ _)); exact BK289.out) hb); have n2_ := Aside0.mk (blk_below (g := gb293) (o := .cells #[.bool t290, .string t291, .int .i64 t292] 30 (0, 0)) (by (with_reducible repeat (first | refine blk_drewN ?_ _ | refine blk_drew ?_ | refine blk_alloc ?_ _)); refine blk_put (cs := #[.bool t290, .string t291, .int .i64 0]) ?_ 2 _ rfl; (with_reducible repeat (first | refine blk_drewN ?_ _ | refine blk_drew ?_ | refine blk_alloc ?_ _)); refine blk_put (cs := #[.bool t290, .string (⟨#[]⟩ : ByteArray), .int .i64 0]) ?_ 1 _ rfl; (with_reducible repeat (first | refine blk_drewN ?_ _ | refine blk_drew ?_ | refine blk_alloc ?_ _)); refine blk_put (cs := #[.bool false, .string (⟨#[]⟩ : ByteArray), .int .i64 0]) ?_ 0 _ rfl; (with_reducible repeat (first | refine blk_drewN ?_ _ | refine blk_drew ?_ | refine blk_alloc ?_ _)); exact BK293.out) hb); have n3_ := Aside0.mk (below_step (bl_ HB).out hb); clear BK288; clear BK289; clear BK293; clear HB; have BK288 := n0_; have BK289 := n1_; have BK293 := n2_; have HB := n3_; clear n0_ n1_ n2_ n3_; (try clear hb); (try clear hb2); (try clear hk); (try clear hi)))
    go_ret
    exact ⟨by first | rfl | (simp [errW_none, errW_some] <;> rfl) | (simp [*, errW_none, errW_some] <;> first | rfl | exact given_isEmpty _ | exact (given_isEmpty _).symm), by repeat (first | (with_reducible first | exact HB.out | apply below_alloc | apply pw_below_drewN | apply below_drew1 | refine below_set ?_ GE288.out | refine below_set ?_ GE289.out | refine below_set ?_ GE293.out) | exact HB.out)⟩
  · replace c5 := Bool.eq_false_iff.mpr c5
    subst c5
    have H1 : (if t290 = true then (some (-1)) else (some 1)) = some r := by rw [if_neg (show ¬ (false = true) by decide)] at H; exact H
    clear H
    have H := H1
    clear H1
    by_cases c17 : t290 = true
    · subst c17
      have H1 : (some (-1)) = some r := by rw [if_pos rfl] at H; exact H
      clear H
      have H := H1
      clear H1
      obtain rfl := Option.some.inj H
      go_enter Tryd.func17, Tryd.ntmps17
      go_wp2_with (first | ((with_reducible refine gate_dst (N := 2) rfl ?_); refine box_event ?hg (N := 2) ?hd (cs := #[.bool a0_0, .string a0_1, .int .i64 a0_2]) (t := 30) ?hr ?_; (case hd => rfl); (case hg => rfl); (case hr => first | (go_simp; done) | (go_simp; rfl)); intro gb288 hg w18 hbox hb; have n0_ := Aside0.mk (below_step (bl_ HB).out hb); have n1_ := Aside0.mk (hbox); have n2_ := Aside0.mk ((by rw [hg]; exact (below_size (bl_ HB).out) : w.heap.size ≤ gb288)); have n3_ := Aside0.mk ((by rw [hg]; exact (below_size (bl_ HB).out) : w.heap.size ≤ gb288)); clear HB; have HB := n0_; have BK288 := n1_; have GW288 := n2_; have GE288 := n3_; clear n0_ n1_ n2_ n3_; clear hb hbox hg) | ((with_reducible refine gate_dst (N := 3) rfl ?_); refine box_event ?hg (N := 3) ?hd (cs := #[.bool a1_0, .string a1_1, .int .i64 a1_2]) (t := 30) ?hr ?_; (case hd => rfl); (case hg => rfl); (case hr => first | (go_simp; done) | (go_simp; rfl)); intro gb289 hg w19 hbox hb; have n0_ := bb_ BK288 hb; have n1_ := Aside0.mk (below_step (bl_ HB).out hb); have n2_ := Aside0.mk (hbox); have n3_ := Aside0.mk ((by rw [hg]; exact (below_size (bl_ HB).out) : w.heap.size ≤ gb289)); have n4_ := Aside0.mk ((by rw [hg]; exact (below_size (bl_ HB).out) : w.heap.size ≤ gb289)); have n5_ := Aside0.mk ((by rw [hg]; exact Nat.ne_of_lt (blk_lt (g := gb288) (o := .cells #[.bool a0_0, .string a0_1, .int .i64 a0_2] 30 (0, 0)) (by (with_reducible repeat (first | refine blk_drewN ?_ _ | refine blk_drew ?_ | refine blk_alloc ?_ _)); exact BK288.out)) : gb288 ≠ gb289)); have n6_ := Aside0.mk ((by rw [hg]; exact Nat.ne_of_gt (blk_lt (g := gb288) (o := .cells #[.bool a0_0, .string a0_1, .int .i64 a0_2] 30 (0, 0)) (by (with_reducible repeat (first | refine blk_drewN ?_ _ | refine blk_drew ?_ | refine blk_alloc ?_ _)); exact BK288.out)) : gb289 ≠ gb288)); clear BK288; clear HB; have BK288 := n0_; have HB := n1_; have BK289 := n2_; have GW289 := n3_; have GE289 := n4_; have NB288_289 := n5_; have NB289_288 := n6_; clear n0_ n1_ n2_ n3_ n4_ n5_ n6_; clear hb hbox hg; have hnb20 := NB288_289.out; have hnc20 := NB289_288.out; have hcz21_0 : w19.cell? ⟨gb288, 0, none⟩ = some (.bool a0_0) := bc_ BK288 0; have hcz21_1 : w19.cell? ⟨gb288, 1, none⟩ = some (.string a0_1) := bc_ BK288 1; have hcz21_2 : w19.cell? ⟨gb288, 2, none⟩ = some (.int .i64 a0_2) := bc_ BK288 2; have hfz21_0 := blk_frozen BK288.out 0; have hfz21_1 := blk_frozen BK288.out 1; have hfz21_2 := blk_frozen BK288.out 2; have hcz22_0 : w19.cell? ⟨gb289, 0, none⟩ = some (.bool a1_0) := bc_ BK289 0; have hcz22_1 : w19.cell? ⟨gb289, 1, none⟩ = some (.string a1_1) := bc_ BK289 1; have hcz22_2 : w19.cell? ⟨gb289, 2, none⟩ = some (.int .i64 a1_2) := bc_ BK289 2; have hfz22_0 := blk_frozen BK289.out 0; have hfz22_1 := blk_frozen BK289.out 1; have hfz22_2 := blk_frozen BK289.out 2) | ((with_reducible refine gate_callee (f := 15) rfl ?_); refine goesL_ (some 8) rfl rfl Tryd.func15 (by kernel_rfl) rfl #[.agg #[.bool a0_0, .string a0_1, .int .i64 a0_2], .agg #[.bool a1_0, .string a1_1, .int .i64 a1_2]] rfl (by (try simp only [List.map_toArray, List.map_cons, List.map_nil]); first | done | rfl | (simp only [List.length_drop, List.length_take]; rfl) | (have z_ : ∀ s_ : ByteArray, s_.size ≤ 9223372036854775807 → -(s_.size : Int) = wrap64 (-(s_.size : Int)) := (fun s_ h_ => by unfold wrap64; omega); rw [← z_ _ (by omega)]; rfl) | (simp only [ByteArray.size_append]; rfl)) ?_; (with_reducible refine (dec_Sub.calls k a0_0 a0_1 a0_2 a1_0 a1_1 a1_2 true t291 t292 _ A3.out).mono ?_); rintro e w23 ⟨rfl, hb⟩; refine ⟨_, rfl, ?_⟩; have n0_ := bb_ BK288 hb; have n1_ := bb_ BK289 hb; have n2_ := Aside0.mk (below_step (bl_ HB).out hb); clear BK288; clear BK289; clear HB; have BK288 := n0_; have BK289 := n1_; have HB := n2_; clear n0_ n1_ n2_; (try clear hb); (try clear hb2); (try clear hk); (try clear hi)) | ((with_reducible refine gate_dst (N := 5) rfl ?_); refine box_event ?hg (N := 5) ?hd (cs := #[.bool false, .string (⟨#[]⟩ : ByteArray), .int .i64 0]) (t := 30) ?hr ?_; (case hd => rfl); (case hg => rfl); (case hr => first | (go_simp; done) | (go_simp; rfl)); intro gb293 hg w24 hbox hb; have n0_ := bb_ BK288 hb; have n1_ := bb_ BK289 hb; have n2_ := Aside0.mk (below_step (bl_ HB).out hb); have n3_ := Aside0.mk (hbox); have n4_ := Aside0.mk ((by rw [hg]; exact (below_size (bl_ HB).out) : w.heap.size ≤ gb293)); have n5_ := Aside0.mk ((by rw [hg]; exact (below_size (bl_ HB).out) : w.heap.size ≤ gb293)); have n6_ := Aside0.mk ((by rw [hg]; exact Nat.ne_of_lt (blk_lt (g := gb288) (o := .cells #[.bool a0_0, .string a0_1, .int .i64 a0_2] 30 (0, 0)) (by (with_reducible repeat (first | refine blk_drewN ?_ _ | refine blk_drew ?_ | refine blk_alloc ?_ _)); exact BK288.out)) : gb288 ≠ gb293)); have n7_ := Aside0.mk ((by rw [hg]; exact Nat.ne_of_gt (blk_lt (g := gb288) (o := .cells #[.bool a0_0, .string a0_1, .int .i64 a0_2] 30 (0, 0)) (by (with_reducible repeat (first | refine blk_drewN ?_ _ | refine blk_drew ?_ | refine blk_alloc ?_ _)); exact BK288.out)) : gb293 ≠ gb288)); have n8_ := Aside0.mk ((by rw [hg]; exact Nat.ne_of_lt (blk_lt (g := gb289) (o := .cells #[.bool a1_0, .string a1_1, .int .i64 a1_2] 30 (0, 0)) (by (with_reducible repeat (first | refine blk_drewN ?_ _ | refine blk_drew ?_ | refine blk_alloc ?_ _)); exact BK289.out)) : gb289 ≠ gb293)); have n9_ := Aside0.mk ((by rw [hg]; exact Nat.ne_of_gt (blk_lt (g := gb289) (o := .cells #[.bool a1_0, .string a1_1, .int .i64 a1_2] 30 (0, 0)) (by (with_reducible repeat (first | refine blk_drewN ?_ _ | refine blk_drew ?_ | refine blk_alloc ?_ _)); exact BK289.out)) : gb293 ≠ gb289)); clear BK288; clear BK289; clear HB; have BK288 := n0_; have BK289 := n1_; have HB := n2_; have BK293 := n3_; have GW293 := n4_; have GE293 := n5_; have NB288_293 := n6_; have NB293_288 := n7_; have NB289_293 := n8_; have NB293_289 := n9_; clear n0_ n1_ n2_ n3_ n4_ n5_ n6_ n7_ n8_ n9_; clear hb hbox hg; have hnb25 := NB293_288.out; have hnc25 := NB288_293.out; have hnb26 := NB293_289.out; have hnc26 := NB289_293.out; have hcz27_0 : w24.cell? ⟨gb293, 0, none⟩ = some (.bool false) := bc_ BK293 0; have hcz27_1 : w24.cell? ⟨gb293, 1, none⟩ = some (.string (⟨#[]⟩ : ByteArray)) := bc_ BK293 1; have hcz27_2 : w24.cell? ⟨gb293, 2, none⟩ = some (.int .i64 0) := bc_ BK293 2; have hfz27_0 := blk_frozen BK293.out 0; have hfz27_1 := blk_frozen BK293.out 1; have hfz27_2 := blk_frozen BK293.out 2) | ((with_reducible refine gate_callee (f := 38) rfl ?_); refine goesL_ (some 11) rfl rfl Tryd.func38 (by kernel_rfl) rfl #[.agg #[.bool true, .string t291, .int .i64 t292]] rfl (by (try simp only [List.map_toArray, List.map_cons, List.map_nil]); first | done | rfl | (simp only [List.length_drop, List.length_take]; rfl) | (have z_ : ∀ s_ : ByteArray, s_.size ≤ 9223372036854775807 → -(s_.size : Int) = wrap64 (-(s_.size : Int)) := (fun s_ h_ => by unfold wrap64; omega); rw [← z_ _ (by omega)]; rfl) | (simp only [ByteArray.size_append]; rfl)) ?_; (with_reducible refine (dec_Dec_Zero.calls k true t291 t292 false _ A4.out).mono ?_); rintro e w28 ⟨rfl, hb⟩; refine ⟨_, rfl, ?_⟩; have n0_ := Aside0.mk (blk_below (g := gb288) (o := .cells #[.bool a0_0, .string a0_1, .int .i64 a0_2] 30 (0, 0)) (by (with_reducible repeat (first | refine blk_drewN ?_ _ | refine blk_drew ?_ | refine blk_alloc ?_ _)); refine blk_far ?_ NB288_293.out _; (with_reducible repeat (first | refine blk_drewN ?_ _ | refine blk_drew ?_ | refine blk_alloc ?_ _)); refine blk_far ?_ NB288_293.out _; (with_reducible repeat (first | refine blk_drewN ?_ _ | refine blk_drew ?_ | refine blk_alloc ?_ _)); refine blk_far ?_ NB288_293.out _; (with_reducible repeat (first | refine blk_drewN ?_ _ | refine blk_drew ?_ | refine blk_alloc ?_ _)); exact BK288.out) hb); have n1_ := Aside0.mk (blk_below (g := gb289) (o := .cells #[.bool a1_0, .string a1_1, .int .i64 a1_2] 30 (0, 0)) (by (with_reducible repeat (first | refine blk_drewN ?_ _ | refine blk_drew ?_ | refine blk_alloc ?_ _)); refine blk_far ?_ NB289_293.out _; (with_reducible repeat (first | refine blk_drewN ?_ _ | refine blk_drew ?_ | refine blk_alloc ?_ _)); refine blk_far ?_ NB289_293.out _; (with_reducible repeat (first | refine blk_drewN ?_ _ | refine blk_drew ?_ | refine blk_alloc ?_ _)); refine blk_far ?_ NB289_293.out _; (with_reducible repeat (first | refine blk_drewN ?_ _ | refine blk_drew ?_ | refine blk_alloc ?_ _)); exact BK289.out) hb); have n2_ := Aside0.mk (blk_below (g := gb293) (o := .cells #[.bool true, .string t291, .int .i64 t292] 30 (0, 0)) (by (with_reducible repeat (first | refine blk_drewN ?_ _ | refine blk_drew ?_ | refine blk_alloc ?_ _)); refine blk_put (cs := #[.bool true, .string t291, .int .i64 0]) ?_ 2 _ rfl; (with_reducible repeat (first | refine blk_drewN ?_ _ | refine blk_drew ?_ | refine blk_alloc ?_ _)); refine blk_put (cs := #[.bool true, .string (⟨#[]⟩ : ByteArray), .int .i64 0]) ?_ 1 _ rfl; (with_reducible repeat (first | refine blk_drewN ?_ _ | refine blk_drew ?_ | refine blk_alloc ?_ _)); refine blk_put (cs := #[.bool false, .string (⟨#[]⟩ : ByteArray), .int .i64 0]) ?_ 0 _ rfl; (with_reducible repeat (first | refine blk_drewN ?_ _ | refine blk_drew ?_ | refine blk_alloc ?_ _)); exact BK293.out) hb); have n3_ := Aside0.mk (below_step (bl_ HB).out hb); clear BK288; clear BK289; clear BK293; clear HB; have BK288 := n0_; have BK289 := n1_; have BK293 := n2_; have HB := n3_; clear n0_ n1_ n2_ n3_; (try clear hb); (try clear hb2); (try clear hk); (try clear hi); have hcz29_0 : w28.cell? ⟨gb293, 0, none⟩ = some (.bool true) := bc_ BK293 0; have hcz29_1 : w28.cell? ⟨gb293, 1, none⟩ = some (.string t291) := bc_ BK293 1; have hcz29_2 : w28.cell? ⟨gb293, 2, none⟩ = some (.int .i64 t292) := bc_ BK293 2; have hfz29_0 := blk_frozen BK293.out 0; have hfz29_1 := blk_frozen BK293.out 1; have hfz29_2 := blk_frozen BK293.out 2))
      go_ret
      exact ⟨by first | rfl | (simp [errW_none, errW_some] <;> rfl) | (simp [*, errW_none, errW_some] <;> first | rfl | exact given_isEmpty _ | exact (given_isEmpty _).symm), by repeat (first | (with_reducible first | exact HB.out | apply below_alloc | apply pw_below_drewN | apply below_drew1 | refine below_set ?_ GE288.out | refine below_set ?_ GE289.out | refine below_set ?_ GE293.out) | exact HB.out)⟩
    · replace c17 := Bool.eq_false_iff.mpr c17
      subst c17
      have H1 : (some 1) = some r := by rw [if_neg (show ¬ (false = true) by decide)] at H; exact H
      clear H
      have H := H1
      clear H1
      obtain rfl := Option.some.inj H
      go_enter Tryd.func17, Tryd.ntmps17
      go_wp2_with (first | ((with_reducible refine gate_dst (N := 2) rfl ?_); refine box_event ?hg (N := 2) ?hd (cs := #[.bool a0_0, .string a0_1, .int .i64 a0_2]) (t := 30) ?hr ?_; (case hd => rfl); (case hg => rfl); (case hr => first | (go_simp; done) | (go_simp; rfl)); intro gb288 hg w30 hbox hb; have n0_ := Aside0.mk (below_step (bl_ HB).out hb); have n1_ := Aside0.mk (hbox); have n2_ := Aside0.mk ((by rw [hg]; exact (below_size (bl_ HB).out) : w.heap.size ≤ gb288)); have n3_ := Aside0.mk ((by rw [hg]; exact (below_size (bl_ HB).out) : w.heap.size ≤ gb288)); clear HB; have HB := n0_; have BK288 := n1_; have GW288 := n2_; have GE288 := n3_; clear n0_ n1_ n2_ n3_; clear hb hbox hg) | ((with_reducible refine gate_dst (N := 3) rfl ?_); refine box_event ?hg (N := 3) ?hd (cs := #[.bool a1_0, .string a1_1, .int .i64 a1_2]) (t := 30) ?hr ?_; (case hd => rfl); (case hg => rfl); (case hr => first | (go_simp; done) | (go_simp; rfl)); intro gb289 hg w31 hbox hb; have n0_ := bb_ BK288 hb; have n1_ := Aside0.mk (below_step (bl_ HB).out hb); have n2_ := Aside0.mk (hbox); have n3_ := Aside0.mk ((by rw [hg]; exact (below_size (bl_ HB).out) : w.heap.size ≤ gb289)); have n4_ := Aside0.mk ((by rw [hg]; exact (below_size (bl_ HB).out) : w.heap.size ≤ gb289)); have n5_ := Aside0.mk ((by rw [hg]; exact Nat.ne_of_lt (blk_lt (g := gb288) (o := .cells #[.bool a0_0, .string a0_1, .int .i64 a0_2] 30 (0, 0)) (by (with_reducible repeat (first | refine blk_drewN ?_ _ | refine blk_drew ?_ | refine blk_alloc ?_ _)); exact BK288.out)) : gb288 ≠ gb289)); have n6_ := Aside0.mk ((by rw [hg]; exact Nat.ne_of_gt (blk_lt (g := gb288) (o := .cells #[.bool a0_0, .string a0_1, .int .i64 a0_2] 30 (0, 0)) (by (with_reducible repeat (first | refine blk_drewN ?_ _ | refine blk_drew ?_ | refine blk_alloc ?_ _)); exact BK288.out)) : gb289 ≠ gb288)); clear BK288; clear HB; have BK288 := n0_; have HB := n1_; have BK289 := n2_; have GW289 := n3_; have GE289 := n4_; have NB288_289 := n5_; have NB289_288 := n6_; clear n0_ n1_ n2_ n3_ n4_ n5_ n6_; clear hb hbox hg; have hnb32 := NB288_289.out; have hnc32 := NB289_288.out; have hcz33_0 : w31.cell? ⟨gb288, 0, none⟩ = some (.bool a0_0) := bc_ BK288 0; have hcz33_1 : w31.cell? ⟨gb288, 1, none⟩ = some (.string a0_1) := bc_ BK288 1; have hcz33_2 : w31.cell? ⟨gb288, 2, none⟩ = some (.int .i64 a0_2) := bc_ BK288 2; have hfz33_0 := blk_frozen BK288.out 0; have hfz33_1 := blk_frozen BK288.out 1; have hfz33_2 := blk_frozen BK288.out 2; have hcz34_0 : w31.cell? ⟨gb289, 0, none⟩ = some (.bool a1_0) := bc_ BK289 0; have hcz34_1 : w31.cell? ⟨gb289, 1, none⟩ = some (.string a1_1) := bc_ BK289 1; have hcz34_2 : w31.cell? ⟨gb289, 2, none⟩ = some (.int .i64 a1_2) := bc_ BK289 2; have hfz34_0 := blk_frozen BK289.out 0; have hfz34_1 := blk_frozen BK289.out 1; have hfz34_2 := blk_frozen BK289.out 2) | ((with_reducible refine gate_callee (f := 15) rfl ?_); refine goesL_ (some 8) rfl rfl Tryd.func15 (by kernel_rfl) rfl #[.agg #[.bool a0_0, .string a0_1, .int .i64 a0_2], .agg #[.bool a1_0, .string a1_1, .int .i64 a1_2]] rfl (by (try simp only [List.map_toArray, List.map_cons, List.map_nil]); first | done | rfl | (simp only [List.length_drop, List.length_take]; rfl) | (have z_ : ∀ s_ : ByteArray, s_.size ≤ 9223372036854775807 → -(s_.size : Int) = wrap64 (-(s_.size : Int)) := (fun s_ h_ => by unfold wrap64; omega); rw [← z_ _ (by omega)]; rfl) | (simp only [ByteArray.size_append]; rfl)) ?_; (with_reducible refine (dec_Sub.calls k a0_0 a0_1 a0_2 a1_0 a1_1 a1_2 false t291 t292 _ A3.out).mono ?_); rintro e w35 ⟨rfl, hb⟩; refine ⟨_, rfl, ?_⟩; have n0_ := bb_ BK288 hb; have n1_ := bb_ BK289 hb; have n2_ := Aside0.mk (below_step (bl_ HB).out hb); clear BK288; clear BK289; clear HB; have BK288 := n0_; have BK289 := n1_; have HB := n2_; clear n0_ n1_ n2_; (try clear hb); (try clear hb2); (try clear hk); (try clear hi)) | ((with_reducible refine gate_dst (N := 5) rfl ?_); refine box_event ?hg (N := 5) ?hd (cs := #[.bool false, .string (⟨#[]⟩ : ByteArray), .int .i64 0]) (t := 30) ?hr ?_; (case hd => rfl); (case hg => rfl); (case hr => first | (go_simp; done) | (go_simp; rfl)); intro gb293 hg w36 hbox hb; have n0_ := bb_ BK288 hb; have n1_ := bb_ BK289 hb; have n2_ := Aside0.mk (below_step (bl_ HB).out hb); have n3_ := Aside0.mk (hbox); have n4_ := Aside0.mk ((by rw [hg]; exact (below_size (bl_ HB).out) : w.heap.size ≤ gb293)); have n5_ := Aside0.mk ((by rw [hg]; exact (below_size (bl_ HB).out) : w.heap.size ≤ gb293)); have n6_ := Aside0.mk ((by rw [hg]; exact Nat.ne_of_lt (blk_lt (g := gb288) (o := .cells #[.bool a0_0, .string a0_1, .int .i64 a0_2] 30 (0, 0)) (by (with_reducible repeat (first | refine blk_drewN ?_ _ | refine blk_drew ?_ | refine blk_alloc ?_ _)); exact BK288.out)) : gb288 ≠ gb293)); have n7_ := Aside0.mk ((by rw [hg]; exact Nat.ne_of_gt (blk_lt (g := gb288) (o := .cells #[.bool a0_0, .string a0_1, .int .i64 a0_2] 30 (0, 0)) (by (with_reducible repeat (first | refine blk_drewN ?_ _ | refine blk_drew ?_ | refine blk_alloc ?_ _)); exact BK288.out)) : gb293 ≠ gb288)); have n8_ := Aside0.mk ((by rw [hg]; exact Nat.ne_of_lt (blk_lt (g := gb289) (o := .cells #[.bool a1_0, .string a1_1, .int .i64 a1_2] 30 (0, 0)) (by (with_reducible repeat (first | refine blk_drewN ?_ _ | refine blk_drew ?_ | refine blk_alloc ?_ _)); exact BK289.out)) : gb289 ≠ gb293)); have n9_ := Aside0.mk ((by rw [hg]; exact Nat.ne_of_gt (blk_lt (g := gb289) (o := .cells #[.bool a1_0, .string a1_1, .int .i64 a1_2] 30 (0, 0)) (by (with_reducible repeat (first | refine blk_drewN ?_ _ | refine blk_drew ?_ | refine blk_alloc ?_ _)); exact BK289.out)) : gb293 ≠ gb289)); clear BK288; clear BK289; clear HB; have BK288 := n0_; have BK289 := n1_; have HB := n2_; have BK293 := n3_; have GW293 := n4_; have GE293 := n5_; have NB288_293 := n6_; have NB293_288 := n7_; have NB289_293 := n8_; have NB293_289 := n9_; clear n0_ n1_ n2_ n3_ n4_ n5_ n6_ n7_ n8_ n9_; clear hb hbox hg; have hnb37 := NB293_288.out; have hnc37 := NB288_293.out; have hnb38 := NB293_289.out; have hnc38 := NB289_293.out; have hcz39_0 : w36.cell? ⟨gb293, 0, none⟩ = some (.bool false) := bc_ BK293 0; have hcz39_1 : w36.cell? ⟨gb293, 1, none⟩ = some (.string (⟨#[]⟩ : ByteArray)) := bc_ BK293 1; have hcz39_2 : w36.cell? ⟨gb293, 2, none⟩ = some (.int .i64 0) := bc_ BK293 2; have hfz39_0 := blk_frozen BK293.out 0; have hfz39_1 := blk_frozen BK293.out 1; have hfz39_2 := blk_frozen BK293.out 2) | ((with_reducible refine gate_callee (f := 38) rfl ?_); refine goesL_ (some 11) rfl rfl Tryd.func38 (by kernel_rfl) rfl #[.agg #[.bool false, .string t291, .int .i64 t292]] rfl (by (try simp only [List.map_toArray, List.map_cons, List.map_nil]); first | done | rfl | (simp only [List.length_drop, List.length_take]; rfl) | (have z_ : ∀ s_ : ByteArray, s_.size ≤ 9223372036854775807 → -(s_.size : Int) = wrap64 (-(s_.size : Int)) := (fun s_ h_ => by unfold wrap64; omega); rw [← z_ _ (by omega)]; rfl) | (simp only [ByteArray.size_append]; rfl)) ?_; (with_reducible refine (dec_Dec_Zero.calls k false t291 t292 false _ A4.out).mono ?_); rintro e w40 ⟨rfl, hb⟩; refine ⟨_, rfl, ?_⟩; have n0_ := Aside0.mk (blk_below (g := gb288) (o := .cells #[.bool a0_0, .string a0_1, .int .i64 a0_2] 30 (0, 0)) (by (with_reducible repeat (first | refine blk_drewN ?_ _ | refine blk_drew ?_ | refine blk_alloc ?_ _)); refine blk_far ?_ NB288_293.out _; (with_reducible repeat (first | refine blk_drewN ?_ _ | refine blk_drew ?_ | refine blk_alloc ?_ _)); refine blk_far ?_ NB288_293.out _; (with_reducible repeat (first | refine blk_drewN ?_ _ | refine blk_drew ?_ | refine blk_alloc ?_ _)); refine blk_far ?_ NB288_293.out _; (with_reducible repeat (first | refine blk_drewN ?_ _ | refine blk_drew ?_ | refine blk_alloc ?_ _)); exact BK288.out) hb); have n1_ := Aside0.mk (blk_below (g := gb289) (o := .cells #[.bool a1_0, .string a1_1, .int .i64 a1_2] 30 (0, 0)) (by (with_reducible repeat (first | refine blk_drewN ?_ _ | refine blk_drew ?_ | refine blk_alloc ?_ _)); refine blk_far ?_ NB289_293.out _; (with_reducible repeat (first | refine blk_drewN ?_ _ | refine blk_drew ?_ | refine blk_alloc ?_ _)); refine blk_far ?_ NB289_293.out _; (with_reducible repeat (first | refine blk_drewN ?_ _ | refine blk_drew ?_ | refine blk_alloc ?_ _)); refine blk_far ?_ NB289_293.out _; (with_reducible repeat (first | refine blk_drewN ?_ _ | refine blk_drew ?_ | refine blk_alloc ?_ _)); exact BK289.out) hb); have n2_ := Aside0.mk (blk_below (g := gb293) (o := .cells #[.bool false, .string t291, .int .i64 t292] 30 (0, 0)) (by (with_reducible repeat (first | refine blk_drewN ?_ _ | refine blk_drew ?_ | refine blk_alloc ?_ _)); refine blk_put (cs := #[.bool false, .string t291, .int .i64 0]) ?_ 2 _ rfl; (with_reducible repeat (first | refine blk_drewN ?_ _ | refine blk_drew ?_ | refine blk_alloc ?_ _)); refine blk_put (cs := #[.bool false, .string (⟨#[]⟩ : ByteArray), .int .i64 0]) ?_ 1 _ rfl; (with_reducible repeat (first | refine blk_drewN ?_ _ | refine blk_drew ?_ | refine blk_alloc ?_ _)); refine blk_put (cs := #[.bool false, .string (⟨#[]⟩ : ByteArray), .int .i64 0]) ?_ 0 _ rfl; (with_reducible repeat (first | refine blk_drewN ?_ _ | refine blk_drew ?_ | refine blk_alloc ?_ _)); exact BK293.out) hb); have n3_ := Aside0.mk (below_step (bl_ HB).out hb); clear BK288; clear BK289; clear BK293; clear HB; have BK288 := n0_; have BK289 := n1_; have BK293 := n2_; have HB := n3_; clear n0_ n1_ n2_ n3_; (try clear hb); (try clear hb2); (try clear hk); (try clear hi); have hcz41_0 : w40.cell? ⟨gb293, 0, none⟩ = some (.bool false) := bc_ BK293 0; have hcz41_1 : w40.cell? ⟨gb293, 1, none⟩ = some (.string t291) := bc_ BK293 1; have hcz41_2 : w40.cell? ⟨gb293, 2, none⟩ = some (.int .i64 t292) := bc_ BK293 2; have hfz41_0 := blk_frozen BK293.out 0; have hfz41_1 := blk_frozen BK293.out 1; have hfz41_2 := blk_frozen BK293.out 2))
      go_ret
      exact ⟨by first | rfl | (simp [errW_none, errW_some] <;> rfl) | (simp [*, errW_none, errW_some] <;> first | rfl | exact given_isEmpty _ | exact (given_isEmpty _).symm), by repeat (first | (with_reducible first | exact HB.out | apply below_alloc | apply pw_below_drewN | apply below_drew1 | refine below_set ?_ GE288.out | refine below_set ?_ GE289.out | refine below_set ?_ GE293.out) | exact HB.out)⟩

/-! ### florinlaw03_twice: function 18 -/
def florinlaw03_twice.f (k : Nat) (a0_0 : Bool) (a0_1 : ByteArray) (a0_2 : Int) : Option (Bool × ByteArray × Int) := (dec_Add.f k a0_0 a0_1 a0_2 a0_0 a0_1 a0_2).bind fun bt297 => (some (bt297.1, bt297.2.1, bt297.2.2))
theorem florinlaw03_twice.mono : ∀ a0 a1 a2 k, LeO (florinlaw03_twice.f k a0 a1 a2) (florinlaw03_twice.f (k + 1) a0 a1 a2) := by
  intro a0 a1 a2 k
  unfold florinlaw03_twice.f
  repeat' first
      | (with_reducible exact dec_Add.mono _ _ _ _ _ _ _)
      | (with_reducible exact LeO.refl _)
      | (with_reducible exact LeO.none _)
      | (with_reducible refine LeO.ite ?_ ?_)
      | (with_reducible refine LeO.bind ?_ (fun _ => ?_))
      | exact dec_Add.mono _ _ _ _ _ _ _
      | exact LeO.none _
      | refine LeO.ite ?_ ?_
      | refine LeO.bind ?_ (fun _ => ?_)
set_option maxHeartbeats 8000000 in
set_option maxRecDepth 100000 in
theorem florinlaw03_twice.calls (k : Nat) (a0_0 : Bool) (a0_1 : ByteArray) (a0_2 : Int) (r1 : Bool) (r2 : ByteArray) (r3 : Int) (w : World) (h : florinlaw03_twice.f k a0_0 a0_1 a0_2 = some (r1, r2, r3)) :
    Calls Tryd.prog 18 #[.agg #[.bool a0_0, .string a0_1, .int .i64 a0_2]] w fun e w' => e = .returned (.agg #[.bool r1, .string r2, .int .i64 r3]) ∧ Below w.heap.size w w' := by
  have hu30 := Tryd.underlying30
  have HB := Aside0.mk (Below.refl w.heap.size w)
  have H : ((dec_Add.f k a0_0 a0_1 a0_2 a0_0 a0_1 a0_2).bind fun bt297 => (some (bt297.1, bt297.2.1, bt297.2.2))) = some (r1, r2, r3) := h
  clear h
  replace H := Option.bind_eq_some_iff.mp H
  obtain ⟨⟨t297, t298, t299⟩, A20, H⟩ := H
  replace H : (some (t297, t298, t299)) = some (r1, r2, r3) := H
  have A2 := Aside0.mk A20
  clear A20
  simp only [Option.some.injEq, Prod.mk.injEq] at H
  obtain ⟨rfl, rfl, rfl⟩ := H
  go_enter Tryd.func18, Tryd.ntmps18
  go_wp2_with (first | ((with_reducible refine gate_dst (N := 1) rfl ?_); refine box_event ?hg (N := 1) ?hd (cs := #[.bool a0_0, .string a0_1, .int .i64 a0_2]) (t := 30) ?hr ?_; (case hd => rfl); (case hg => rfl); (case hr => first | (go_simp; done) | (go_simp; rfl)); intro gb295 hg w3 hbox hb; have n0_ := Aside0.mk (below_step (bl_ HB).out hb); have n1_ := Aside0.mk (hbox); have n2_ := Aside0.mk ((by rw [hg]; exact (below_size (bl_ HB).out) : w.heap.size ≤ gb295)); have n3_ := Aside0.mk ((by rw [hg]; exact (below_size (bl_ HB).out) : w.heap.size ≤ gb295)); clear HB; have HB := n0_; have BK295 := n1_; have GW295 := n2_; have GE295 := n3_; clear n0_ n1_ n2_ n3_; clear hb hbox hg) | ((with_reducible refine gate_dst (N := 2) rfl ?_); refine box_event ?hg (N := 2) ?hd (cs := #[.bool false, .string (⟨#[]⟩ : ByteArray), .int .i64 0]) (t := 30) ?hr ?_; (case hd => rfl); (case hg => rfl); (case hr => first | (go_simp; done) | (go_simp; rfl)); intro gb296 hg w4 hbox hb; have n0_ := bb_ BK295 hb; have n1_ := Aside0.mk (below_step (bl_ HB).out hb); have n2_ := Aside0.mk (hbox); have n3_ := Aside0.mk ((by rw [hg]; exact (below_size (bl_ HB).out) : w.heap.size ≤ gb296)); have n4_ := Aside0.mk ((by rw [hg]; exact (below_size (bl_ HB).out) : w.heap.size ≤ gb296)); have n5_ := Aside0.mk ((by rw [hg]; exact Nat.ne_of_lt (blk_lt (g := gb295) (o := .cells #[.bool a0_0, .string a0_1, .int .i64 a0_2] 30 (0, 0)) (by (with_reducible repeat (first | refine blk_drewN ?_ _ | refine blk_drew ?_ | refine blk_alloc ?_ _)); exact BK295.out)) : gb295 ≠ gb296)); have n6_ := Aside0.mk ((by rw [hg]; exact Nat.ne_of_gt (blk_lt (g := gb295) (o := .cells #[.bool a0_0, .string a0_1, .int .i64 a0_2] 30 (0, 0)) (by (with_reducible repeat (first | refine blk_drewN ?_ _ | refine blk_drew ?_ | refine blk_alloc ?_ _)); exact BK295.out)) : gb296 ≠ gb295)); clear BK295; clear HB; have BK295 := n0_; have HB := n1_; have BK296 := n2_; have GW296 := n3_; have GE296 := n4_; have NB295_296 := n5_; have NB296_295 := n6_; clear n0_ n1_ n2_ n3_ n4_ n5_ n6_; clear hb hbox hg; have hnb5 := NB295_296.out; have hnc5 := NB296_295.out; have hcz6_0 : w4.cell? ⟨gb295, 0, none⟩ = some (.bool a0_0) := bc_ BK295 0; have hcz6_1 : w4.cell? ⟨gb295, 1, none⟩ = some (.string a0_1) := bc_ BK295 1; have hcz6_2 : w4.cell? ⟨gb295, 2, none⟩ = some (.int .i64 a0_2) := bc_ BK295 2; have hfz6_0 := blk_frozen BK295.out 0; have hfz6_1 := blk_frozen BK295.out 1; have hfz6_2 := blk_frozen BK295.out 2) | ((with_reducible refine gate_callee (f := 37) rfl ?_); refine goesL_ (some 5) rfl rfl Tryd.func37 (by kernel_rfl) rfl #[.agg #[.bool a0_0, .string a0_1, .int .i64 a0_2], .agg #[.bool a0_0, .string a0_1, .int .i64 a0_2]] rfl (by (try simp only [List.map_toArray, List.map_cons, List.map_nil]); first | done | rfl | (simp only [List.length_drop, List.length_take]; rfl) | (have z_ : ∀ s_ : ByteArray, s_.size ≤ 9223372036854775807 → -(s_.size : Int) = wrap64 (-(s_.size : Int)) := (fun s_ h_ => by unfold wrap64; omega); rw [← z_ _ (by omega)]; rfl) | (simp only [ByteArray.size_append]; rfl)) ?_; (with_reducible refine (dec_Add.calls k a0_0 a0_1 a0_2 a0_0 a0_1 a0_2 t297 t298 t299 _ A2.out).mono ?_); rintro e w7 ⟨rfl, hb⟩; refine ⟨_, rfl, ?_⟩; have n0_ := bb_ BK295 hb; have n1_ := bb_ BK296 hb; have n2_ := Aside0.mk (below_step (bl_ HB).out hb); clear BK295; clear BK296; clear HB; have BK295 := n0_; have BK296 := n1_; have HB := n2_; clear n0_ n1_ n2_; (try clear hb); (try clear hb2); (try clear hk); (try clear hi); have hcz8_0 : w7.cell? ⟨gb296, 0, none⟩ = some (.bool false) := bc_ BK296 0; have hcz8_1 : w7.cell? ⟨gb296, 1, none⟩ = some (.string (⟨#[]⟩ : ByteArray)) := bc_ BK296 1; have hcz8_2 : w7.cell? ⟨gb296, 2, none⟩ = some (.int .i64 0) := bc_ BK296 2; have hfz8_0 := blk_frozen BK296.out 0; have hfz8_1 := blk_frozen BK296.out 1; have hfz8_2 := blk_frozen BK296.out 2))
  refine bodyPost_ret (results_cell_row rfl _ _ gb296 30 #[.bool t297, .string t298, .int .i64 t299] (0, 0) _ rfl (by (with_reducible repeat (first | refine blk_drewN ?_ _ | refine blk_drew ?_ | refine blk_alloc ?_ _)); refine blk_put (cs := #[.bool t297, .string t298, .int .i64 0]) ?_ 2 _ rfl; (with_reducible repeat (first | refine blk_drewN ?_ _ | refine blk_drew ?_ | refine blk_alloc ?_ _)); refine blk_put (cs := #[.bool t297, .string (⟨#[]⟩ : ByteArray), .int .i64 0]) ?_ 1 _ rfl; (with_reducible repeat (first | refine blk_drewN ?_ _ | refine blk_drew ?_ | refine blk_alloc ?_ _)); refine blk_put (cs := #[.bool false, .string (⟨#[]⟩ : ByteArray), .int .i64 0]) ?_ 0 _ rfl; (with_reducible repeat (first | refine blk_drewN ?_ _ | refine blk_drew ?_ | refine blk_alloc ?_ _)); exact BK296.out) Tryd.underlying30 rfl (by kernel_rfl)) rfl ?_
  exact ⟨by first | rfl | (simp [errW_none, errW_some] <;> rfl) | (simp [*, errW_none, errW_some] <;> first | rfl | exact given_isEmpty _ | exact (given_isEmpty _).symm), by repeat (first | (with_reducible first | exact HB.out | apply below_alloc | apply pw_below_drewN | apply below_drew1 | refine below_set ?_ GE295.out | refine below_set ?_ GE296.out) | exact HB.out)⟩

/-! ### florinlaw03_unit: function 19 -/
def florinlaw03_unit.f (k : Nat) (a0 : Int) : Option (Bool × ByteArray × Int) := (dec_Made.f k false (⟨#[49]⟩ : ByteArray) a0).bind fun bt301 => (some (bt301.1, bt301.2.1, bt301.2.2))
theorem florinlaw03_unit.mono : ∀ a0 k, LeO (florinlaw03_unit.f k a0) (florinlaw03_unit.f (k + 1) a0) := by
  intro a0 k
  unfold florinlaw03_unit.f
  repeat' first
      | (with_reducible exact dec_Made.mono _ _ _ _)
      | (with_reducible exact LeO.refl _)
      | (with_reducible exact LeO.none _)
      | (with_reducible refine LeO.ite ?_ ?_)
      | (with_reducible refine LeO.bind ?_ (fun _ => ?_))
      | exact dec_Made.mono _ _ _ _
      | exact LeO.none _
      | refine LeO.ite ?_ ?_
      | refine LeO.bind ?_ (fun _ => ?_)
set_option maxHeartbeats 8000000 in
set_option maxRecDepth 100000 in
theorem florinlaw03_unit.calls (k : Nat) (a0 : Int) (r1 : Bool) (r2 : ByteArray) (r3 : Int) (w : World) (h : florinlaw03_unit.f k a0 = some (r1, r2, r3)) :
    Calls Tryd.prog 19 #[.int .i64 a0] w fun e w' => e = .returned (.agg #[.bool r1, .string r2, .int .i64 r3]) ∧ Below w.heap.size w w' := by
  have hu30 := Tryd.underlying30
  have HB := Aside0.mk (Below.refl w.heap.size w)
  have H : ((dec_Made.f k false (⟨#[49]⟩ : ByteArray) a0).bind fun bt301 => (some (bt301.1, bt301.2.1, bt301.2.2))) = some (r1, r2, r3) := h
  clear h
  replace H := Option.bind_eq_some_iff.mp H
  obtain ⟨⟨t301, t302, t303⟩, A20, H⟩ := H
  replace H : (some (t301, t302, t303)) = some (r1, r2, r3) := H
  have A2 := Aside0.mk A20
  clear A20
  simp only [Option.some.injEq, Prod.mk.injEq] at H
  obtain ⟨rfl, rfl, rfl⟩ := H
  go_enter Tryd.func19, Tryd.ntmps19
  go_wp2_with (first | ((with_reducible refine gate_dst (N := 2) rfl ?_); refine box_event ?hg (N := 2) ?hd (cs := #[.bool false, .string (⟨#[]⟩ : ByteArray), .int .i64 0]) (t := 30) ?hr ?_; (case hd => rfl); (case hg => rfl); (case hr => first | (go_simp; done) | (go_simp; rfl)); intro gb300 hg w3 hbox hb; have n0_ := Aside0.mk (below_step (bl_ HB).out hb); have n1_ := Aside0.mk (hbox); have n2_ := Aside0.mk ((by rw [hg]; exact (below_size (bl_ HB).out) : w.heap.size ≤ gb300)); have n3_ := Aside0.mk ((by rw [hg]; exact (below_size (bl_ HB).out) : w.heap.size ≤ gb300)); clear HB; have HB := n0_; have BK300 := n1_; have GW300 := n2_; have GE300 := n3_; clear n0_ n1_ n2_ n3_; clear hb hbox hg) | ((with_reducible refine gate_callee (f := 23) rfl ?_); refine goesL_ (some 4) rfl rfl Tryd.func23 (by kernel_rfl) rfl #[.bool false, .string (⟨#[49]⟩ : ByteArray), .int .i64 a0] rfl (by (try simp only [List.map_toArray, List.map_cons, List.map_nil]); first | done | rfl | (simp only [List.length_drop, List.length_take]; rfl) | (have z_ : ∀ s_ : ByteArray, s_.size ≤ 9223372036854775807 → -(s_.size : Int) = wrap64 (-(s_.size : Int)) := (fun s_ h_ => by unfold wrap64; omega); rw [← z_ _ (by omega)]; rfl) | (simp only [ByteArray.size_append]; rfl)) ?_; (with_reducible refine (dec_Made.calls k false (⟨#[49]⟩ : ByteArray) a0 t301 t302 t303 _ A2.out).mono ?_); rintro e w4 ⟨rfl, hb⟩; refine ⟨_, rfl, ?_⟩; have n0_ := bb_ BK300 hb; have n1_ := Aside0.mk (below_step (bl_ HB).out hb); clear BK300; clear HB; have BK300 := n0_; have HB := n1_; clear n0_ n1_; (try clear hb); (try clear hb2); (try clear hk); (try clear hi); have hcz5_0 : w4.cell? ⟨gb300, 0, none⟩ = some (.bool false) := bc_ BK300 0; have hcz5_1 : w4.cell? ⟨gb300, 1, none⟩ = some (.string (⟨#[]⟩ : ByteArray)) := bc_ BK300 1; have hcz5_2 : w4.cell? ⟨gb300, 2, none⟩ = some (.int .i64 0) := bc_ BK300 2; have hfz5_0 := blk_frozen BK300.out 0; have hfz5_1 := blk_frozen BK300.out 1; have hfz5_2 := blk_frozen BK300.out 2))
  refine bodyPost_ret (results_cell_row rfl _ _ gb300 30 #[.bool t301, .string t302, .int .i64 t303] (0, 0) _ rfl (by (with_reducible repeat (first | refine blk_drewN ?_ _ | refine blk_drew ?_ | refine blk_alloc ?_ _)); refine blk_put (cs := #[.bool t301, .string t302, .int .i64 0]) ?_ 2 _ rfl; (with_reducible repeat (first | refine blk_drewN ?_ _ | refine blk_drew ?_ | refine blk_alloc ?_ _)); refine blk_put (cs := #[.bool t301, .string (⟨#[]⟩ : ByteArray), .int .i64 0]) ?_ 1 _ rfl; (with_reducible repeat (first | refine blk_drewN ?_ _ | refine blk_drew ?_ | refine blk_alloc ?_ _)); refine blk_put (cs := #[.bool false, .string (⟨#[]⟩ : ByteArray), .int .i64 0]) ?_ 0 _ rfl; (with_reducible repeat (first | refine blk_drewN ?_ _ | refine blk_drew ?_ | refine blk_alloc ?_ _)); exact BK300.out) Tryd.underlying30 rfl (by kernel_rfl)) rfl ?_
  exact ⟨by first | rfl | (simp [errW_none, errW_some] <;> rfl) | (simp [*, errW_none, errW_some] <;> first | rfl | exact given_isEmpty _ | exact (given_isEmpty _).symm), by repeat (first | (with_reducible first | exact HB.out | apply below_alloc | apply pw_below_drewN | apply below_drew1 | refine below_set ?_ GE300.out) | exact HB.out)⟩

/-! ### florinlaw03_turned: function 21 -/
def florinlaw03_turned.f (a0 : Int) : Option (Int) := if a0 = 5 then (some 6) else (if a0 = 6 then (some 5) else (some a0))
set_option maxHeartbeats 8000000 in
set_option maxRecDepth 100000 in
theorem florinlaw03_turned.calls (a0 : Int) (r : Int) (w : World) (h : florinlaw03_turned.f a0 = some r) :
    Calls Tryd.prog 21 #[.int .i64 a0] w fun e w' => e = .returned (.int .i64 r) ∧ Drawn0 w w' := by
  have H : (if a0 = 5 then (some 6) else (if a0 = 6 then (some 5) else (some a0))) = some r := h
  clear h
  by_cases c2 : a0 = 5
  · rw [if_pos c2] at H
    have c2b0 : (a0 == 5) = true := beq_iff_eq.mpr c2
    have c2b1 : (a0 != 5) = false := bne_eq_false_iff_eq.mpr c2
    clear c2
    obtain rfl := Option.some.inj H
    go_enter Tryd.func21, Tryd.ntmps21
    go_wp2
    go_ret
    exact ⟨by first | rfl | (simp; done) | (simp [*]; done) | (simp; first | exact given_isEmpty _ | exact (given_isEmpty _).symm) | (unfold wrap64; omega) | (congr 1; unfold wrap64; omega), by repeat (first | exact Drawn0.refl _ | apply Drawn0.step)⟩
  · rw [if_neg c2] at H
    have c2b0 : (a0 == 5) = false := beq_eq_false_iff_ne.mpr c2
    have c2b1 : (a0 != 5) = true := bne_iff_ne.mpr c2
    by_cases c3 : a0 = 6
    · rw [if_pos c3] at H
      have c3b0 : (a0 == 6) = true := beq_iff_eq.mpr c3
      have c3b1 : (a0 != 6) = false := bne_eq_false_iff_eq.mpr c3
      clear c3
      obtain rfl := Option.some.inj H
      go_enter Tryd.func21, Tryd.ntmps21
      go_wp2
      go_ret
      exact ⟨by first | rfl | (simp; done) | (simp [*]; done) | (simp; first | exact given_isEmpty _ | exact (given_isEmpty _).symm) | (unfold wrap64; omega) | (congr 1; unfold wrap64; omega), by repeat (first | exact Drawn0.refl _ | apply Drawn0.step)⟩
    · rw [if_neg c3] at H
      have c3b0 : (a0 == 6) = false := beq_eq_false_iff_ne.mpr c3
      have c3b1 : (a0 != 6) = true := bne_iff_ne.mpr c3
      obtain rfl := Option.some.inj H
      go_enter Tryd.func21, Tryd.ntmps21
      go_wp2
      go_ret
      exact ⟨by first | rfl | (simp; done) | (simp [*]; done) | (simp; first | exact given_isEmpty _ | exact (given_isEmpty _).symm) | (unfold wrap64; omega) | (congr 1; unfold wrap64; omega), by repeat (first | exact Drawn0.refl _ | apply Drawn0.step)⟩

end Go.Proofs.YtoegmienlhgjnaaDoor.P
