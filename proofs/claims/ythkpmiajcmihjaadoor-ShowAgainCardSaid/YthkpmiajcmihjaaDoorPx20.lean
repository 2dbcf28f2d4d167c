-- written by a program of this session (wip/p2)
import Derived.Test.YthkpmiajcmihjaaDoorPx0
import Derived.Test.YthkpmiajcmihjaaDoorPx3
import Derived.Test.YthkpmiajcmihjaaDoorPx4
namespace Go.Proofs.YthkpmiajcmihjaaDoor.P
open Go.RowKit Go.Proofs.YthkpmiajcmihjaaDoorW.PrintWords Go.Proofs.YthkpmiajcmihjaaDoorW.PrintLast Go.Proofs.YthkpmiajcmihjaaDoorW.PrintMore
attribute [local go_sem] max2_int min2_int max_two min_two max_three min_three max_four min_four   -- for this text's walks alone
set_option linter.unusedVariables false
set_option linter.unusedSimpArgs false

/-! ### dec_both: function 82 -/
def dec_both.f (a0_0 : Bool) (a0_1 : ByteArray) (a0_2 : Int) (a1_0 : Bool) (a1_1 : ByteArray) (a1_2 : Int) : Option (ByteArray × ByteArray × Int) := (num_Zeros.f (wrap64 (a0_2 - (mn a0_2 a1_2)))).bind fun t473 => (if a0_1.size + t473.size ≤ 9223372036854775807 then ((num_Zeros.f (wrap64 (a1_2 - (mn a0_2 a1_2)))).bind fun t474 => (if a1_1.size + t474.size ≤ 9223372036854775807 then (some (a0_1 ++ t473, a1_1 ++ t474, mn a0_2 a1_2)) else (none))) else (none))
def dec_both.T2 : Bool × List (List Nat × List Nat) := (true, [([], []), ([0], [0]), ([], []), ([2], [2]), ([], []), ([3, 4], [3, 4]), ([5], [5]), ([1, 6], [1, 6]), ([], []), ([8], [8]), ([], []), ([10], [10]), ([], []), ([11, 12], [11, 12]), ([13, 6], [13]), ([9, 14], [9, 14]), ([], []), ([7, 14, 0, 1, 2, 3, 4, 5, 6, 7], [7]), ([15, 17, 0, 1, 2, 3, 4, 5, 6, 7, 8, 9, 10, 11, 12, 13, 14, 15, 17], [15]), ([16, 18, 0, 1, 2, 3, 4, 5, 6, 7, 8, 9, 10, 11, 12, 13, 14, 15, 16, 17, 18], [16])])
def dec_both.B2 : List Nat := [0, 1, 0, 4, 0, 28, 60, 127, 0, 256, 0, 1024, 0, 7168, 15484, 32636, 0, 31999, 196607, 524287]
theorem dec_both.tab2 : rtab .any (opsOf Tryd.f82 2) = dec_both.T2 := by kernel_rfl
theorem dec_both.bits2 : waitsOk dec_both.T2.2 dec_both.B2 = true := by kernel_rfl
set_option maxHeartbeats 8000000 in
set_option maxRecDepth 100000 in
theorem dec_both.calls (a0_0 : Bool) (a0_1 : ByteArray) (a0_2 : Int) (a1_0 : Bool) (a1_1 : ByteArray) (a1_2 : Int) (r1 : ByteArray) (r2 : ByteArray) (r3 : Int) (w : World) (h : dec_both.f a0_0 a0_1 a0_2 a1_0 a1_1 a1_2 = some (r1, r2, r3)) :
    Calls Tryd.prog 82 #[.agg #[.bool a0_0, .string a0_1, .int .i64 a0_2], .agg #[.bool a1_0, .string a1_1, .int .i64 a1_2]] w fun e w' => e = .returned (.tuple #[.string r1, .string r2, .int .i64 r3]) ∧ Below w.heap.size w w' := by
  have hu29 := Tryd.underlying29
  have HB := Aside0.mk (Below.refl w.heap.size w)
  have H : ((num_Zeros.f (wrap64 (a0_2 - (mn a0_2 a1_2)))).bind fun t473 => (if a0_1.size + t473.size ≤ 9223372036854775807 then ((num_Zeros.f (wrap64 (a1_2 - (mn a0_2 a1_2)))).bind fun t474 => (if a1_1.size + t474.size ≤ 9223372036854775807 then (some (a0_1 ++ t473, a1_1 ++ t474, mn a0_2 a1_2)) else (none))) else (none))) = some (r1, r2, r3) := h
  clear h
  obtain ⟨ji3, hji3⟩ : ∃ j_ : Int, (mn a0_2 a1_2) = j_ := ⟨_, rfl⟩
  replace H : ((num_Zeros.f (wrap64 (a0_2 - (ji3)))).bind fun t473 => (if a0_1.size + t473.size ≤ 9223372036854775807 then ((num_Zeros.f (wrap64 (a1_2 - (ji3)))).bind fun t474 => (if a1_1.size + t474.size ≤ 9223372036854775807 then (some (a0_1 ++ t473, a1_1 ++ t474, ji3)) else (none))) else (none))) = some (r1, r2, r3) := by first | (rw [hji3] at H; exact H) | (simp only [hji3] at H ⊢; exact H)
  have hji3_ : (if a1_2 < a0_2 then a1_2 else a0_2) = ji3 := hji3
  replace H := Option.bind_eq_some_iff.mp H
  obtain ⟨t473, A40, H⟩ := H
  replace H : (if a0_1.size + t473.size ≤ 9223372036854775807 then ((num_Zeros.f (wrap64 (a1_2 - (ji3)))).bind fun t474 => (if a1_1.size + t474.size ≤ 9223372036854775807 then (some (a0_1 ++ t473, a1_1 ++ t474, ji3)) else (none))) else (none)) = some (r1, r2, r3) := H
  have A4 := Aside0.mk A40
  clear A40
  by_cases c5 : a0_1.size + t473.size ≤ 9223372036854775807
  · rw [if_pos c5] at H
    have c5b0 := eq_true c5
    have c5b1 : decide (a0_1.size + t473.size ≤ 9223372036854775807) = true := decide_eq_true c5
    try have c5b2 : (9223372036854775807 < a0_1.size + t473.size) = False := eq_false (Nat.not_lt.2 c5)
    replace H := Option.bind_eq_some_iff.mp H
    obtain ⟨t474, A60, H⟩ := H
    replace H : (if a1_1.size + t474.size ≤ 9223372036854775807 then (some (a0_1 ++ t473, a1_1 ++ t474, ji3)) else (none)) = some (r1, r2, r3) := H
    have A6 := Aside0.mk A60
    clear A60
    by_cases c7 : a1_1.size + t474.size ≤ 9223372036854775807
    · rw [if_pos c7] at H
      have c7b0 := eq_true c7
      have c7b1 : decide (a1_1.size + t474.size ≤ 9223372036854775807) = true := decide_eq_true c7
      try have c7b2 : (9223372036854775807 < a1_1.size + t474.size) = False := eq_false (Nat.not_lt.2 c7)
      simp only [Option.some.injEq, Prod.mk.injEq] at H
      obtain ⟨rfl, rfl, rfl⟩ := H
      go_enter Tryd.func82, Tryd.ntmps82
      try go_wp2_with (first | ((with_reducible refine gate_dst (N := 2) rfl ?_); refine be_ 2 #[.bool a0_0, .string a0_1, .int .i64 a0_2] 29 ?_; intro gb471 hg w8 hbox hb; have BK471 := Aside0.mk (hbox); have GW471 := sz_ HB hg; have GE471 := sz_ HB hg; replace HB := Aside0.mk (below_step (bl_ HB).out hb); clear hb hbox hg) | ((with_reducible refine gate_dst (N := 3) rfl ?_); refine be_ 3 #[.bool a1_0, .string a1_1, .int .i64 a1_2] 29 ?_; intro gb472 hg w9 hbox hb; have BK472 := Aside0.mk (hbox); have GW472 := sz_ HB hg; have GE472 := sz_ HB hg; have NB471_472 := na_ BK471 hg; have NB472_471 := nb_ BK471 hg; replace BK471 := bb_ BK471 hb; replace HB := Aside0.mk (below_step (bl_ HB).out hb); clear hb hbox hg; have hnb10 := NB471_472.out; have hnc10 := NB472_471.out; obtain ⟨hcz11_0, hcz11_1, hcz11_2, hfz11_0, hfz11_1, hfz11_2⟩ := bo3_ BK471; obtain ⟨hcz12_0, hcz12_1, hcz12_2, hfz12_0, hfz12_1, hfz12_2⟩ := bo3_ BK472))
      replace BK471 := Aside0.mk (blk_drew BK471.out)
      replace BK472 := Aside0.mk (blk_drew BK472.out)
      replace HB := Aside0.mk (below_drew1 HB.out)
      refine start_ (n := 20) (S := fun w' => w'.cell? ⟨gb471, 0, none⟩ = some (.bool a0_0) ∧ w'.cell? ⟨gb471, 1, none⟩ = some (.string a0_1) ∧ w'.cell? ⟨gb471, 2, none⟩ = some (.int .i64 a0_2) ∧ w'.cell? ⟨gb472, 0, none⟩ = some (.bool a1_0) ∧ w'.cell? ⟨gb472, 1, none⟩ = some (.string a1_1) ∧ w'.cell? ⟨gb472, 2, none⟩ = some (.int .i64 a1_2)) (ds := []) #[false, false, false, false, false, false, false, false, false, false, false, false, false, false, false, false, false, false, false, false] (by kernel_rfl) rfl rfl ⟨bc_ BK471 0, bc_ BK471 1, bc_ BK471 2, bc_ BK472 0, bc_ BK472 1, bc_ BK472 2⟩ (fun hHeld => ?_); refine with_tabW dec_both.tab2 dec_both.bits2 (fun HT_ HW_ => ?_)
      generalize w9.drew = w13 at BK471 BK472 HB hHeld ⊢
      refine pu_ 0 13 (bm_ 20 1) HT_ ?_
      refine pu_ 2 15 (bm_ 20 5) HT_ ?_
      refine pu_ 4 17 (bm_ 20 21) HT_ ?_
      refine pu_ 8 21 (bm_ 20 277) HT_ ?_
      refine pu_ 10 23 (bm_ 20 1301) HT_ ?_
      refine pu_ 12 25 (bm_ 20 5397) HT_ ?_
      refine pu_ 16 29 (bm_ 20 70933) HT_ ?_
      refine tk_ 1 14 (bm_ 20 70935) HT_ HW_ hHeld rfl (by rintro w' ⟨s0, s1, s2, s3, s4, s5⟩; go_simp; with_reducible rfl) ?_
      refine tk_ 3 16 (bm_ 20 70943) HT_ HW_ hHeld rfl (by rintro w' ⟨s0, s1, s2, s3, s4, s5⟩; go_simp; with_reducible rfl) ?_
      refine pu_ 5 18 (bm_ 20 70975) HT_ ?_
      refine tk_ 9 22 (bm_ 20 71487) HT_ HW_ hHeld rfl (by rintro w' ⟨s0, s1, s2, s3, s4, s5⟩; go_simp; with_reducible rfl) ?_
      refine tk_ 11 24 (bm_ 20 73535) HT_ HW_ hHeld rfl (by rintro w' ⟨s0, s1, s2, s3, s4, s5⟩; go_simp; with_reducible rfl) ?_
      refine pu_ 13 26 (bm_ 20 81727) HT_ ?_
      refine one_ (i := 6) (N := some 19) (bm_ 20 81791) rfl rfl (one_of HT_.out (by kernel_rfl)) (by decide) (fun K hK => ?_)
      refine goes_ Tryd.func33 (by kernel_rfl) rfl #[.int .i64 (wrap64 (a0_2 - (ji3)))] (by rfl) rfl rfl (by (try simp only [List.map_toArray, List.map_cons, List.map_nil]); first | done | (simp only [hji3]; rfl) | rfl | (simp only [List.length_drop, List.length_take]; rfl) | (have z_ : ∀ s_ : ByteArray, s_.size ≤ 9223372036854775807 → -(s_.size : Int) = wrap64 (-(s_.size : Int)) := (fun s_ h_ => by unfold wrap64; omega); rw [← z_ _ (by omega)]; rfl) | (simp only [ByteArray.size_append]; rfl)) ?_
      with_reducible refine (num_Zeros.calls (wrap64 (a0_2 - (ji3))) t473 _ A4.out).mono ?_
      rintro e w14 ⟨rfl, hb⟩
      refine ⟨_, rfl, ?_⟩
      replace BK471 := bb_ BK471 hb
      replace BK472 := bb_ BK472 hb
      replace HB := Aside0.mk (below_step (bl_ HB).out hb)
      (try clear hb)
      (try clear hb2)
      (try clear hk)
      (try clear hi)
      refine hK.out _ _ ⟨bc_ BK471 0, bc_ BK471 1, bc_ BK471 2, bc_ BK472 0, bc_ BK472 1, bc_ BK472 2⟩ (fun hHeld => ?_)
      clear hK K
      refine nm_ 19 ?_
      refine pu_ 7 20 (bm_ 20 81919) HT_ ?_
      refine one_ (i := 14) (N := some 27) (bm_ 20 98303) rfl rfl (one_of HT_.out (by kernel_rfl)) (by decide) (fun K hK => ?_)
      refine goes_ Tryd.func33 (by kernel_rfl) rfl #[.int .i64 (wrap64 (a1_2 - (ji3)))] (by rfl) rfl rfl (by (try simp only [List.map_toArray, List.map_cons, List.map_nil]); first | done | (simp only [hji3]; rfl) | rfl | (simp only [List.length_drop, List.length_take]; rfl) | (have z_ : ∀ s_ : ByteArray, s_.size ≤ 9223372036854775807 → -(s_.size : Int) = wrap64 (-(s_.size : Int)) := (fun s_ h_ => by unfold wrap64; omega); rw [← z_ _ (by omega)]; rfl) | (simp only [ByteArray.size_append]; rfl)) ?_
      with_reducible refine (num_Zeros.calls (wrap64 (a1_2 - (ji3))) t474 _ A6.out).mono ?_
      rintro e w15 ⟨rfl, hb⟩
      refine ⟨_, rfl, ?_⟩
      replace BK471 := bb_ BK471 hb
      replace BK472 := bb_ BK472 hb
      replace HB := Aside0.mk (below_step (bl_ HB).out hb)
      (try clear hb)
      (try clear hb2)
      (try clear hk)
      (try clear hi)
      refine hK.out _ _ ⟨bc_ BK471 0, bc_ BK471 1, bc_ BK471 2, bc_ BK472 0, bc_ BK472 1, bc_ BK472 2⟩ (fun hHeld => ?_)
      clear hK K
      refine nm_ 27 ?_
      refine pu_ 15 28 (bm_ 20 131071) HT_ ?_
      refine pu_ 17 4 (bm_ 20 262143) HT_ ?_
      refine pu_ 18 5 (bm_ 20 524287) HT_ ?_
      refine pu_ 19 6 (bm_ 20 1048575) HT_ ?_
      refine done_ (done_of HT_.out (by kernel_rfl)) ?_
      try go_wp2
      go_ret3
      exact ⟨by first | rfl | (simp [errW_none, errW_some] <;> rfl) | (simp only [← hji3]; first | rfl | (simp [errW_none, errW_some] <;> rfl)) | (simp [*, errW_none, errW_some] <;> first | rfl | exact given_isEmpty _ | exact (given_isEmpty _).symm), by repeat (first | (with_reducible first | exact HB.out | apply below_alloc | apply pw_below_drewN | apply below_drew1 | refine below_set ?_ GE471.out | refine below_set ?_ GE472.out) | exact HB.out)⟩
    · rw [if_neg c7] at H
      exact absurd H (by simp)
  · rw [if_neg c5] at H
    exact absurd H (by simp)

/-! ### cmp_Compare_int: function 98 -/
def cmp_Compare_int.f (a b : Int) : Option Int := some (Lib.compareInt a b)
theorem cmp_Compare_int.calls (a0 a1 : Int) (r : Int) (w : World) (h : cmp_Compare_int.f a0 a1 = some r) :
    Calls Tryd.prog 98 #[.int .i64 a0, .int .i64 a1] w fun e w' => e = .returned (.int .i64 r) ∧ Drawn0 w w' := by
  obtain rfl := Option.some.inj h
  refine (Tryd.cmp_Compare_int a0 a1 w).mono ?_
  rintro e w' ⟨rfl, rfl⟩
  exact ⟨rfl, Drawn0.refl _⟩

/-! ### strings_Compare: function 99 -/
def strings_Compare.f (a b : ByteArray) : Option Int := some (Lib.compareBytes a.data.toList b.data.toList)
theorem strings_Compare.calls (a0 a1 : ByteArray) (r : Int) (w : World) (h : strings_Compare.f a0 a1 = some r) :
    Calls Tryd.prog 99 #[.string a0, .string a1] w fun e w' => e = .returned (.int .i64 r) ∧ Drawn0 w w' := by
  obtain rfl := Option.some.inj h
  refine (Tryd.strings_Compare a0 a1 w).mono ?_
  rintro e w' ⟨rfl, rfl⟩
  exact ⟨rfl, Drawn0.refl _⟩

/-! ### num_Cmp: function 93 -/
def num_Cmp.f (k : Nat) (a0 : ByteArray) (a1 : ByteArray) : Option (Int) := (num_all.f k (([a0, a1] : List ByteArray))).bind fun t478 => (if t478 = true then ((num_Trim.f k a0).bind fun t479 => ((num_Trim.f k a1).bind fun t480 => (if (t479.size : Int) = (t480.size : Int) then ((strings_Compare.f t479 t480).bind fun t481 => (some t481)) else ((cmp_Compare_int.f (t479.size : Int) (t480.size : Int)).bind fun t482 => (some t482))))) else (some 0))
theorem num_Cmp.mono : ∀ a0 a1 k, LeO (num_Cmp.f k a0 a1) (num_Cmp.f (k + 1) a0 a1) := by
  intro a0 a1 k
  unfold num_Cmp.f
  repeat' first
      | (with_reducible exact num_Trim.mono _ _)
      | (with_reducible exact num_all.mono _ _)
      | (with_reducible exact LeO.refl _)
      | (with_reducible exact LeO.none _)
      | (with_reducible refine LeO.ite ?_ ?_)
      | (with_reducible refine LeO.bind ?_ (fun _ => ?_))
      | exact num_Trim.mono _ _
      | exact num_all.mono _ _
      | exact LeO.none _
      | refine LeO.ite ?_ ?_
      | refine LeO.bind ?_ (fun _ => ?_)
set_option maxHeartbeats 8000000 in
set_option maxRecDepth 100000 in
theorem num_Cmp.calls (k : Nat) (a0 : ByteArray) (a1 : ByteArray) (r : Int) (w : World) (h : num_Cmp.f k a0 a1 = some r) :
    Calls Tryd.prog 93 #[.string a0, .string a1] w fun e w' => e = .returned (.int .i64 r) ∧ Below w.heap.size w w' := by
  have HB := Aside0.mk (Below.refl w.heap.size w)
  have H : ((num_all.f k (([a0, a1] : List ByteArray))).bind fun t478 => (if t478 = true then ((num_Trim.f k a0).bind fun t479 => ((num_Trim.f k a1).bind fun t480 => (if (t479.size : Int) = (t480.size : Int) then ((strings_Compare.f t479 t480).bind fun t481 => (some t481)) else ((cmp_Compare_int.f (t479.size : Int) (t480.size : Int)).bind fun t482 => (some t482))))) else (some 0))) = some r := h
  clear h
  obtain ⟨y475, hy475⟩ : ∃ y_ : List ByteArray, y_ = (([a0, a1] : List ByteArray)) := ⟨_, rfl⟩
  replace H : ((num_all.f k y475).bind fun t478 => (if t478 = true then ((num_Trim.f k a0).bind fun t479 => ((num_Trim.f k a1).bind fun t480 => (if (t479.size : Int) = (t480.size : Int) then ((strings_Compare.f t479 t480).bind fun t481 => (some t481)) else ((cmp_Compare_int.f (t479.size : Int) (t480.size : Int)).bind fun t482 => (some t482))))) else (some 0))) = some r := by first | (rw [hy475]; with_reducible exact H) | (have H2_ := (Option.bind_some _ _).symm.trans H; rw [hy475]; with_reducible exact H2_) | (have H2_ := (Option.bind_some _ _).symm.trans H; with_reducible exact H2_) | with_reducible exact H | (rw [hy475]; exact H) | exact H
  have Ny475 := Aside0.mk hy475
  clear hy475
  replace H := Option.bind_eq_some_iff.mp H
  obtain ⟨t478, A30, H⟩ := H
  replace H : (if t478 = true then ((num_Trim.f k a0).bind fun t479 => ((num_Trim.f k a1).bind fun t480 => (if (t479.size : Int) = (t480.size : Int) then ((strings_Compare.f t479 t480).bind fun t481 => (some t481)) else ((cmp_Compare_int.f (t479.size : Int) (t480.size : Int)).bind fun t482 => (some t482))))) else (some 0)) = some r := H
  have A3 := Aside0.mk A30
  clear A30
  by_cases c4 : t478 = true
  · subst c4
    have H1 : ((num_Trim.f k a0).bind fun t479 => ((num_Trim.f k a1).bind fun t480 => (if (t479.size : Int) = (t480.size : Int) then ((strings_Compare.f t479 t480).bind fun t481 => (some t481)) else ((cmp_Compare_int.f (t479.size : Int) (t480.size : Int)).bind fun t482 => (some t482))))) = some r := by rw [if_pos rfl] at H; exact H
    clear H
    have H := H1
    clear H1
    replace H := Option.bind_eq_some_iff.mp H
    obtain ⟨t479, A50, H⟩ := H
    replace H : ((num_Trim.f k a1).bind fun t480 => (if (t479.size : Int) = (t480.size : Int) then ((strings_Compare.f t479 t480).bind fun t481 => (some t481)) else ((cmp_Compare_int.f (t479.size : Int) (t480.size : Int)).bind fun t482 => (some t482)))) = some r := H
    have A5 := Aside0.mk A50
    clear A50
    replace H := Option.bind_eq_some_iff.mp H
    obtain ⟨t480, A60, H⟩ := H
    replace H : (if (t479.size : Int) = (t480.size : Int) then ((strings_Compare.f t479 t480).bind fun t481 => (some t481)) else ((cmp_Compare_int.f (t479.size : Int) (t480.size : Int)).bind fun t482 => (some t482))) = some r := H
    have A6 := Aside0.mk A60
    clear A60
    by_cases c7 : (t479.size : Int) = (t480.size : Int)
    · rw [if_pos c7] at H
      have c7b0 : ((t479.size : Int) == (t480.size : Int)) = true := beq_iff_eq.mpr c7
      have c7b1 : ((t479.size : Int) != (t480.size : Int)) = false := bne_eq_false_iff_eq.mpr c7
      have c7b2 : (t479.size == t480.size) = true := by first | simpa using c7 | (simp at c7 ⊢; omega)
      clear c7
      replace H := Option.bind_eq_some_iff.mp H
      obtain ⟨t481, A80, H⟩ := H
      replace H : (some t481) = some r := H
      have A8 := Aside0.mk A80
      clear A80
      obtain rfl := Option.some.inj H
      go_enter Tryd.func93, Tryd.ntmps93
      go_wp2_with (first | ((with_reducible refine gate_dst (N := 7) rfl ?_); refine Kd.R_lit Kd.string _ 9 ?hg (N := 7) ?hd (xs := ([a0, a1] : List ByteArray)) (inner := [.string a0, .string a1]) (ok := fun _ => True) (okp := fun _ => True) ?hr ?hp (fun _ hk => hk) trivial (Below.refl _ _) (Nat.le_refl _) (by simp) ?_; (case hd => rfl); (case hg => rfl); (case hr => first | (go_simp; done) | (go_simp; rfl)); (case hp => exact (Reps.one (show Kd.M Kd.string _ _ _ a0 [.string a0] from rfl) (Reps.one (show Kd.M Kd.string _ _ _ a1 [.string a1] from rfl) (Reps.none _ _)))); intro v476 w9 ho10 hb hg_ hnew_; clear hg_ hnew_; (first | rw [← Ny475.out] at ho10 | (simp only [Int.reduceToNat] at ho10; rw [← Ny475.out] at ho10)); have HO477 := Aside0.mk (Kd.R_lower ho10 (below_size (bl_ HB).out)); replace HB := Aside0.mk (below_step (bl_ HB).out hb); clear hb ho10; obtain ⟨Ao11, co11, eo11⟩ := Kd.R_slice HO477.out; subst eo11) | ((with_reducible refine gate_callee (f := 90) rfl ?_); refine gl_ (some 8) Tryd.func90 #[.slice Ao11 y475.length co11] ?_; (with_reducible refine (num_all.calls k _ _ y475 true _ ?side1 ?side2 A3.out).mono ?_); (case side1 => repeat (first | exact (Kd.R_reads' HO477.out).2.2 | (with_reducible refine Kd.C_alloc ?_ _) | (with_reducible refine Kd.C_drewN ?_ _) | (with_reducible refine Kd.C_drew ?_))); (case side2 => exact (Kd.R_reads' HO477.out).2.1); rintro e w' ⟨rfl, ⟨nd, rfl⟩⟩; refine ⟨_, rfl, ?_⟩) | ((with_reducible refine gate_callee (f := 18) rfl ?_); refine gl_ (some 11) Tryd.func18 #[.string a0] ?_; (with_reducible refine (num_Trim.calls k a0 t479 _ A5.out).mono ?_); rintro e w' ⟨rfl, ⟨nd, rfl⟩⟩; refine ⟨_, rfl, ?_⟩) | ((with_reducible refine gate_callee (f := 18) rfl ?_); refine gl_ (some 13) Tryd.func18 #[.string a1] ?_; (with_reducible refine (num_Trim.calls k a1 t480 _ A6.out).mono ?_); rintro e w' ⟨rfl, ⟨nd, rfl⟩⟩; refine ⟨_, rfl, ?_⟩) | ((with_reducible refine gate_callee (f := 99) rfl ?_); refine gl_ (some 26) Tryd.func99 #[.string t479, .string t480] ?_; (with_reducible refine (strings_Compare.calls t479 t480 t481 _ A8.out).mono ?_); rintro e w' ⟨rfl, ⟨nd, rfl⟩⟩; refine ⟨_, rfl, ?_⟩))
      go_ret
      exact ⟨ew_, (bl_ HB).out⟩
    · rw [if_neg c7] at H
      have c7b0 : ((t479.size : Int) == (t480.size : Int)) = false := beq_eq_false_iff_ne.mpr c7
      have c7b1 : ((t479.size : Int) != (t480.size : Int)) = true := bne_iff_ne.mpr c7
      have c7b2 : (t479.size == t480.size) = false := by first | simpa using c7 | (simp at c7 ⊢; omega)
      replace H := Option.bind_eq_some_iff.mp H
      obtain ⟨t482, A120, H⟩ := H
      replace H : (some t482) = some r := H
      have A12 := Aside0.mk A120
      clear A120
      obtain rfl := Option.some.inj H
      go_enter Tryd.func93, Tryd.ntmps93
      go_wp2_with (first | ((with_reducible refine gate_dst (N := 7) rfl ?_); refine Kd.R_lit Kd.string _ 9 ?hg (N := 7) ?hd (xs := ([a0, a1] : List ByteArray)) (inner := [.string a0, .string a1]) (ok := fun _ => True) (okp := fun _ => True) ?hr ?hp (fun _ hk => hk) trivial (Below.refl _ _) (Nat.le_refl _) (by simp) ?_; (case hd => rfl); (case hg => rfl); (case hr => first | (go_simp; done) | (go_simp; rfl)); (case hp => exact (Reps.one (show Kd.M Kd.string _ _ _ a0 [.string a0] from rfl) (Reps.one (show Kd.M Kd.string _ _ _ a1 [.string a1] from rfl) (Reps.none _ _)))); intro v476 w13 ho14 hb hg_ hnew_; clear hg_ hnew_; (first | rw [← Ny475.out] at ho14 | (simp only [Int.reduceToNat] at ho14; rw [← Ny475.out] at ho14)); have HO477 := Aside0.mk (Kd.R_lower ho14 (below_size (bl_ HB).out)); replace HB := Aside0.mk (below_step (bl_ HB).out hb); clear hb ho14; obtain ⟨Ao15, co15, eo15⟩ := Kd.R_slice HO477.out; subst eo15) | ((with_reducible refine gate_callee (f := 90) rfl ?_); refine gl_ (some 8) Tryd.func90 #[.slice Ao15 y475.length co15] ?_; (with_reducible refine (num_all.calls k _ _ y475 true _ ?side1 ?side2 A3.out).mono ?_); (case side1 => repeat (first | exact (Kd.R_reads' HO477.out).2.2 | (with_reducible refine Kd.C_alloc ?_ _) | (with_reducible refine Kd.C_drewN ?_ _) | (with_reducible refine Kd.C_drew ?_))); (case side2 => exact (Kd.R_reads' HO477.out).2.1); rintro e w' ⟨rfl, ⟨nd, rfl⟩⟩; refine ⟨_, rfl, ?_⟩) | ((with_reducible refine gate_callee (f := 18) rfl ?_); refine gl_ (some 11) Tryd.func18 #[.string a0] ?_; (with_reducible refine (num_Trim.calls k a0 t479 _ A5.out).mono ?_); rintro e w' ⟨rfl, ⟨nd, rfl⟩⟩; refine ⟨_, rfl, ?_⟩) | ((with_reducible refine gate_callee (f := 18) rfl ?_); refine gl_ (some 13) Tryd.func18 #[.string a1] ?_; (with_reducible refine (num_Trim.calls k a1 t480 _ A6.out).mono ?_); rintro e w' ⟨rfl, ⟨nd, rfl⟩⟩; refine ⟨_, rfl, ?_⟩) | ((with_reducible refine gate_callee (f := 98) rfl ?_); refine gl_ (some 23) Tryd.func98 #[.int .i64 (t479.size : Int), .int .i64 (t480.size : Int)] ?_; (with_reducible refine (cmp_Compare_int.calls (t479.size : Int) (t480.size : Int) t482 _ A12.out).mono ?_); rintro e w' ⟨rfl, ⟨nd, rfl⟩⟩; refine ⟨_, rfl, ?_⟩))
      go_ret
      exact ⟨ew_, (bl_ HB).out⟩
  · replace c4 := Bool.eq_false_iff.mpr c4
    subst c4
    have H1 : (some 0) = some r := by rw [if_neg (show ¬ (false = true) by decide)] at H; exact H
    clear H
    have H := H1
    clear H1
    obtain rfl := Option.some.inj H
    go_enter Tryd.func93, Tryd.ntmps93
    go_wp2_with (first | ((with_reducible refine gate_dst (N := 7) rfl ?_); refine Kd.R_lit Kd.string _ 9 ?hg (N := 7) ?hd (xs := ([a0, a1] : List ByteArray)) (inner := [.string a0, .string a1]) (ok := fun _ => True) (okp := fun _ => True) ?hr ?hp (fun _ hk => hk) trivial (Below.refl _ _) (Nat.le_refl _) (by simp) ?_; (case hd => rfl); (case hg => rfl); (case hr => first | (go_simp; done) | (go_simp; rfl)); (case hp => exact (Reps.one (show Kd.M Kd.string _ _ _ a0 [.string a0] from rfl) (Reps.one (show Kd.M Kd.string _ _ _ a1 [.string a1] from rfl) (Reps.none _ _)))); intro v476 w16 ho17 hb hg_ hnew_; clear hg_ hnew_; (first | rw [← Ny475.out] at ho17 | (simp only [Int.reduceToNat] at ho17; rw [← Ny475.out] at ho17)); have HO477 := Aside0.mk (Kd.R_lower ho17 (below_size (bl_ HB).out)); replace HB := Aside0.mk (below_step (bl_ HB).out hb); clear hb ho17; obtain ⟨Ao18, co18, eo18⟩ := Kd.R_slice HO477.out; subst eo18) | ((with_reducible refine gate_callee (f := 90) rfl ?_); refine gl_ (some 8) Tryd.func90 #[.slice Ao18 y475.length co18] ?_; (with_reducible refine (num_all.calls k _ _ y475 false _ ?side1 ?side2 A3.out).mono ?_); (case side1 => repeat (first | exact (Kd.R_reads' HO477.out).2.2 | (with_reducible refine Kd.C_alloc ?_ _) | (with_reducible refine Kd.C_drewN ?_ _) | (with_reducible refine Kd.C_drew ?_))); (case side2 => exact (Kd.R_reads' HO477.out).2.1); rintro e w' ⟨rfl, ⟨nd, rfl⟩⟩; refine ⟨_, rfl, ?_⟩))
    go_ret
    exact ⟨ew_, (bl_ HB).out⟩

/-! ### num_Sub: function 83 -/
mutual
def num_Sub.j0 : Nat → ByteArray → ByteArray → Bool → Option (ByteArray × Bool)
  | 0, _, _, _ => none
  | k + 1, x0, x1, x20 => if x20 = true then (some ((⟨#[]⟩ : ByteArray), false)) else (num_Sub.l0 k x0 x1 ([] : List Int) 0 (x0.size : Int) 0)
def num_Sub.l0 : Nat → ByteArray → ByteArray → List Int → Int → Int → Int → Option (ByteArray × Bool)
  | 0, _, _, _, _, _, _ => none
  | k + 1, x0, x1, x6, x7, x22, x23 => if x23 < x22 then ((num_at.f x0 x23).bind fun t489 => ((num_at.f x1 x23).bind fun t490 => (if (wrap64 ((wrap64 (t489 - t490)) - x7)) < 0 then (if x6.length < 140737488355328 then (num_Sub.l0 k x0 x1 (x6 ++ [(48 + (wrap64 ((wrap64 ((wrap64 (t489 - t490)) - x7)) + 10))) % 256]) 1 x22 (wrap64 (x23 + 1))) else (none)) else (if x6.length < 140737488355328 then (num_Sub.l0 k x0 x1 (x6 ++ [(48 + (wrap64 ((wrap64 (t489 - t490)) - x7))) % 256]) 0 x22 (wrap64 (x23 + 1))) else (none))))) else ((num_text.f k x6).bind fun t488 => (some (t488, true)))
end
def num_Sub.f (k : Nat) (a0 : ByteArray) (a1 : ByteArray) : Option (ByteArray × Bool) := (num_all.f k (([a0, a1] : List ByteArray))).bind fun t486 => (if t486 = true then ((num_Cmp.f k a0 a1).bind fun t487 => (num_Sub.j0 k a0 a1 (decide (t487 < 0)))) else (num_Sub.j0 k a0 a1 true))
theorem num_Sub.mono_l : ∀ k, (∀ y0 y1 y2, LeO (num_Sub.j0 k y0 y1 y2) (num_Sub.j0 (k + 1) y0 y1 y2)) ∧ (∀ y0 y1 y2 y3 y4 y5, LeO (num_Sub.l0 k y0 y1 y2 y3 y4 y5) (num_Sub.l0 (k + 1) y0 y1 y2 y3 y4 y5))
  | 0 => ⟨fun _ _ _ r h => by simp [num_Sub.j0] at h, fun _ _ _ _ _ _ r h => by simp [num_Sub.l0] at h⟩
  | k + 1 => by
    obtain ⟨ih0, ih1⟩ := num_Sub.mono_l k
    refine ⟨?_, ?_⟩
    · intro y0 y1 y2
      unfold num_Sub.j0
      repeat' first
      | (with_reducible exact ih0 _ _ _)
      | (with_reducible exact ih1 _ _ _ _ _ _)
      | (with_reducible exact num_Cmp.mono _ _ _)
      | (with_reducible exact num_all.mono _ _)
      | (with_reducible exact num_text.mono _ _)
      | (with_reducible exact LeO.refl _)
      | (with_reducible exact LeO.none _)
      | (with_reducible refine LeO.ite ?_ ?_)
      | (with_reducible refine LeO.bind ?_ (fun _ => ?_))
      | exact ih0 _ _ _
      | exact ih1 _ _ _ _ _ _
      | exact num_Cmp.mono _ _ _
      | exact num_all.mono _ _
      | exact num_text.mono _ _
      | exact LeO.none _
      | refine LeO.ite ?_ ?_
      | refine LeO.bind ?_ (fun _ => ?_)
    · intro y0 y1 y2 y3 y4 y5
      unfold num_Sub.l0
      repeat' first
      | (with_reducible exact ih0 _ _ _)
      | (with_reducible exact ih1 _ _ _ _ _ _)
      | (with_reducible exact num_Cmp.mono _ _ _)
      | (with_reducible exact num_all.mono _ _)
      | (with_reducible exact num_text.mono _ _)
      | (with_reducible exact LeO.refl _)
      | (with_reducible exact LeO.none _)
      | (with_reducible refine LeO.ite ?_ ?_)
      | (with_reducible refine LeO.bind ?_ (fun _ => ?_))
      | exact ih0 _ _ _
      | exact ih1 _ _ _ _ _ _
      | exact num_Cmp.mono _ _ _
      | exact num_all.mono _ _
      | exact num_text.mono _ _
      | exact LeO.none _
      | refine LeO.ite ?_ ?_
      | refine LeO.bind ?_ (fun _ => ?_)
theorem num_Sub.mono : ∀ a0 a1 k, LeO (num_Sub.f k a0 a1) (num_Sub.f (k + 1) a0 a1) := by
  intro a0 a1 k
  obtain ⟨ih0, ih1⟩ := num_Sub.mono_l k
  unfold num_Sub.f
  repeat' first
      | (with_reducible exact ih0 _ _ _)
      | (with_reducible exact ih1 _ _ _ _ _ _)
      | (with_reducible exact num_Cmp.mono _ _ _)
      | (with_reducible exact num_all.mono _ _)
      | (with_reducible exact num_text.mono _ _)
      | (with_reducible exact LeO.refl _)
      | (with_reducible exact LeO.none _)
      | (with_reducible refine LeO.ite ?_ ?_)
      | (with_reducible refine LeO.bind ?_ (fun _ => ?_))
      | exact ih0 _ _ _
      | exact ih1 _ _ _ _ _ _
      | exact num_Cmp.mono _ _ _
      | exact num_all.mono _ _
      | exact num_text.mono _ _
      | exact LeO.none _
      | refine LeO.ite ?_ ?_
      | refine LeO.bind ?_ (fun _ => ?_)
set_option maxHeartbeats 8000000 in
set_option maxRecDepth 100000 in
theorem num_Sub.calls (k : Nat) (a0 : ByteArray) (a1 : ByteArray) (r1 : ByteArray) (r2 : Bool) (w : World) (h : num_Sub.f k a0 a1 = some (r1, r2)) :
    Calls Tryd.prog 83 #[.string a0, .string a1] w fun e w' => e = .returned (.tuple #[.string r1, .bool r2]) ∧ Below w.heap.size w w' := by
  have HB := Aside0.mk (Below.refl w.heap.size w)
  have H : ((num_all.f k (([a0, a1] : List ByteArray))).bind fun t486 => (if t486 = true then ((num_Cmp.f k a0 a1).bind fun t487 => (num_Sub.j0 k a0 a1 (decide (t487 < 0)))) else (num_Sub.j0 k a0 a1 true))) = some (r1, r2) := h
  clear h
  have HC3 := Aside0.mk H
  clear H
  go_enter Tryd.func83, Tryd.ntmps83
  go_upto_region 1 with (fail)
  go_cut [20] (fun v20 wc => ∃ (kq : Nat) (x20_2 : Bool), v20 = .bool x20_2 ∧ Aside0 (num_Sub.j0 kq a0 a1 x20_2 = some (r1, r2)) ∧ Aside0 (kq ≤ k) ∧ Aside0 (Below w.heap.size w wc))
  case first =>
    have H := HC3.out
    clear HC3
    obtain ⟨y483, hy483⟩ : ∃ y_ : List ByteArray, y_ = (([a0, a1] : List ByteArray)) := ⟨_, rfl⟩
    replace H : ((num_all.f k y483).bind fun t486 => (if t486 = true then ((num_Cmp.f k a0 a1).bind fun t487 => (num_Sub.j0 k a0 a1 (decide (t487 < 0)))) else (num_Sub.j0 k a0 a1 true))) = some (r1, r2) := by first | (rw [hy483]; with_reducible exact H) | (have H2_ := (Option.bind_some _ _).symm.trans H; rw [hy483]; with_reducible exact H2_) | (have H2_ := (Option.bind_some _ _).symm.trans H; with_reducible exact H2_) | with_reducible exact H | (rw [hy483]; exact H) | exact H
    have Ny483 := Aside0.mk hy483
    clear hy483
    replace H := Option.bind_eq_some_iff.mp H
    obtain ⟨t486, A40, H⟩ := H
    replace H : (if t486 = true then ((num_Cmp.f k a0 a1).bind fun t487 => (num_Sub.j0 k a0 a1 (decide (t487 < 0)))) else (num_Sub.j0 k a0 a1 true)) = some (r1, r2) := H
    have A4 := Aside0.mk A40
    clear A40
    by_cases c5 : t486 = true
    · subst c5
      have H1 : ((num_Cmp.f k a0 a1).bind fun t487 => (num_Sub.j0 k a0 a1 (decide (t487 < 0)))) = some (r1, r2) := by rw [if_pos rfl] at H; exact H
      clear H
      have H := H1
      clear H1
      replace H := Option.bind_eq_some_iff.mp H
      obtain ⟨t487, A60, H⟩ := H
      replace H : (num_Sub.j0 k a0 a1 (decide (t487 < 0))) = some (r1, r2) := H
      have A6 := Aside0.mk A60
      clear A60
      have H' := Aside0.mk H
      clear H
      go_wp2_with (first | ((with_reducible refine gate_dst (N := 12) rfl ?_); refine Kd.R_lit Kd.string _ 9 ?hg (N := 12) ?hd (xs := ([a0, a1] : List ByteArray)) (inner := [.string a0, .string a1]) (ok := fun _ => True) (okp := fun _ => True) ?hr ?hp (fun _ hk => hk) trivial (Below.refl _ _) (Nat.le_refl _) (by simp) ?_; (case hd => rfl); (case hg => rfl); (case hr => first | (go_simp; done) | (go_simp; rfl)); (case hp => exact (Reps.one (show Kd.M Kd.string _ _ _ a0 [.string a0] from rfl) (Reps.one (show Kd.M Kd.string _ _ _ a1 [.string a1] from rfl) (Reps.none _ _)))); intro v484 w7 ho8 hb hg_ hnew_; clear hg_ hnew_; (first | rw [← Ny483.out] at ho8 | (simp only [Int.reduceToNat] at ho8; rw [← Ny483.out] at ho8)); have HO485 := Aside0.mk (Kd.R_lower ho8 (below_size (bl_ HB).out)); replace HB := Aside0.mk (below_step (bl_ HB).out hb); clear hb ho8; obtain ⟨Ao9, co9, eo9⟩ := Kd.R_slice HO485.out; subst eo9) | ((with_reducible refine gate_callee (f := 90) rfl ?_); refine gl_ (some 13) Tryd.func90 #[.slice Ao9 y483.length co9] ?_; (with_reducible refine (num_all.calls k _ _ y483 true _ ?side1 ?side2 A4.out).mono ?_); (case side1 => repeat (first | exact (Kd.R_reads' HO485.out).2.2 | (with_reducible refine Kd.C_alloc ?_ _) | (with_reducible refine Kd.C_drewN ?_ _) | (with_reducible refine Kd.C_drew ?_))); (case side2 => exact (Kd.R_reads' HO485.out).2.1); rintro e w' ⟨rfl, ⟨nd, rfl⟩⟩; refine ⟨_, rfl, ?_⟩) | (go_at_call 93; (with_reducible refine (num_Cmp.calls k a0 a1 t487 _ A6.out).mono ?_); rintro e w10 ⟨rfl, hb⟩; have n0_ := Aside0.mk (Kd.R_below (by (with_reducible repeat (first | apply Kd.R_alloc | apply Kd.R_drewN | apply Kd.R_drew)); exact HO485.out) hb); have n1_ := Aside0.mk (below_step (bl_ HB).out hb); clear HO485; clear HB; have HO485 := n0_; have HB := n1_; clear n0_ n1_; (try clear hb); (try clear hb2); (try clear hk); (try clear hi)))
      go_meet
      case rel => exact ⟨_, (decide (t487 < 0)), eq_, H', ⟨by first | omega | exact Nat.le_refl _⟩, (bl_ HB)⟩
    · replace c5 := Bool.eq_false_iff.mpr c5
      subst c5
      have H1 : (num_Sub.j0 k a0 a1 true) = some (r1, r2) := by rw [if_neg (show ¬ (false = true) by decide)] at H; exact H
      clear H
      have H := H1
      clear H1
      have H' := Aside0.mk H
      clear H
      go_wp2_with (first | ((with_reducible refine gate_dst (N := 12) rfl ?_); refine Kd.R_lit Kd.string _ 9 ?hg (N := 12) ?hd (xs := ([a0, a1] : List ByteArray)) (inner := [.string a0, .string a1]) (ok := fun _ => True) (okp := fun _ => True) ?hr ?hp (fun _ hk => hk) trivial (Below.refl _ _) (Nat.le_refl _) (by simp) ?_; (case hd => rfl); (case hg => rfl); (case hr => first | (go_simp; done) | (go_simp; rfl)); (case hp => exact (Reps.one (show Kd.M Kd.string _ _ _ a0 [.string a0] from rfl) (Reps.one (show Kd.M Kd.string _ _ _ a1 [.string a1] from rfl) (Reps.none _ _)))); intro v484 w11 ho12 hb hg_ hnew_; clear hg_ hnew_; (first | rw [← Ny483.out] at ho12 | (simp only [Int.reduceToNat] at ho12; rw [← Ny483.out] at ho12)); have HO485 := Aside0.mk (Kd.R_lower ho12 (below_size (bl_ HB).out)); replace HB := Aside0.mk (below_step (bl_ HB).out hb); clear hb ho12; obtain ⟨Ao13, co13, eo13⟩ := Kd.R_slice HO485.out; subst eo13) | ((with_reducible refine gate_callee (f := 90) rfl ?_); refine gl_ (some 13) Tryd.func90 #[.slice Ao13 y483.length co13] ?_; (with_reducible refine (num_all.calls k _ _ y483 false _ ?side1 ?side2 A4.out).mono ?_); (case side1 => repeat (first | exact (Kd.R_reads' HO485.out).2.2 | (with_reducible refine Kd.C_alloc ?_ _) | (with_reducible refine Kd.C_drewN ?_ _) | (with_reducible refine Kd.C_drew ?_))); (case side2 => exact (Kd.R_reads' HO485.out).2.1); rintro e w' ⟨rfl, ⟨nd, rfl⟩⟩; refine ⟨_, rfl, ?_⟩))
      go_meet
      case rel => exact ⟨_, (true), eq_, H', ⟨by first | omega | exact Nat.le_refl _⟩, (bl_ HB)⟩
  case rest =>
    clear HC3
    try clear p2
    try clear c5
    try clear p6
    try clear c8
    try clear c9
    obtain ⟨kq, x20_2, rfl, HA, HJ2, HB⟩ := hcut
    cases kq with
    | zero => exact absurd HA.out (by simp [num_Sub.j0])
    | succ kj2 =>
      have H := HA.out
      clear HA
      simp only [num_Sub.j0] at H
      by_cases c14 : x20_2 = true
      · subst c14
        have H1 : (some ((⟨#[]⟩ : ByteArray), false)) = some (r1, r2) := by rw [if_pos rfl] at H; exact H
        clear H
        have H := H1
        clear H1
        simp only [Option.some.injEq, Prod.mk.injEq] at H
        obtain ⟨rfl, rfl⟩ := H
        go_wp2
        go_ret2
        exact ⟨ew_, (bl_ HB).out⟩
      · replace c14 := Bool.eq_false_iff.mpr c14
        subst c14
        have H1 : (num_Sub.l0 kj2 a0 a1 ([] : List Int) 0 (a0.size : Int) 0) = some (r1, r2) := by rw [if_neg (show ¬ (false = true) by decide)] at H; exact H
        clear H
        have H := H1
        clear H1
        have H' := Aside0.mk H
        clear H
        go_wp2
        go_loopg [6, 7, 23] kj2 (fun kq v6 v7 v23 w' => ∃ (x6_2 : List Int) (x7_2 : Int) (x23_2 : Int), v7 = .int .i64 x7_2 ∧ v23 = .int .i64 x23_2 ∧ Aside0 (num_Sub.l0 kq a0 a1 x6_2 x7_2 (a0.size : Int) x23_2 = some (r1, r2)) ∧ Aside0 (kq ≤ kj2) ∧ Aside0 (Kd.R (Kd.int .u8) 5 w' w.heap.size (fun _ => True) v6 x6_2) ∧ Aside0 (Below w.heap.size w w'))
        case atStart => exact ⟨(([] : List Int)), (0), (0), eq_, eq_, H', ⟨Nat.le_refl _⟩, ⟨by first | exact Kd.R_nil _ _ _ _ _ | exact Kd.N_nil _ _ _ _ _ | exact Kd.V_nil _ _ _ _ _ | exact Kd.Q_nil _ _ _ _ _ | exact Kd.S_nil _ _ _ _ _⟩, (bl_ HB)⟩
        case round =>
          clear H'
          try clear c1
          try clear p2
          try clear c5
          try clear p6
          try clear c8
          try clear c9
          try clear c14
          try clear p2
          try clear p6
          obtain ⟨x6_2, x7_2, x23_2, rfl, rfl, HA, HK2, HO_6, HB⟩ := hrel
          cases gk with
          | zero => exact absurd HA.out (by simp [num_Sub.l0])
          | succ k2 =>
            have H := HA.out
            clear HA
            simp only [num_Sub.l0] at H
            by_cases c15 : x23_2 < (a0.size : Int)
            · rw [if_pos c15] at H
              have c15b0 : decide (x23_2 < (a0.size : Int)) = true := decide_eq_true c15
              clear c15
              replace H := Option.bind_eq_some_iff.mp H
              obtain ⟨t489, A160, H⟩ := H
              replace H : ((num_at.f a1 x23_2).bind fun t490 => (if (wrap64 ((wrap64 (t489 - t490)) - x7_2)) < 0 then (if x6_2.length < 140737488355328 then (num_Sub.l0 k2 a0 a1 (x6_2 ++ [(48 + (wrap64 ((wrap64 ((wrap64 (t489 - t490)) - x7_2)) + 10))) % 256]) 1 (a0.size : Int) (wrap64 (x23_2 + 1))) else (none)) else (if x6_2.length < 140737488355328 then (num_Sub.l0 k2 a0 a1 (x6_2 ++ [(48 + (wrap64 ((wrap64 (t489 - t490)) - x7_2))) % 256]) 0 (a0.size : Int) (wrap64 (x23_2 + 1))) else (none)))) = some (r1, r2) := H
              have A16 := Aside0.mk A160
              clear A160
              replace H := Option.bind_eq_some_iff.mp H
              obtain ⟨t490, A170, H⟩ := H
              replace H : (if (wrap64 ((wrap64 (t489 - t490)) - x7_2)) < 0 then (if x6_2.length < 140737488355328 then (num_Sub.l0 k2 a0 a1 (x6_2 ++ [(48 + (wrap64 ((wrap64 ((wrap64 (t489 - t490)) - x7_2)) + 10))) % 256]) 1 (a0.size : Int) (wrap64 (x23_2 + 1))) else (none)) else (if x6_2.length < 140737488355328 then (num_Sub.l0 k2 a0 a1 (x6_2 ++ [(48 + (wrap64 ((wrap64 (t489 - t490)) - x7_2))) % 256]) 0 (a0.size : Int) (wrap64 (x23_2 + 1))) else (none))) = some (r1, r2) := H
              have A17 := Aside0.mk A170
              clear A170
              by_cases c18 : (wrap64 ((wrap64 (t489 - t490)) - x7_2)) < 0
              · rw [if_pos c18] at H
                have c18b0 : decide ((wrap64 ((wrap64 (t489 - t490)) - x7_2)) < 0) = true := decide_eq_true c18
                clear c18
                by_cases c19 : x6_2.length < 140737488355328
                · rw [if_pos c19] at H
                  have LMc19 := Aside0.mk c19
                  clear c19
                  obtain ⟨y491, hy491⟩ : ∃ y_ : List Int, y_ = (x6_2 ++ [(48 + (wrap64 ((wrap64 ((wrap64 (t489 - t490)) - x7_2)) + 10))) % 256]) := ⟨_, rfl⟩
                  replace H : (num_Sub.l0 k2 a0 a1 y491 1 (a0.size : Int) (wrap64 (x23_2 + 1))) = some (r1, r2) := by first | (rw [hy491]; with_reducible exact H) | (have H2_ := (Option.bind_some _ _).symm.trans H; rw [hy491]; with_reducible exact H2_) | (have H2_ := (Option.bind_some _ _).symm.trans H; with_reducible exact H2_) | with_reducible exact H | (rw [hy491]; exact H) | exact H
                  have Ny491 := Aside0.mk hy491
                  clear hy491
                  have H' := Aside0.mk H
                  clear H
                  go_wp2_with (first | ((with_reducible refine gate_callee (f := 78) rfl ?_); refine gl_ (some 28) Tryd.func78 #[.string a0, .int .i64 x23_2] ?_; (with_reducible refine (num_at.calls a0 x23_2 t489 _ A16.out).mono ?_); rintro e w' ⟨rfl, ⟨nd, rfl⟩⟩; refine ⟨_, rfl, ?_⟩) | ((with_reducible refine gate_callee (f := 78) rfl ?_); refine gl_ (some 31) Tryd.func78 #[.string a1, .int .i64 x23_2] ?_; (with_reducible refine (num_at.calls a1 x23_2 t490 _ A17.out).mono ?_); rintro e w' ⟨rfl, ⟨nd, rfl⟩⟩; refine ⟨_, rfl, ?_⟩) | ((with_reducible refine gate_builtin (b := .append) (xs := #[.tmp 39, .tmp 43]) rfl ?_); at_builtin; refine Kd.R_append (Kd.int .u8) (w0 := w) w.heap.size rfl (.tmp 39) (.tmp 43) 22 5 (.int .u8 0) 1 rfl Tryd.underlying22 info5 rfl (by decide) (by omega) u6 x6_2 ((48 + (wrap64 ((wrap64 ((wrap64 (t489 - t490)) - x7_2)) + 10))) % 256) [.int .u8 ((48 + (wrap64 ((wrap64 ((wrap64 (t489 - t490)) - x7_2)) + 10))) % 256)] (fun _ => True) (fun _ => False) rfl rfl ?aP (fun _ hk => hk.elim) ?aF ?aO ?aB ?aS ?aL ?_; (case aP => exact rfl); (case aB => exact (bl_ HB).out); (case aF => exact (fun _ _ => trivial)); (case aO => exact (by (with_reducible repeat (first | apply Kd.R_alloc | apply Kd.R_drewN | apply Kd.R_drew)); exact HO_6.out)); (case aS => exact (below_size (bl_ HB).out)); (case aL => have := LMc19.out; omega); intro v492 w20 ho hb hg hat; rw [← Ny491.out] at ho; have n0_ := Aside0.mk (hb); have n1_ := Aside0.mk (ho); clear HB; clear HO_6; have HB := n0_; have HO493 := n1_; clear n0_ n1_; clear ho hb hg hat))
                  go_roundg k2
                  case measure => have := HJ2.out; have := HK2.out; omega
                  case rel => exact ⟨(y491), (1), (wrap64 (x23_2 + 1)), eq_, eq_, H', ⟨by have := HJ2.out; have := HK2.out; omega⟩, ⟨by (with_reducible repeat (first | apply Kd.R_alloc | apply Kd.R_drewN | apply Kd.R_drew)); exact HO493.out⟩, (bl_ HB)⟩
                · rw [if_neg c19] at H
                  exact absurd H (by simp)
              · rw [if_neg c18] at H
                have c18b0 : decide ((wrap64 ((wrap64 (t489 - t490)) - x7_2)) < 0) = false := decide_eq_false c18
                clear c18
                by_cases c21 : x6_2.length < 140737488355328
                · rw [if_pos c21] at H
                  have LMc21 := Aside0.mk c21
                  clear c21
                  obtain ⟨y494, hy494⟩ : ∃ y_ : List Int, y_ = (x6_2 ++ [(48 + (wrap64 ((wrap64 (t489 - t490)) - x7_2))) % 256]) := ⟨_, rfl⟩
                  replace H : (num_Sub.l0 k2 a0 a1 y494 0 (a0.size : Int) (wrap64 (x23_2 + 1))) = some (r1, r2) := by first | (rw [hy494]; with_reducible exact H) | (have H2_ := (Option.bind_some _ _).symm.trans H; rw [hy494]; with_reducible exact H2_) | (have H2_ := (Option.bind_some _ _).symm.trans H; with_reducible exact H2_) | with_reducible exact H | (rw [hy494]; exact H) | exact H
                  have Ny494 := Aside0.mk hy494
                  clear hy494
                  have H' := Aside0.mk H
                  clear H
                  go_wp2_with (first | ((with_reducible refine gate_callee (f := 78) rfl ?_); refine gl_ (some 28) Tryd.func78 #[.string a0, .int .i64 x23_2] ?_; (with_reducible refine (num_at.calls a0 x23_2 t489 _ A16.out).mono ?_); rintro e w' ⟨rfl, ⟨nd, rfl⟩⟩; refine ⟨_, rfl, ?_⟩) | ((with_reducible refine gate_callee (f := 78) rfl ?_); refine gl_ (some 31) Tryd.func78 #[.string a1, .int .i64 x23_2] ?_; (with_reducible refine (num_at.calls a1 x23_2 t490 _ A17.out).mono ?_); rintro e w' ⟨rfl, ⟨nd, rfl⟩⟩; refine ⟨_, rfl, ?_⟩) | ((with_reducible refine gate_builtin (b := .append) (xs := #[.tmp 39, .tmp 43]) rfl ?_); at_builtin; refine Kd.R_append (Kd.int .u8) (w0 := w) w.heap.size rfl (.tmp 39) (.tmp 43) 22 5 (.int .u8 0) 1 rfl Tryd.underlying22 info5 rfl (by decide) (by omega) u6 x6_2 ((48 + (wrap64 ((wrap64 (t489 - t490)) - x7_2))) % 256) [.int .u8 ((48 + (wrap64 ((wrap64 (t489 - t490)) - x7_2))) % 256)] (fun _ => True) (fun _ => False) rfl rfl ?aP (fun _ hk => hk.elim) ?aF ?aO ?aB ?aS ?aL ?_; (case aP => exact rfl); (case aB => exact (bl_ HB).out); (case aF => exact (fun _ _ => trivial)); (case aO => exact (by (with_reducible repeat (first | apply Kd.R_alloc | apply Kd.R_drewN | apply Kd.R_drew)); exact HO_6.out)); (case aS => exact (below_size (bl_ HB).out)); (case aL => have := LMc21.out; omega); intro v495 w22 ho hb hg hat; rw [← Ny494.out] at ho; have n0_ := Aside0.mk (hb); have n1_ := Aside0.mk (ho); clear HB; clear HO_6; have HB := n0_; have HO496 := n1_; clear n0_ n1_; clear ho hb hg hat))
                  go_roundg k2
                  case measure => have := HJ2.out; have := HK2.out; omega
                  case rel => exact ⟨(y494), (0), (wrap64 (x23_2 + 1)), eq_, eq_, H', ⟨by have := HJ2.out; have := HK2.out; omega⟩, ⟨by (with_reducible repeat (first | apply Kd.R_alloc | apply Kd.R_drewN | apply Kd.R_drew)); exact HO496.out⟩, (bl_ HB)⟩
                · rw [if_neg c21] at H
                  exact absurd H (by simp)
            · rw [if_neg c15] at H
              have c15b0 : decide (x23_2 < (a0.size : Int)) = false := decide_eq_false c15
              clear c15
              replace H := Option.bind_eq_some_iff.mp H
              obtain ⟨t488, A230, H⟩ := H
              replace H : (some (t488, true)) = some (r1, r2) := H
              have A23 := Aside0.mk A230
              clear A230
              simp only [Option.some.injEq, Prod.mk.injEq] at H
              obtain ⟨rfl, rfl⟩ := H
              obtain ⟨Ao24, co24, eo24⟩ := Kd.R_slice HO_6.out
              subst eo24
              go_wp2_with (first | ((with_reducible refine gate_callee (f := 62) rfl ?_); refine gl_ (some 47) Tryd.func62 #[.slice Ao24 x6_2.length co24] ?_; (with_reducible refine (num_text.calls k2 _ _ x6_2 t488 _ ?side1 ?side2 A23.out).mono ?_); (case side1 => repeat (first | exact (Kd.R_reads' HO_6.out).2.2 | (with_reducible refine Kd.C_alloc ?_ _) | (with_reducible refine Kd.C_drewN ?_ _) | (with_reducible refine Kd.C_drew ?_))); (case side2 => exact (Kd.R_reads' HO_6.out).2.1); rintro e w25 ⟨rfl, hb⟩; refine ⟨_, rfl, ?_⟩; have n0_ := Aside0.mk (Kd.R_below (by (with_reducible repeat (first | apply Kd.R_alloc | apply Kd.R_drewN | apply Kd.R_drew)); exact HO_6.out) hb); have n1_ := Aside0.mk (below_step (bl_ HB).out hb); clear HO_6; clear HB; have HO_6 := n0_; have HB := n1_; clear n0_ n1_; (try clear hb); (try clear hb2); (try clear hk); (try clear hi)))
              go_ret2
              exact ⟨ew_, (bl_ HB).out⟩

end Go.Proofs.YthkpmiajcmihjaaDoor.P
