-- written by a program of this session (wip/p2)
import Derived.Test.YtoegmienlhgjnaaDoorPx0
import Derived.Test.YtoegmienlhgjnaaDoorPx4
import Derived.Test.YtoegmienlhgjnaaDoorPx5
import Derived.Test.YtoegmienlhgjnaaDoorPx7
import Derived.Test.YtoegmienlhgjnaaDoorPx9
import Derived.Test.YtoegmienlhgjnaaDoorPx11
import Derived.Test.YtoegmienlhgjnaaDoorPx17
namespace Go.Proofs.YtoegmienlhgjnaaDoor.P
open Go.RowKit Go.Proofs.YtoegmienlhgjnaaDoorW.PrintWords Go.Proofs.YtoegmienlhgjnaaDoorW.PrintLast Go.Proofs.YtoegmienlhgjnaaDoorW.PrintMore
attribute [local go_sem] max2_int min2_int max_two min_two max_three min_three max_four min_four   -- for this text's walks alone
set_option linter.unusedVariables false
set_option linter.unusedSimpArgs false

/-! ### florinlaw03_RoundAt: function 6 -/
def florinlaw03_RoundAt.f (k : Nat) (a0_0 : Bool) (l0_1 : List Int) (a0_2 : Int) (a1 : Int) (a2 : Int) : Option (Bool) := (florinlaw03_head.f k).bind fun t537 => (if t537 = true then ((florinlaw02_Raw_Few.f a0_0 l0_1 a0_2 40).bind fun t538 => (if t538 = true then ((florinlaw03_Mode.f a2).bind fun t539 => ((florinlaw02_Raw_Make.f k a0_0 l0_1 a0_2).bind fun bt540 => ((florinlaw02_Raw_Make.f k a0_0 l0_1 a0_2).bind fun bt543 => ((round_At.f k bt543.1 bt543.2.1 bt543.2.2 (wrap64 ((Int.tmod a1 60) - (wrap64 (Int.tdiv (Int.tmod a1 60) 2)))) t539).bind fun bt546 => ((florinlaw03_unit.f k (wrap64 ((Int.tmod a1 60) - (wrap64 (Int.tdiv (Int.tmod a1 60) 2))))).bind fun bt549 => ((florinlaw03_Rounded.f k bt540.1 bt540.2.1 bt540.2.2 bt546.1 bt546.2.1 bt546.2.2 bt549.1 bt549.2.1 bt549.2.2 t539).bind fun t552 => (some t552))))))) else (some true))) else (some false))
theorem florinlaw03_RoundAt.mono : ∀ a0 a1 a2 a3 a4 k, LeO (florinlaw03_RoundAt.f k a0 a1 a2 a3 a4) (florinlaw03_RoundAt.f (k + 1) a0 a1 a2 a3 a4) := by
  intro a0 a1 a2 a3 a4 k
  unfold florinlaw03_RoundAt.f
  repeat' first
      | (with_reducible exact florinlaw02_Raw_Make.mono _ _ _ _)
      | (with_reducible exact florinlaw03_Rounded.mono _ _ _ _ _ _ _ _ _ _ _)
      | (with_reducible exact florinlaw03_head.mono _)
      | (with_reducible exact florinlaw03_unit.mono _ _)
      | (with_reducible exact round_At.mono _ _ _ _ _ _)
      | (with_reducible exact LeO.refl _)
      | (with_reducible exact LeO.none _)
      | (with_reducible refine LeO.ite ?_ ?_)
      | (with_reducible refine LeO.bind ?_ (fun _ => ?_))
      | exact florinlaw02_Raw_Make.mono _ _ _ _
      | exact florinlaw03_Rounded.mono _ _ _ _ _ _ _ _ _ _ _
      | exact florinlaw03_head.mono _
      | exact florinlaw03_unit.mono _ _
      | exact round_At.mono _ _ _ _ _ _
      | exact LeO.none _
      | refine LeO.ite ?_ ?_
      | refine LeO.bind ?_ (fun _ => ?_)
def florinlaw03_RoundAt.T7 : Bool × List (List Nat × List Nat) := (true, [([], []), ([0], [0]), ([], []), ([2, 1], [2]), ([], []), ([], []), ([3, 4, 5, 3], [3, 4, 5]), ([], []), ([7, 6], [7]), ([], []), ([1, 6, 8, 9, 8], [1, 6, 8, 9]), ([10, 10, 0, 1, 2, 3, 4, 5, 6, 7, 8, 9, 10], [10])])
def florinlaw03_RoundAt.B7 : List Nat := [0, 1, 0, 7, 0, 0, 63, 0, 255, 0, 1023, 2047]
theorem florinlaw03_RoundAt.tab7 : rtab .any (opsOf Tryd.f6 7) = florinlaw03_RoundAt.T7 := by kernel_rfl
theorem florinlaw03_RoundAt.bits7 : waitsOk florinlaw03_RoundAt.T7.2 florinlaw03_RoundAt.B7 = true := by kernel_rfl
set_option maxHeartbeats 8000000 in
set_option maxRecDepth 100000 in
theorem florinlaw03_RoundAt.calls (k : Nat) (a0_0 : Bool) (A0_1 : Option Addr) (c0_1 : Nat) (l0_1 : List Int) (a0_2 : Int) (a1 : Int) (a2 : Int) (r : Bool) (w : World) (hr0_1 : Kd.C (Kd.int .u8) w A0_1 l0_1.length l0_1) (hc0_1 : l0_1.length ≤ c0_1) (h : florinlaw03_RoundAt.f k a0_0 l0_1 a0_2 a1 a2 = some r) :
    Calls Tryd.prog 6 #[.agg #[.bool a0_0, .slice A0_1 l0_1.length c0_1, .int .i64 a0_2], .int .i64 a1, .int .i64 a2] w fun e w' => e = .returned (.bool r) ∧ Below w.heap.size w w' := by
  have hu24 := Tryd.underlying24
  have HR0_1 := Aside0.mk hr0_1
  have HC0_1 := Aside0.mk hc0_1
  clear hr0_1 hc0_1
  have HB := Aside0.mk (Below.refl w.heap.size w)
  have H : ((florinlaw03_head.f k).bind fun t537 => (if t537 = true then ((florinlaw02_Raw_Few.f a0_0 l0_1 a0_2 40).bind fun t538 => (if t538 = true then ((florinlaw03_Mode.f a2).bind fun t539 => ((florinlaw02_Raw_Make.f k a0_0 l0_1 a0_2).bind fun bt540 => ((florinlaw02_Raw_Make.f k a0_0 l0_1 a0_2).bind fun bt543 => ((round_At.f k bt543.1 bt543.2.1 bt543.2.2 (wrap64 ((Int.tmod a1 60) - (wrap64 (Int.tdiv (Int.tmod a1 60) 2)))) t539).bind fun bt546 => ((florinlaw03_unit.f k (wrap64 ((Int.tmod a1 60) - (wrap64 (Int.tdiv (Int.tmod a1 60) 2))))).bind fun bt549 => ((florinlaw03_Rounded.f k bt540.1 bt540.2.1 bt540.2.2 bt546.1 bt546.2.1 bt546.2.2 bt549.1 bt549.2.1 bt549.2.2 t539).bind fun t552 => (some t552))))))) else (some true))) else (some false))) = some r := h
  clear h
  replace H := Option.bind_eq_some_iff.mp H
  obtain ⟨t537, A40, H⟩ := H
  replace H : (if t537 = true then ((florinlaw02_Raw_Few.f a0_0 l0_1 a0_2 40).bind fun t538 => (if t538 = true then ((florinlaw03_Mode.f a2).bind fun t539 => ((florinlaw02_Raw_Make.f k a0_0 l0_1 a0_2).bind fun bt540 => ((florinlaw02_Raw_Make.f k a0_0 l0_1 a0_2).bind fun bt543 => ((round_At.f k bt543.1 bt543.2.1 bt543.2.2 (wrap64 ((Int.tmod a1 60) - (wrap64 (Int.tdiv (Int.tmod a1 60) 2)))) t539).bind fun bt546 => ((florinlaw03_unit.f k (wrap64 ((Int.tmod a1 60) - (wrap64 (Int.tdiv (Int.tmod a1 60) 2))))).bind fun bt549 => ((florinlaw03_Rounded.f k bt540.1 bt540.2.1 bt540.2.2 bt546.1 bt546.2.1 bt546.2.2 bt549.1 bt549.2.1 bt549.2.2 t539).bind fun t552 => (some t552))))))) else (some true))) else (some false)) = some r := H
  have A4 := Aside0.mk A40
  clear A40
  by_cases c5 : t537 = true
  · subst c5
    have H1 : ((florinlaw02_Raw_Few.f a0_0 l0_1 a0_2 40).bind fun t538 => (if t538 = true then ((florinlaw03_Mode.f a2).bind fun t539 => ((florinlaw02_Raw_Make.f k a0_0 l0_1 a0_2).bind fun bt540 => ((florinlaw02_Raw_Make.f k a0_0 l0_1 a0_2).bind fun bt543 => ((round_At.f k bt543.1 bt543.2.1 bt543.2.2 (wrap64 ((Int.tmod a1 60) - (wrap64 (Int.tdiv (Int.tmod a1 60) 2)))) t539).bind fun bt546 => ((florinlaw03_unit.f k (wrap64 ((Int.tmod a1 60) - (wrap64 (Int.tdiv (Int.tmod a1 60) 2))))).bind fun bt549 => ((florinlaw03_Rounded.f k bt540.1 bt540.2.1 bt540.2.2 bt546.1 bt546.2.1 bt546.2.2 bt549.1 bt549.2.1 bt549.2.2 t539).bind fun t552 => (some t552))))))) else (some true))) = some r := by rw [if_pos rfl] at H; exact H
    clear H
    have H := H1
    clear H1
    replace H := Option.bind_eq_some_iff.mp H
    obtain ⟨t538, A60, H⟩ := H
    replace H : (if t538 = true then ((florinlaw03_Mode.f a2).bind fun t539 => ((florinlaw02_Raw_Make.f k a0_0 l0_1 a0_2).bind fun bt540 => ((florinlaw02_Raw_Make.f k a0_0 l0_1 a0_2).bind fun bt543 => ((round_At.f k bt543.1 bt543.2.1 bt543.2.2 (wrap64 ((Int.tmod a1 60) - (wrap64 (Int.tdiv (Int.tmod a1 60) 2)))) t539).bind fun bt546 => ((florinlaw03_unit.f k (wrap64 ((Int.tmod a1 60) - (wrap64 (Int.tdiv (Int.tmod a1 60) 2))))).bind fun bt549 => ((florinlaw03_Rounded.f k bt540.1 bt540.2.1 bt540.2.2 bt546.1 bt546.2.1 bt546.2.2 bt549.1 bt549.2.1 bt549.2.2 t539).bind fun t552 => (some t552))))))) else (some true)) = some r := H
    have A6 := Aside0.mk A60
    clear A60
    by_cases c7 : t538 = true
    · subst c7
      have H1 : ((florinlaw03_Mode.f a2).bind fun t539 => ((florinlaw02_Raw_Make.f k a0_0 l0_1 a0_2).bind fun bt540 => ((florinlaw02_Raw_Make.f k a0_0 l0_1 a0_2).bind fun bt543 => ((round_At.f k bt543.1 bt543.2.1 bt543.2.2 (wrap64 ((Int.tmod a1 60) - (wrap64 (Int.tdiv (Int.tmod a1 60) 2)))) t539).bind fun bt546 => ((florinlaw03_unit.f k (wrap64 ((Int.tmod a1 60) - (wrap64 (Int.tdiv (Int.tmod a1 60) 2))))).bind fun bt549 => ((florinlaw03_Rounded.f k bt540.1 bt540.2.1 bt540.2.2 bt546.1 bt546.2.1 bt546.2.2 bt549.1 bt549.2.1 bt549.2.2 t539).bind fun t552 => (some t552))))))) = some r := by rw [if_pos rfl] at H; exact H
      clear H
      have H := H1
      clear H1
      replace H := Option.bind_eq_some_iff.mp H
      obtain ⟨t539, A80, H⟩ := H
      replace H : ((florinlaw02_Raw_Make.f k a0_0 l0_1 a0_2).bind fun bt540 => ((florinlaw02_Raw_Make.f k a0_0 l0_1 a0_2).bind fun bt543 => ((round_At.f k bt543.1 bt543.2.1 bt543.2.2 (wrap64 ((Int.tmod a1 60) - (wrap64 (Int.tdiv (Int.tmod a1 60) 2)))) t539).bind fun bt546 => ((florinlaw03_unit.f k (wrap64 ((Int.tmod a1 60) - (wrap64 (Int.tdiv (Int.tmod a1 60) 2))))).bind fun bt549 => ((florinlaw03_Rounded.f k bt540.1 bt540.2.1 bt540.2.2 bt546.1 bt546.2.1 bt546.2.2 bt549.1 bt549.2.1 bt549.2.2 t539).bind fun t552 => (some t552)))))) = some r := H
      have A8 := Aside0.mk A80
      clear A80
      replace H := Option.bind_eq_some_iff.mp H
      obtain ⟨⟨t540, t541, t542⟩, A90, H⟩ := H
      replace H : ((florinlaw02_Raw_Make.f k a0_0 l0_1 a0_2).bind fun bt543 => ((round_At.f k bt543.1 bt543.2.1 bt543.2.2 (wrap64 ((Int.tmod a1 60) - (wrap64 (Int.tdiv (Int.tmod a1 60) 2)))) t539).bind fun bt546 => ((florinlaw03_unit.f k (wrap64 ((Int.tmod a1 60) - (wrap64 (Int.tdiv (Int.tmod a1 60) 2))))).bind fun bt549 => ((florinlaw03_Rounded.f k t540 t541 t542 bt546.1 bt546.2.1 bt546.2.2 bt549.1 bt549.2.1 bt549.2.2 t539).bind fun t552 => (some t552))))) = some r := H
      have A9 := Aside0.mk A90
      clear A90
      replace H := Option.bind_eq_some_iff.mp H
      obtain ⟨⟨t543, t544, t545⟩, A100, H⟩ := H
      replace H : ((round_At.f k t543 t544 t545 (wrap64 ((Int.tmod a1 60) - (wrap64 (Int.tdiv (Int.tmod a1 60) 2)))) t539).bind fun bt546 => ((florinlaw03_unit.f k (wrap64 ((Int.tmod a1 60) - (wrap64 (Int.tdiv (Int.tmod a1 60) 2))))).bind fun bt549 => ((florinlaw03_Rounded.f k t540 t541 t542 bt546.1 bt546.2.1 bt546.2.2 bt549.1 bt549.2.1 bt549.2.2 t539).bind fun t552 => (some t552)))) = some r := H
      have A10 := Aside0.mk A100
      clear A100
      replace H := Option.bind_eq_some_iff.mp H
      obtain ⟨⟨t546, t547, t548⟩, A110, H⟩ := H
      replace H : ((florinlaw03_unit.f k (wrap64 ((Int.tmod a1 60) - (wrap64 (Int.tdiv (Int.tmod a1 60) 2))))).bind fun bt549 => ((florinlaw03_Rounded.f k t540 t541 t542 t546 t547 t548 bt549.1 bt549.2.1 bt549.2.2 t539).bind fun t552 => (some t552))) = some r := H
      have A11 := Aside0.mk A110
      clear A110
      replace H := Option.bind_eq_some_iff.mp H
      obtain ⟨⟨t549, t550, t551⟩, A120, H⟩ := H
      replace H : ((florinlaw03_Rounded.f k t540 t541 t542 t546 t547 t548 t549 t550 t551 t539).bind fun t552 => (some t552)) = some r := H
      have A12 := Aside0.mk A120
      clear A120
      replace H := Option.bind_eq_some_iff.mp H
      obtain ⟨t552, A130, H⟩ := H
      replace H : (some t552) = some r := H
      have A13 := Aside0.mk A130
      clear A130
      obtain rfl := Option.some.inj H
      go_enter Tryd.func6, Tryd.ntmps6
      try go_wp2_with (first | ((with_reducible refine gate_dst (N := 3) rfl ?_); refine box_event ?hg (N := 3) ?hd (cs := #[.bool a0_0, .slice A0_1 l0_1.length c0_1, .int .i64 a0_2]) (t := 24) ?hr ?_; (case hd => rfl); (case hg => rfl); (case hr => first | (go_simp; done) | (go_simp; rfl)); intro gb536 hg w14 hbox hb; have n0_ := Aside0.mk (below_step (bl_ HB).out hb); have n1_ := Aside0.mk (hbox); have n2_ := Aside0.mk ((by rw [hg]; exact (below_size (bl_ HB).out) : w.heap.size ≤ gb536)); have n3_ := Aside0.mk ((by rw [hg]; exact (below_size (bl_ HB).out) : w.heap.size ≤ gb536)); clear HB; have HB := n0_; have BK536 := n1_; have GW536 := n2_; have GE536 := n3_; clear n0_ n1_ n2_ n3_; clear hb hbox hg) | ((with_reducible refine gate_callee (f := 10) rfl ?_); refine goesL_ (some 8) rfl rfl Tryd.func10 (by kernel_rfl) rfl #[] rfl (by (try simp only [List.map_toArray, List.map_cons, List.map_nil]); first | done | rfl | (simp only [List.length_drop, List.length_take]; rfl) | (have z_ : ∀ s_ : ByteArray, s_.size ≤ 9223372036854775807 → -(s_.size : Int) = wrap64 (-(s_.size : Int)) := (fun s_ h_ => by unfold wrap64; omega); rw [← z_ _ (by omega)]; rfl) | (simp only [ByteArray.size_append]; rfl)) ?_; (with_reducible refine (florinlaw03_head.calls k  true _ A4.out).mono ?_); rintro e w15 ⟨rfl, hb⟩; refine ⟨_, rfl, ?_⟩; have n0_ := bb_ BK536 hb; have n1_ := Aside0.mk (below_step (bl_ HB).out hb); clear BK536; clear HB; have BK536 := n0_; have HB := n1_; clear n0_ n1_; (try clear hb); (try clear hb2); (try clear hk); (try clear hi); have hcz16_0 : w15.cell? ⟨gb536, 0, none⟩ = some (.bool a0_0) := bc_ BK536 0; have hcz16_1 : w15.cell? ⟨gb536, 1, none⟩ = some (.slice A0_1 l0_1.length c0_1) := bc_ BK536 1; have hcz16_2 : w15.cell? ⟨gb536, 2, none⟩ = some (.int .i64 a0_2) := bc_ BK536 2; have hfz16_0 := blk_frozen BK536.out 0; have hfz16_1 := blk_frozen BK536.out 1; have hfz16_2 := blk_frozen BK536.out 2) | ((with_reducible refine gate_callee (f := 11) rfl ?_); refine goesL_ (some 11) rfl rfl Tryd.func11 (by kernel_rfl) rfl #[.agg #[.bool a0_0, .slice A0_1 l0_1.length c0_1, .int .i64 a0_2], .int .i64 40] rfl (by (try simp only [List.map_toArray, List.map_cons, List.map_nil]); first | done | rfl | (simp only [List.length_drop, List.length_take]; rfl) | (have z_ : ∀ s_ : ByteArray, s_.size ≤ 9223372036854775807 → -(s_.size : Int) = wrap64 (-(s_.size : Int)) := (fun s_ h_ => by unfold wrap64; omega); rw [← z_ _ (by omega)]; rfl) | (simp only [ByteArray.size_append]; rfl)) ?_; (with_reducible refine (florinlaw02_Raw_Few.calls a0_0 _ _ l0_1 a0_2 40 true _ ?side1 ?side2 A6.out).mono ?_); (case side1 => repeat (first | exact (Kd.C_below HR0_1.out HB.out) | (with_reducible refine Kd.C_alloc ?_ _) | (with_reducible refine Kd.C_drewN ?_ _) | (with_reducible refine Kd.C_drew ?_))); (case side2 => exact HC0_1.out); rintro e w17 ⟨rfl, hb⟩; refine ⟨_, rfl, ?_⟩; have n0_ := bb_ BK536 hb; have n1_ := Aside0.mk (below_step (bl_ HB).out hb); clear BK536; clear HB; have BK536 := n0_; have HB := n1_; clear n0_ n1_; (try clear hb); (try clear hb2); (try clear hk); (try clear hi)) | ((with_reducible refine gate_callee (f := 14) rfl ?_); refine goesL_ (some 20) rfl rfl Tryd.func14 (by kernel_rfl) rfl #[.int .i64 a2] rfl (by (try simp only [List.map_toArray, List.map_cons, List.map_nil]); first | done | rfl | (simp only [List.length_drop, List.length_take]; rfl) | (have z_ : ∀ s_ : ByteArray, s_.size ≤ 9223372036854775807 → -(s_.size : Int) = wrap64 (-(s_.size : Int)) := (fun s_ h_ => by unfold wrap64; omega); rw [← z_ _ (by omega)]; rfl) | (simp only [ByteArray.size_append]; rfl)) ?_; (with_reducible refine (florinlaw03_Mode.calls a2 t539 _ A8.out).mono ?_); rintro e w' ⟨rfl, ⟨nd, rfl⟩⟩; refine ⟨_, rfl, ?_⟩))
      (try (rw [drewN_self w17]; generalize hq_ : World.drewN w17 _ = w17; have n0_ : Aside0 (w17.heap[gb536]? = some (.cells #[.bool a0_0, .slice A0_1 l0_1.length c0_1, .int .i64 a0_2] 24 (0, 0))) := ⟨by rw [← hq_]; exact (by (with_reducible repeat (first | refine blk_drewN ?_ _ | refine blk_drew ?_ | refine blk_alloc ?_ _)); exact BK536.out)⟩; have n1_ : Aside0 (Below w.heap.size w w17) := ⟨by rw [← hq_]; exact (bl_ HB).out⟩; clear BK536 HB hq_; have BK536 := n0_; have HB := n1_; clear n0_ n1_))
      replace BK536 := Aside0.mk (blk_drew BK536.out)
      replace HB := Aside0.mk (below_drew1 HB.out)
      refine start_ (n := 12) (S := fun w' => w'.cell? ⟨gb536, 0, none⟩ = some (.bool a0_0) ∧ w'.cell? ⟨gb536, 1, none⟩ = some (.slice A0_1 l0_1.length c0_1) ∧ w'.cell? ⟨gb536, 2, none⟩ = some (.int .i64 a0_2)) (ds := []) #[false, false, false, false, false, false, false, false, false, false, false, false] (by kernel_rfl) rfl rfl ⟨bc_ BK536 0, bc_ BK536 1, bc_ BK536 2⟩ (fun hHeld => ?_); refine with_tabW florinlaw03_RoundAt.tab7 florinlaw03_RoundAt.bits7 (fun HT_ HW_ => ?_)
      generalize w17.drew = w18 at BK536 HB hHeld ⊢
      refine pu_ 4 25 (bm_ 12 16) HT_ ?_
      refine pu_ 5 26 (bm_ 12 48) HT_ ?_
      refine pu_ 7 28 (bm_ 12 176) HT_ ?_
      refine pu_ 9 30 (bm_ 12 688) HT_ ?_
      refine tk_ 0 21 (bm_ 12 689) HT_ HW_ hHeld rfl (by rintro w' ⟨s0, s1, s2⟩; go_simp; with_reducible rfl) ?_
      refine tk_ 2 23 (bm_ 12 693) HT_ HW_ hHeld rfl (by rintro w' ⟨s0, s1, s2⟩; go_simp; with_reducible rfl) ?_
      refine one_ (i := 1) (N := some 22) (bm_ 12 695) rfl rfl (one_of HT_.out (by kernel_rfl)) (by decide) (fun K hK => ?_)
      refine gs_ Tryd.func12 #[.agg #[.bool a0_0, .slice A0_1 l0_1.length c0_1, .int .i64 a0_2]] ?_
      with_reducible refine (florinlaw02_Raw_Make.calls k a0_0 _ _ l0_1 a0_2 t540 t541 t542 _ ?side1 ?side2 A9.out).mono ?_
      (case side1 => repeat (first | exact (Kd.C_below HR0_1.out HB.out) | (with_reducible refine Kd.C_alloc ?_ _) | (with_reducible refine Kd.C_drewN ?_ _) | (with_reducible refine Kd.C_drew ?_)))
      (case side2 => exact HC0_1.out)
      rintro e w19 ⟨rfl, hb⟩
      refine ⟨_, rfl, ?_⟩
      replace BK536 := bb_ BK536 hb
      replace HB := Aside0.mk (below_step (bl_ HB).out hb)
      (try clear hb)
      (try clear hb2)
      (try clear hk)
      (try clear hi)
      refine hK.out _ _ ⟨bc_ BK536 0, bc_ BK536 1, bc_ BK536 2⟩ (fun hHeld => ?_)
      clear hK K
      refine nm_ 22 ?_
      refine one_ (i := 3) (N := some 24) (bm_ 12 703) rfl rfl (one_of HT_.out (by kernel_rfl)) (by decide) (fun K hK => ?_)
      refine gs_ Tryd.func12 #[.agg #[.bool a0_0, .slice A0_1 l0_1.length c0_1, .int .i64 a0_2]] ?_
      with_reducible refine (florinlaw02_Raw_Make.calls k a0_0 _ _ l0_1 a0_2 t543 t544 t545 _ ?side1 ?side2 A10.out).mono ?_
      (case side1 => repeat (first | exact (Kd.C_below HR0_1.out HB.out) | (with_reducible refine Kd.C_alloc ?_ _) | (with_reducible refine Kd.C_drewN ?_ _) | (with_reducible refine Kd.C_drew ?_)))
      (case side2 => exact HC0_1.out)
      rintro e w20 ⟨rfl, hb⟩
      refine ⟨_, rfl, ?_⟩
      replace BK536 := bb_ BK536 hb
      replace HB := Aside0.mk (below_step (bl_ HB).out hb)
      (try clear hb)
      (try clear hb2)
      (try clear hk)
      (try clear hi)
      refine hK.out _ _ ⟨bc_ BK536 0, bc_ BK536 1, bc_ BK536 2⟩ (fun hHeld => ?_)
      clear hK K
      refine nm_ 24 ?_
      refine one_ (i := 6) (N := some 27) (bm_ 12 767) rfl rfl (one_of HT_.out (by kernel_rfl)) (by decide) (fun K hK => ?_)
      refine gs_ Tryd.func13 #[.agg #[.bool t543, .string t544, .int .i64 t545], .int .i64 (wrap64 ((Int.tmod a1 60) - (wrap64 (Int.tdiv (Int.tmod a1 60) 2)))), .int .i64 t539] ?_
      with_reducible refine (round_At.calls k t543 t544 t545 (wrap64 ((Int.tmod a1 60) - (wrap64 (Int.tdiv (Int.tmod a1 60) 2)))) t539 t546 t547 t548 _ A11.out).mono ?_
      rintro e w21 ⟨rfl, hb⟩
      refine ⟨_, rfl, ?_⟩
      replace BK536 := bb_ BK536 hb
      replace HB := Aside0.mk (below_step (bl_ HB).out hb)
      (try clear hb)
      (try clear hb2)
      (try clear hk)
      (try clear hi)
      refine hK.out _ _ ⟨bc_ BK536 0, bc_ BK536 1, bc_ BK536 2⟩ (fun hHeld => ?_)
      clear hK K
      refine nm_ 27 ?_
      refine one_ (i := 8) (N := some 29) (bm_ 12 1023) rfl rfl (one_of HT_.out (by kernel_rfl)) (by decide) (fun K hK => ?_)
      refine gs_ Tryd.func19 #[.int .i64 (wrap64 ((Int.tmod a1 60) - (wrap64 (Int.tdiv (Int.tmod a1 60) 2))))] ?_
      with_reducible refine (florinlaw03_unit.calls k (wrap64 ((Int.tmod a1 60) - (wrap64 (Int.tdiv (Int.tmod a1 60) 2)))) t549 t550 t551 _ A12.out).mono ?_
      rintro e w22 ⟨rfl, hb⟩
      refine ⟨_, rfl, ?_⟩
      replace BK536 := bb_ BK536 hb
      replace HB := Aside0.mk (below_step (bl_ HB).out hb)
      (try clear hb)
      (try clear hb2)
      (try clear hk)
      (try clear hi)
      refine hK.out _ _ ⟨bc_ BK536 0, bc_ BK536 1, bc_ BK536 2⟩ (fun hHeld => ?_)
      clear hK K
      refine nm_ 29 ?_
      refine one_ (i := 10) (N := some 31) (bm_ 12 2047) rfl rfl (one_of HT_.out (by kernel_rfl)) (by decide) (fun K hK => ?_)
      refine gs_ Tryd.func27 #[.agg #[.bool t540, .string t541, .int .i64 t542], .agg #[.bool t546, .string t547, .int .i64 t548], .agg #[.bool t549, .string t550, .int .i64 t551], .int .i64 t539] ?_
      with_reducible refine (florinlaw03_Rounded.calls k t540 t541 t542 t546 t547 t548 t549 t550 t551 t539 t552 _ A13.out).mono ?_
      rintro e w23 ⟨rfl, hb⟩
      refine ⟨_, rfl, ?_⟩
      replace BK536 := bb_ BK536 hb
      replace HB := Aside0.mk (below_step (bl_ HB).out hb)
      (try clear hb)
      (try clear hb2)
      (try clear hk)
      (try clear hi)
      refine hK.out _ _ ⟨bc_ BK536 0, bc_ BK536 1, bc_ BK536 2⟩ (fun hHeld => ?_)
      clear hK K
      refine nm_ 31 ?_
      refine pu_ 11 6 (bm_ 12 4095) HT_ ?_
      refine done_ (done_of HT_.out (by kernel_rfl)) ?_
      try go_wp2
      go_ret
      exact ⟨by first | rfl | (simp [errW_none, errW_some] <;> rfl) | (simp [*, errW_none, errW_some] <;> first | rfl | exact given_isEmpty _ | exact (given_isEmpty _).symm), by repeat (first | (with_reducible first | exact HB.out | apply below_alloc | apply pw_below_drewN | apply below_drew1 | refine below_set ?_ GE536.out) | exact HB.out)⟩
    · replace c7 := Bool.eq_false_iff.mpr c7
      subst c7
      have H1 : (some true) = some r := by rw [if_neg (show ¬ (false = true) by decide)] at H; exact H
      clear H
      have H := H1
      clear H1
      obtain rfl := Option.some.inj H
      go_enter Tryd.func6, Tryd.ntmps6
      go_wp2_with (first | ((with_reducible refine gate_dst (N := 3) rfl ?_); refine box_event ?hg (N := 3) ?hd (cs := #[.bool a0_0, .slice A0_1 l0_1.length c0_1, .int .i64 a0_2]) (t := 24) ?hr ?_; (case hd => rfl); (case hg => rfl); (case hr => first | (go_simp; done) | (go_simp; rfl)); intro gb536 hg w24 hbox hb; have n0_ := Aside0.mk (below_step (bl_ HB).out hb); have n1_ := Aside0.mk (hbox); have n2_ := Aside0.mk ((by rw [hg]; exact (below_size (bl_ HB).out) : w.heap.size ≤ gb536)); have n3_ := Aside0.mk ((by rw [hg]; exact (below_size (bl_ HB).out) : w.heap.size ≤ gb536)); clear HB; have HB := n0_; have BK536 := n1_; have GW536 := n2_; have GE536 := n3_; clear n0_ n1_ n2_ n3_; clear hb hbox hg) | ((with_reducible refine gate_callee (f := 10) rfl ?_); refine goesL_ (some 8) rfl rfl Tryd.func10 (by kernel_rfl) rfl #[] rfl (by (try simp only [List.map_toArray, List.map_cons, List.map_nil]); first | done | rfl | (simp only [List.length_drop, List.length_take]; rfl) | (have z_ : ∀ s_ : ByteArray, s_.size ≤ 9223372036854775807 → -(s_.size : Int) = wrap64 (-(s_.size : Int)) := (fun s_ h_ => by unfold wrap64; omega); rw [← z_ _ (by omega)]; rfl) | (simp only [ByteArray.size_append]; rfl)) ?_; (with_reducible refine (florinlaw03_head.calls k  true _ A4.out).mono ?_); rintro e w25 ⟨rfl, hb⟩; refine ⟨_, rfl, ?_⟩; have n0_ := bb_ BK536 hb; have n1_ := Aside0.mk (below_step (bl_ HB).out hb); clear BK536; clear HB; have BK536 := n0_; have HB := n1_; clear n0_ n1_; (try clear hb); (try clear hb2); (try clear hk); (try clear hi); have hcz26_0 : w25.cell? ⟨gb536, 0, none⟩ = some (.bool a0_0) := bc_ BK536 0; have hcz26_1 : w25.cell? ⟨gb536, 1, none⟩ = some (.slice A0_1 l0_1.length c0_1) := bc_ BK536 1; have hcz26_2 : w25.cell? ⟨gb536, 2, none⟩ = some (.int .i64 a0_2) := bc_ BK536 2; have hfz26_0 := blk_frozen BK536.out 0; have hfz26_1 := blk_frozen BK536.out 1; have hfz26_2 := blk_frozen BK536.out 2) | ((with_reducible refine gate_callee (f := 11) rfl ?_); refine goesL_ (some 11) rfl rfl Tryd.func11 (by kernel_rfl) rfl #[.agg #[.bool a0_0, .slice A0_1 l0_1.length c0_1, .int .i64 a0_2], .int .i64 40] rfl (by (try simp only [List.map_toArray, List.map_cons, List.map_nil]); first | done | rfl | (simp only [List.length_drop, List.length_take]; rfl) | (have z_ : ∀ s_ : ByteArray, s_.size ≤ 9223372036854775807 → -(s_.size : Int) = wrap64 (-(s_.size : Int)) := (fun s_ h_ => by unfold wrap64; omega); rw [← z_ _ (by omega)]; rfl) | (simp only [ByteArray.size_append]; rfl)) ?_; (with_reducible refine (florinlaw02_Raw_Few.calls a0_0 _ _ l0_1 a0_2 40 false _ ?side1 ?side2 A6.out).mono ?_); (case side1 => repeat (first | exact (Kd.C_below HR0_1.out HB.out) | (with_reducible refine Kd.C_alloc ?_ _) | (with_reducible refine Kd.C_drewN ?_ _) | (with_reducible refine Kd.C_drew ?_))); (case side2 => exact HC0_1.out); rintro e w27 ⟨rfl, hb⟩; refine ⟨_, rfl, ?_⟩; have n0_ := bb_ BK536 hb; have n1_ := Aside0.mk (below_step (bl_ HB).out hb); clear BK536; clear HB; have BK536 := n0_; have HB := n1_; clear n0_ n1_; (try clear hb); (try clear hb2); (try clear hk); (try clear hi)))
      go_ret
      exact ⟨by first | rfl | (simp [errW_none, errW_some] <;> rfl) | (simp [*, errW_none, errW_some] <;> first | rfl | exact given_isEmpty _ | exact (given_isEmpty _).symm), by repeat (first | (with_reducible first | exact HB.out | apply below_alloc | apply pw_below_drewN | apply below_drew1 | refine below_set ?_ GE536.out) | exact HB.out)⟩
  · replace c5 := Bool.eq_false_iff.mpr c5
    subst c5
    have H1 : (some false) = some r := by rw [if_neg (show ¬ (false = true) by decide)] at H; exact H
    clear H
    have H := H1
    clear H1
    obtain rfl := Option.some.inj H
    go_enter Tryd.func6, Tryd.ntmps6
    go_wp2_with (first | ((with_reducible refine gate_dst (N := 3) rfl ?_); refine box_event ?hg (N := 3) ?hd (cs := #[.bool a0_0, .slice A0_1 l0_1.length c0_1, .int .i64 a0_2]) (t := 24) ?hr ?_; (case hd => rfl); (case hg => rfl); (case hr => first | (go_simp; done) | (go_simp; rfl)); intro gb536 hg w28 hbox hb; have n0_ := Aside0.mk (below_step (bl_ HB).out hb); have n1_ := Aside0.mk (hbox); have n2_ := Aside0.mk ((by rw [hg]; exact (below_size (bl_ HB).out) : w.heap.size ≤ gb536)); have n3_ := Aside0.mk ((by rw [hg]; exact (below_size (bl_ HB).out) : w.heap.size ≤ gb536)); clear HB; have HB := n0_; have BK536 := n1_; have GW536 := n2_; have GE536 := n3_; clear n0_ n1_ n2_ n3_; clear hb hbox hg) | ((with_reducible refine gate_callee (f := 10) rfl ?_); refine goesL_ (some 8) rfl rfl Tryd.func10 (by kernel_rfl) rfl #[] rfl (by (try simp only [List.map_toArray, List.map_cons, List.map_nil]); first | done | rfl | (simp only [List.length_drop, List.length_take]; rfl) | (have z_ : ∀ s_ : ByteArray, s_.size ≤ 9223372036854775807 → -(s_.size : Int) = wrap64 (-(s_.size : Int)) := (fun s_ h_ => by unfold wrap64; omega); rw [← z_ _ (by omega)]; rfl) | (simp only [ByteArray.size_append]; rfl)) ?_; (with_reducible refine (florinlaw03_head.calls k  false _ A4.out).mono ?_); rintro e w29 ⟨rfl, hb⟩; refine ⟨_, rfl, ?_⟩; have n0_ := bb_ BK536 hb; have n1_ := Aside0.mk (below_step (bl_ HB).out hb); clear BK536; clear HB; have BK536 := n0_; have HB := n1_; clear n0_ n1_; (try clear hb); (try clear hb2); (try clear hk); (try clear hi)))
    go_ret
    exact ⟨by first | rfl | (simp [errW_none, errW_some] <;> rfl) | (simp [*, errW_none, errW_some] <;> first | rfl | exact given_isEmpty _ | exact (given_isEmpty _).symm), by repeat (first | (with_reducible first | exact HB.out | apply below_alloc | apply pw_below_drewN | apply below_drew1 | refine below_set ?_ GE536.out) | exact HB.out)⟩

end Go.Proofs.YtoegmienlhgjnaaDoor.P
