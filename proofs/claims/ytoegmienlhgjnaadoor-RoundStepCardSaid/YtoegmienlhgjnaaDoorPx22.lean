-- written by a program of this session (wip/p2)
import Derived.Test.YtoegmienlhgjnaaDoorPx0
import Derived.Test.YtoegmienlhgjnaaDoorPx2
import Derived.Test.YtoegmienlhgjnaaDoorPx5
import Derived.Test.YtoegmienlhgjnaaDoorPx7
import Derived.Test.YtoegmienlhgjnaaDoorPx9
import Derived.Test.YtoegmienlhgjnaaDoorPx14
import Derived.Test.YtoegmienlhgjnaaDoorPx17
import Derived.Test.YtoegmienlhgjnaaDoorPx21
namespace Go.Proofs.YtoegmienlhgjnaaDoor.P
open Go.RowKit Go.Proofs.YtoegmienlhgjnaaDoorW.PrintWords Go.Proofs.YtoegmienlhgjnaaDoorW.PrintLast Go.Proofs.YtoegmienlhgjnaaDoorW.PrintMore
attribute [local go_sem] max2_int min2_int max_two min_two max_three min_three max_four min_four   -- for this text's walks alone
set_option linter.unusedVariables false
set_option linter.unusedSimpArgs false

/-! ### florinlaw03_RoundStep: function 9 -/
def florinlaw03_RoundStep.f (k : Nat) (a0_0 : Bool) (l0_1 : List Int) (a0_2 : Int) (a1 : Int) (a2 : Int) (a3 : Int) : Option (Bool) := (florinlaw03_head.f k).bind fun t625 => (if t625 = true then ((florinlaw02_Raw_Few.f a0_0 l0_1 a0_2 30).bind fun t626 => (if t626 = true then ((florinlaw03_Mode.f a3).bind fun t627 => ((num_Of.f k (wrap64 (1 + (Go.bits .and .i64 a1 16777215)))).bind fun t628 => ((dec_Made.f k false t628 (wrap64 ((Int.tmod a2 20) - (wrap64 (Int.tdiv (Int.tmod a2 20) 2))))).bind fun bt629 => ((florinlaw02_Raw_Make.f k a0_0 l0_1 a0_2).bind fun bt633 => ((florinlaw02_Raw_Make.f k a0_0 l0_1 a0_2).bind fun bt636 => ((round_Step.f k bt636.1 bt636.2.1 bt636.2.2 bt629.1 bt629.2.1 bt629.2.2 t627).bind fun bt639 => ((florinlaw03_Rounded.f k bt633.1 bt633.2.1 bt633.2.2 bt639.1 bt639.2.1 bt639.2.2 bt629.1 bt629.2.1 bt629.2.2 t627).bind fun t642 => (some t642)))))))) else (some true))) else (some false))
theorem florinlaw03_RoundStep.mono : ∀ a0 a1 a2 a3 a4 a5 k, LeO (florinlaw03_RoundStep.f k a0 a1 a2 a3 a4 a5) (florinlaw03_RoundStep.f (k + 1) a0 a1 a2 a3 a4 a5) := by
  intro a0 a1 a2 a3 a4 a5 k
  unfold florinlaw03_RoundStep.f
  repeat' first
      | (with_reducible exact dec_Made.mono _ _ _ _)
      | (with_reducible exact florinlaw02_Raw_Make.mono _ _ _ _)
      | (with_reducible exact florinlaw03_Rounded.mono _ _ _ _ _ _ _ _ _ _ _)
      | (with_reducible exact florinlaw03_head.mono _)
      | (with_reducible exact num_Of.mono _ _)
      | (with_reducible exact round_Step.mono _ _ _ _ _ _ _ _)
      | (with_reducible exact LeO.refl _)
      | (with_reducible exact LeO.none _)
      | (with_reducible refine LeO.ite ?_ ?_)
      | (with_reducible refine LeO.bind ?_ (fun _ => ?_))
      | exact dec_Made.mono _ _ _ _
      | exact florinlaw02_Raw_Make.mono _ _ _ _
      | exact florinlaw03_Rounded.mono _ _ _ _ _ _ _ _ _ _ _
      | exact florinlaw03_head.mono _
      | exact num_Of.mono _ _
      | exact round_Step.mono _ _ _ _ _ _ _ _
      | exact LeO.none _
      | refine LeO.ite ?_ ?_
      | refine LeO.bind ?_ (fun _ => ?_)
def florinlaw03_RoundStep.T8 : Bool × List (List Nat × List Nat) := (true, [([], []), ([0], [0]), ([], []), ([2, 1], [2]), ([], []), ([], []), ([3, 4, 5, 3], [3, 4, 5]), ([], []), ([], []), ([1, 6, 7, 8, 6], [1, 6, 7, 8]), ([9, 9, 0, 1, 2, 3, 4, 5, 6, 7, 8, 9], [9])])
def florinlaw03_RoundStep.B8 : List Nat := [0, 1, 0, 7, 0, 0, 63, 0, 0, 511, 1023]
theorem florinlaw03_RoundStep.tab8 : rtab .any (opsOf Tryd.f9 8) = florinlaw03_RoundStep.T8 := by kernel_rfl
theorem florinlaw03_RoundStep.bits8 : waitsOk florinlaw03_RoundStep.T8.2 florinlaw03_RoundStep.B8 = true := by kernel_rfl
set_option maxHeartbeats 8000000 in
set_option maxRecDepth 100000 in
theorem florinlaw03_RoundStep.calls (k : Nat) (a0_0 : Bool) (A0_1 : Option Addr) (c0_1 : Nat) (l0_1 : List Int) (a0_2 : Int) (a1 : Int) (a2 : Int) (a3 : Int) (r : Bool) (w : World) (hr0_1 : Kd.C (Kd.int .u8) w A0_1 l0_1.length l0_1) (hc0_1 : l0_1.length ≤ c0_1) (h : florinlaw03_RoundStep.f k a0_0 l0_1 a0_2 a1 a2 a3 = some r) :
    Calls Tryd.prog 9 #[.agg #[.bool a0_0, .slice A0_1 l0_1.length c0_1, .int .i64 a0_2], .int .i64 a1, .int .i64 a2, .int .i64 a3] w fun e w' => e = .returned (.bool r) ∧ Below w.heap.size w w' := by
  have hu24 := Tryd.underlying24
  have hu30 := Tryd.underlying30
  have HR0_1 := Aside0.mk hr0_1
  have HC0_1 := Aside0.mk hc0_1
  clear hr0_1 hc0_1
  have HB := Aside0.mk (Below.refl w.heap.size w)
  have H : ((florinlaw03_head.f k).bind fun t625 => (if t625 = true then ((florinlaw02_Raw_Few.f a0_0 l0_1 a0_2 30).bind fun t626 => (if t626 = true then ((florinlaw03_Mode.f a3).bind fun t627 => ((num_Of.f k (wrap64 (1 + (Go.bits .and .i64 a1 16777215)))).bind fun t628 => ((dec_Made.f k false t628 (wrap64 ((Int.tmod a2 20) - (wrap64 (Int.tdiv (Int.tmod a2 20) 2))))).bind fun bt629 => ((florinlaw02_Raw_Make.f k a0_0 l0_1 a0_2).bind fun bt633 => ((florinlaw02_Raw_Make.f k a0_0 l0_1 a0_2).bind fun bt636 => ((round_Step.f k bt636.1 bt636.2.1 bt636.2.2 bt629.1 bt629.2.1 bt629.2.2 t627).bind fun bt639 => ((florinlaw03_Rounded.f k bt633.1 bt633.2.1 bt633.2.2 bt639.1 bt639.2.1 bt639.2.2 bt629.1 bt629.2.1 bt629.2.2 t627).bind fun t642 => (some t642)))))))) else (some true))) else (some false))) = some r := h
  clear h
  replace H := Option.bind_eq_some_iff.mp H
  obtain ⟨t625, A50, H⟩ := H
  replace H : (if t625 = true then ((florinlaw02_Raw_Few.f a0_0 l0_1 a0_2 30).bind fun t626 => (if t626 = true then ((florinlaw03_Mode.f a3).bind fun t627 => ((num_Of.f k (wrap64 (1 + (Go.bits .and .i64 a1 16777215)))).bind fun t628 => ((dec_Made.f k false t628 (wrap64 ((Int.tmod a2 20) - (wrap64 (Int.tdiv (Int.tmod a2 20) 2))))).bind fun bt629 => ((florinlaw02_Raw_Make.f k a0_0 l0_1 a0_2).bind fun bt633 => ((florinlaw02_Raw_Make.f k a0_0 l0_1 a0_2).bind fun bt636 => ((round_Step.f k bt636.1 bt636.2.1 bt636.2.2 bt629.1 bt629.2.1 bt629.2.2 t627).bind fun bt639 => ((florinlaw03_Rounded.f k bt633.1 bt633.2.1 bt633.2.2 bt639.1 bt639.2.1 bt639.2.2 bt629.1 bt629.2.1 bt629.2.2 t627).bind fun t642 => (some t642)))))))) else (some true))) else (some false)) = some r := H
  have A5 := Aside0.mk A50
  clear A50
  by_cases c6 : t625 = true
  · subst c6
    have H1 : ((florinlaw02_Raw_Few.f a0_0 l0_1 a0_2 30).bind fun t626 => (if t626 = true then ((florinlaw03_Mode.f a3).bind fun t627 => ((num_Of.f k (wrap64 (1 + (Go.bits .and .i64 a1 16777215)))).bind fun t628 => ((dec_Made.f k false t628 (wrap64 ((Int.tmod a2 20) - (wrap64 (Int.tdiv (Int.tmod a2 20) 2))))).bind fun bt629 => ((florinlaw02_Raw_Make.f k a0_0 l0_1 a0_2).bind fun bt633 => ((florinlaw02_Raw_Make.f k a0_0 l0_1 a0_2).bind fun bt636 => ((round_Step.f k bt636.1 bt636.2.1 bt636.2.2 bt629.1 bt629.2.1 bt629.2.2 t627).bind fun bt639 => ((florinlaw03_Rounded.f k bt633.1 bt633.2.1 bt633.2.2 bt639.1 bt639.2.1 bt639.2.2 bt629.1 bt629.2.1 bt629.2.2 t627).bind fun t642 => (some t642)))))))) else (some true))) = some r := by rw [if_pos rfl] at H; exact H
    clear H
    have H := H1
    clear H1
    replace H := Option.bind_eq_some_iff.mp H
    obtain ⟨t626, A70, H⟩ := H
    replace H : (if t626 = true then ((florinlaw03_Mode.f a3).bind fun t627 => ((num_Of.f k (wrap64 (1 + (Go.bits .and .i64 a1 16777215)))).bind fun t628 => ((dec_Made.f k false t628 (wrap64 ((Int.tmod a2 20) - (wrap64 (Int.tdiv (Int.tmod a2 20) 2))))).bind fun bt629 => ((florinlaw02_Raw_Make.f k a0_0 l0_1 a0_2).bind fun bt633 => ((florinlaw02_Raw_Make.f k a0_0 l0_1 a0_2).bind fun bt636 => ((round_Step.f k bt636.1 bt636.2.1 bt636.2.2 bt629.1 bt629.2.1 bt629.2.2 t627).bind fun bt639 => ((florinlaw03_Rounded.f k bt633.1 bt633.2.1 bt633.2.2 bt639.1 bt639.2.1 bt639.2.2 bt629.1 bt629.2.1 bt629.2.2 t627).bind fun t642 => (some t642)))))))) else (some true)) = some r := H
    have A7 := Aside0.mk A70
    clear A70
    by_cases c8 : t626 = true
    · subst c8
      have H1 : ((florinlaw03_Mode.f a3).bind fun t627 => ((num_Of.f k (wrap64 (1 + (Go.bits .and .i64 a1 16777215)))).bind fun t628 => ((dec_Made.f k false t628 (wrap64 ((Int.tmod a2 20) - (wrap64 (Int.tdiv (Int.tmod a2 20) 2))))).bind fun bt629 => ((florinlaw02_Raw_Make.f k a0_0 l0_1 a0_2).bind fun bt633 => ((florinlaw02_Raw_Make.f k a0_0 l0_1 a0_2).bind fun bt636 => ((round_Step.f k bt636.1 bt636.2.1 bt636.2.2 bt629.1 bt629.2.1 bt629.2.2 t627).bind fun bt639 => ((florinlaw03_Rounded.f k bt633.1 bt633.2.1 bt633.2.2 bt639.1 bt639.2.1 bt639.2.2 bt629.1 bt629.2.1 bt629.2.2 t627).bind fun t642 => (some t642)))))))) = some r := by rw [if_pos rfl] at H; exact H
      clear H
      have H := H1
      clear H1
      replace H := Option.bind_eq_some_iff.mp H
      obtain ⟨t627, A90, H⟩ := H
      replace H : ((num_Of.f k (wrap64 (1 + (Go.bits .and .i64 a1 16777215)))).bind fun t628 => ((dec_Made.f k false t628 (wrap64 ((Int.tmod a2 20) - (wrap64 (Int.tdiv (Int.tmod a2 20) 2))))).bind fun bt629 => ((florinlaw02_Raw_Make.f k a0_0 l0_1 a0_2).bind fun bt633 => ((florinlaw02_Raw_Make.f k a0_0 l0_1 a0_2).bind fun bt636 => ((round_Step.f k bt636.1 bt636.2.1 bt636.2.2 bt629.1 bt629.2.1 bt629.2.2 t627).bind fun bt639 => ((florinlaw03_Rounded.f k bt633.1 bt633.2.1 bt633.2.2 bt639.1 bt639.2.1 bt639.2.2 bt629.1 bt629.2.1 bt629.2.2 t627).bind fun t642 => (some t642))))))) = some r := H
      have A9 := Aside0.mk A90
      clear A90
      replace H := Option.bind_eq_some_iff.mp H
      obtain ⟨t628, A100, H⟩ := H
      replace H : ((dec_Made.f k false t628 (wrap64 ((Int.tmod a2 20) - (wrap64 (Int.tdiv (Int.tmod a2 20) 2))))).bind fun bt629 => ((florinlaw02_Raw_Make.f k a0_0 l0_1 a0_2).bind fun bt633 => ((florinlaw02_Raw_Make.f k a0_0 l0_1 a0_2).bind fun bt636 => ((round_Step.f k bt636.1 bt636.2.1 bt636.2.2 bt629.1 bt629.2.1 bt629.2.2 t627).bind fun bt639 => ((florinlaw03_Rounded.f k bt633.1 bt633.2.1 bt633.2.2 bt639.1 bt639.2.1 bt639.2.2 bt629.1 bt629.2.1 bt629.2.2 t627).bind fun t642 => (some t642)))))) = some r := H
      have A10 := Aside0.mk A100
      clear A100
      replace H := Option.bind_eq_some_iff.mp H
      obtain ⟨⟨t629, t630, t631⟩, A110, H⟩ := H
      replace H : ((florinlaw02_Raw_Make.f k a0_0 l0_1 a0_2).bind fun bt633 => ((florinlaw02_Raw_Make.f k a0_0 l0_1 a0_2).bind fun bt636 => ((round_Step.f k bt636.1 bt636.2.1 bt636.2.2 t629 t630 t631 t627).bind fun bt639 => ((florinlaw03_Rounded.f k bt633.1 bt633.2.1 bt633.2.2 bt639.1 bt639.2.1 bt639.2.2 t629 t630 t631 t627).bind fun t642 => (some t642))))) = some r := H
      have A11 := Aside0.mk A110
      clear A110
      replace H := Option.bind_eq_some_iff.mp H
      obtain ⟨⟨t633, t634, t635⟩, A120, H⟩ := H
      replace H : ((florinlaw02_Raw_Make.f k a0_0 l0_1 a0_2).bind fun bt636 => ((round_Step.f k bt636.1 bt636.2.1 bt636.2.2 t629 t630 t631 t627).bind fun bt639 => ((florinlaw03_Rounded.f k t633 t634 t635 bt639.1 bt639.2.1 bt639.2.2 t629 t630 t631 t627).bind fun t642 => (some t642)))) = some r := H
      have A12 := Aside0.mk A120
      clear A120
      replace H := Option.bind_eq_some_iff.mp H
      obtain ⟨⟨t636, t637, t638⟩, A130, H⟩ := H
      replace H : ((round_Step.f k t636 t637 t638 t629 t630 t631 t627).bind fun bt639 => ((florinlaw03_Rounded.f k t633 t634 t635 bt639.1 bt639.2.1 bt639.2.2 t629 t630 t631 t627).bind fun t642 => (some t642))) = some r := H
      have A13 := Aside0.mk A130
      clear A130
      replace H := Option.bind_eq_some_iff.mp H
      obtain ⟨⟨t639, t640, t641⟩, A140, H⟩ := H
      replace H : ((florinlaw03_Rounded.f k t633 t634 t635 t639 t640 t641 t629 t630 t631 t627).bind fun t642 => (some t642)) = some r := H
      have A14 := Aside0.mk A140
      clear A140
      replace H := Option.bind_eq_some_iff.mp H
      obtain ⟨t642, A150, H⟩ := H
      replace H : (some t642) = some r := H
      have A15 := Aside0.mk A150
      clear A150
      obtain rfl := Option.some.inj H
      go_enter Tryd.func9, Tryd.ntmps9
      try go_wp2_with (first | ((with_reducible refine gate_dst (N := 4) rfl ?_); refine box_event ?hg (N := 4) ?hd (cs := #[.bool a0_0, .slice A0_1 l0_1.length c0_1, .int .i64 a0_2]) (t := 24) ?hr ?_; (case hd => rfl); (case hg => rfl); (case hr => first | (go_simp; done) | (go_simp; rfl)); intro gb624 hg w16 hbox hb; have n0_ := Aside0.mk (below_step (bl_ HB).out hb); have n1_ := Aside0.mk (hbox); have n2_ := Aside0.mk ((by rw [hg]; exact (below_size (bl_ HB).out) : w.heap.size ≤ gb624)); have n3_ := Aside0.mk ((by rw [hg]; exact (below_size (bl_ HB).out) : w.heap.size ≤ gb624)); clear HB; have HB := n0_; have BK624 := n1_; have GW624 := n2_; have GE624 := n3_; clear n0_ n1_ n2_ n3_; clear hb hbox hg) | ((with_reducible refine gate_callee (f := 10) rfl ?_); refine goesL_ (some 11) rfl rfl Tryd.func10 (by kernel_rfl) rfl #[] rfl (by (try simp only [List.map_toArray, List.map_cons, List.map_nil]); first | done | rfl | (simp only [List.length_drop, List.length_take]; rfl) | (have z_ : ∀ s_ : ByteArray, s_.size ≤ 9223372036854775807 → -(s_.size : Int) = wrap64 (-(s_.size : Int)) := (fun s_ h_ => by unfold wrap64; omega); rw [← z_ _ (by omega)]; rfl) | (simp only [ByteArray.size_append]; rfl)) ?_; (with_reducible refine (florinlaw03_head.calls k  true _ A5.out).mono ?_); rintro e w17 ⟨rfl, hb⟩; refine ⟨_, rfl, ?_⟩; have n0_ := bb_ BK624 hb; have n1_ := Aside0.mk (below_step (bl_ HB).out hb); clear BK624; clear HB; have BK624 := n0_; have HB := n1_; clear n0_ n1_; (try clear hb); (try clear hb2); (try clear hk); (try clear hi); have hcz18_0 : w17.cell? ⟨gb624, 0, none⟩ = some (.bool a0_0) := bc_ BK624 0; have hcz18_1 : w17.cell? ⟨gb624, 1, none⟩ = some (.slice A0_1 l0_1.length c0_1) := bc_ BK624 1; have hcz18_2 : w17.cell? ⟨gb624, 2, none⟩ = some (.int .i64 a0_2) := bc_ BK624 2; have hfz18_0 := blk_frozen BK624.out 0; have hfz18_1 := blk_frozen BK624.out 1; have hfz18_2 := blk_frozen BK624.out 2) | ((with_reducible refine gate_callee (f := 11) rfl ?_); refine goesL_ (some 14) rfl rfl Tryd.func11 (by kernel_rfl) rfl #[.agg #[.bool a0_0, .slice A0_1 l0_1.length c0_1, .int .i64 a0_2], .int .i64 30] rfl (by (try simp only [List.map_toArray, List.map_cons, List.map_nil]); first | done | rfl | (simp only [List.length_drop, List.length_take]; rfl) | (have z_ : ∀ s_ : ByteArray, s_.size ≤ 9223372036854775807 → -(s_.size : Int) = wrap64 (-(s_.size : Int)) := (fun s_ h_ => by unfold wrap64; omega); rw [← z_ _ (by omega)]; rfl) | (simp only [ByteArray.size_append]; rfl)) ?_; (with_reducible refine (florinlaw02_Raw_Few.calls a0_0 _ _ l0_1 a0_2 30 true _ ?side1 ?side2 A7.out).mono ?_); (case side1 => repeat (first | exact (Kd.C_below HR0_1.out HB.out) | (with_reducible refine Kd.C_alloc ?_ _) | (with_reducible refine Kd.C_drewN ?_ _) | (with_reducible refine Kd.C_drew ?_))); (case side2 => exact HC0_1.out); rintro e w19 ⟨rfl, hb⟩; refine ⟨_, rfl, ?_⟩; have n0_ := bb_ BK624 hb; have n1_ := Aside0.mk (below_step (bl_ HB).out hb); clear BK624; clear HB; have BK624 := n0_; have HB := n1_; clear n0_ n1_; (try clear hb); (try clear hb2); (try clear hk); (try clear hi)) | ((with_reducible refine gate_callee (f := 14) rfl ?_); refine goesL_ (some 23) rfl rfl Tryd.func14 (by kernel_rfl) rfl #[.int .i64 a3] rfl (by (try simp only [List.map_toArray, List.map_cons, List.map_nil]); first | done | rfl | (simp only [List.length_drop, List.length_take]; rfl) | (have z_ : ∀ s_ : ByteArray, s_.size ≤ 9223372036854775807 → -(s_.size : Int) = wrap64 (-(s_.size : Int)) := (fun s_ h_ => by unfold wrap64; omega); rw [← z_ _ (by omega)]; rfl) | (simp only [ByteArray.size_append]; rfl)) ?_; (with_reducible refine (florinlaw03_Mode.calls a3 t627 _ A9.out).mono ?_); rintro e w' ⟨rfl, ⟨nd, rfl⟩⟩; refine ⟨_, rfl, ?_⟩; (try (rw [drewN_self w19]; generalize hq_ : World.drewN w19 _ = w19; have n0_ : Aside0 (w19.heap[gb624]? = some (.cells #[.bool a0_0, .slice A0_1 l0_1.length c0_1, .int .i64 a0_2] 24 (0, 0))) := ⟨by rw [← hq_]; exact (by (with_reducible repeat (first | refine blk_drewN ?_ _ | refine blk_drew ?_ | refine blk_alloc ?_ _)); exact BK624.out)⟩; have n1_ : Aside0 (Below w.heap.size w w19) := ⟨by rw [← hq_]; exact (bl_ HB).out⟩; clear BK624 HB hq_; have BK624 := n0_; have HB := n1_; clear n0_ n1_))) | ((with_reducible refine gate_callee (f := 29) rfl ?_); refine goesL_ (some 27) rfl rfl Tryd.func29 (by kernel_rfl) rfl #[.int .i64 (wrap64 (1 + (Go.bits .and .i64 a1 16777215)))] rfl (by (try simp only [List.map_toArray, List.map_cons, List.map_nil]); first | done | rfl | (simp only [List.length_drop, List.length_take]; rfl) | (have z_ : ∀ s_ : ByteArray, s_.size ≤ 9223372036854775807 → -(s_.size : Int) = wrap64 (-(s_.size : Int)) := (fun s_ h_ => by unfold wrap64; omega); rw [← z_ _ (by omega)]; rfl) | (simp only [ByteArray.size_append]; rfl)) ?_; (with_reducible refine (num_Of.calls k (wrap64 (1 + (Go.bits .and .i64 a1 16777215))) t628 _ A10.out).mono ?_); rintro e w20 ⟨rfl, hb⟩; refine ⟨_, rfl, ?_⟩; have n0_ := bb_ BK624 hb; have n1_ := Aside0.mk (below_step (bl_ HB).out hb); clear BK624; clear HB; have BK624 := n0_; have HB := n1_; clear n0_ n1_; (try clear hb); (try clear hb2); (try clear hk); (try clear hi)) | ((with_reducible refine gate_callee (f := 23) rfl ?_); refine goesL_ (some 29) rfl rfl Tryd.func23 (by kernel_rfl) rfl #[.bool false, .string t628, .int .i64 (wrap64 ((Int.tmod a2 20) - (wrap64 (Int.tdiv (Int.tmod a2 20) 2))))] rfl (by (try simp only [List.map_toArray, List.map_cons, List.map_nil]); first | done | rfl | (simp only [List.length_drop, List.length_take]; rfl) | (have z_ : ∀ s_ : ByteArray, s_.size ≤ 9223372036854775807 → -(s_.size : Int) = wrap64 (-(s_.size : Int)) := (fun s_ h_ => by unfold wrap64; omega); rw [← z_ _ (by omega)]; rfl) | (simp only [ByteArray.size_append]; rfl)) ?_; (with_reducible refine (dec_Made.calls k false t628 (wrap64 ((Int.tmod a2 20) - (wrap64 (Int.tdiv (Int.tmod a2 20) 2)))) t629 t630 t631 _ A11.out).mono ?_); rintro e w21 ⟨rfl, hb⟩; refine ⟨_, rfl, ?_⟩; have n0_ := bb_ BK624 hb; have n1_ := Aside0.mk (below_step (bl_ HB).out hb); clear BK624; clear HB; have BK624 := n0_; have HB := n1_; clear n0_ n1_; (try clear hb); (try clear hb2); (try clear hk); (try clear hi)) | ((with_reducible refine gate_dst (N := 10) rfl ?_); refine box_event ?hg (N := 10) ?hd (cs := #[.bool false, .string (⟨#[]⟩ : ByteArray), .int .i64 0]) (t := 30) ?hr ?_; (case hd => rfl); (case hg => rfl); (case hr => first | (go_simp; done) | (go_simp; rfl)); intro gb632 hg w22 hbox hb; have n0_ := bb_ BK624 hb; have n1_ := Aside0.mk (below_step (bl_ HB).out hb); have n2_ := Aside0.mk (hbox); have n3_ := Aside0.mk ((by rw [hg]; exact (below_size (bl_ HB).out) : w.heap.size ≤ gb632)); have n4_ := Aside0.mk ((by rw [hg]; exact (below_size (bl_ HB).out) : w.heap.size ≤ gb632)); have n5_ := Aside0.mk ((by rw [hg]; exact Nat.ne_of_lt (blk_lt (g := gb624) (o := .cells #[.bool a0_0, .slice A0_1 l0_1.length c0_1, .int .i64 a0_2] 24 (0, 0)) (by (with_reducible repeat (first | refine blk_drewN ?_ _ | refine blk_drew ?_ | refine blk_alloc ?_ _)); exact BK624.out)) : gb624 ≠ gb632)); have n6_ := Aside0.mk ((by rw [hg]; exact Nat.ne_of_gt (blk_lt (g := gb624) (o := .cells #[.bool a0_0, .slice A0_1 l0_1.length c0_1, .int .i64 a0_2] 24 (0, 0)) (by (with_reducible repeat (first | refine blk_drewN ?_ _ | refine blk_drew ?_ | refine blk_alloc ?_ _)); exact BK624.out)) : gb632 ≠ gb624)); clear BK624; clear HB; have BK624 := n0_; have HB := n1_; have BK632 := n2_; have GW632 := n3_; have GE632 := n4_; have NB624_632 := n5_; have NB632_624 := n6_; clear n0_ n1_ n2_ n3_ n4_ n5_ n6_; clear hb hbox hg; have hnb23 := NB632_624.out; have hnc23 := NB624_632.out; have hcz24_0 : w22.cell? ⟨gb632, 0, none⟩ = some (.bool false) := bc_ BK632 0; have hcz24_1 : w22.cell? ⟨gb632, 1, none⟩ = some (.string (⟨#[]⟩ : ByteArray)) := bc_ BK632 1; have hcz24_2 : w22.cell? ⟨gb632, 2, none⟩ = some (.int .i64 0) := bc_ BK632 2; have hfz24_0 := blk_frozen BK632.out 0; have hfz24_1 := blk_frozen BK632.out 1; have hfz24_2 := blk_frozen BK632.out 2))
      have n0_ : Aside0 ((((w22.setCell ⟨gb632, 0, none⟩ (.bool t629)).setCell ⟨gb632, 1, none⟩ (.string t630)).setCell ⟨gb632, 2, none⟩ (.int .i64 t631)).heap[gb624]? = _) := bf_ BK624
      have n1_ : Aside0 ((((w22.setCell ⟨gb632, 0, none⟩ (.bool t629)).setCell ⟨gb632, 1, none⟩ (.string t630)).setCell ⟨gb632, 2, none⟩ (.int .i64 t631)).heap[gb632]? = some (.cells #[.bool t629, .string t630, .int .i64 t631] 30 (0, 0))) := ⟨by (with_reducible repeat (first | refine blk_drewN ?_ _ | refine blk_drew ?_ | refine blk_alloc ?_ _)); refine blk_put (cs := #[.bool t629, .string t630, .int .i64 0]) ?_ 2 _ rfl; (with_reducible repeat (first | refine blk_drewN ?_ _ | refine blk_drew ?_ | refine blk_alloc ?_ _)); refine blk_put (cs := #[.bool t629, .string (⟨#[]⟩ : ByteArray), .int .i64 0]) ?_ 1 _ rfl; (with_reducible repeat (first | refine blk_drewN ?_ _ | refine blk_drew ?_ | refine blk_alloc ?_ _)); refine blk_put (cs := #[.bool false, .string (⟨#[]⟩ : ByteArray), .int .i64 0]) ?_ 0 _ rfl; (with_reducible repeat (first | refine blk_drewN ?_ _ | refine blk_drew ?_ | refine blk_alloc ?_ _)); exact BK632.out⟩
      have n2_ : Aside0 (Below w.heap.size w (((w22.setCell ⟨gb632, 0, none⟩ (.bool t629)).setCell ⟨gb632, 1, none⟩ (.string t630)).setCell ⟨gb632, 2, none⟩ (.int .i64 t631))) := (bl_ HB)
      (try clear BK624)
      (try clear BK632)
      (try clear HB)
      generalize (((w22.setCell ⟨gb632, 0, none⟩ (.bool t629)).setCell ⟨gb632, 1, none⟩ (.string t630)).setCell ⟨gb632, 2, none⟩ (.int .i64 t631)) = w25 at n0_ n1_ n2_ ⊢
      have BK624 := n0_
      have BK632 := n1_
      have HB := n2_
      clear n0_ n1_ n2_
      replace BK624 := Aside0.mk (blk_drew BK624.out)
      replace BK632 := Aside0.mk (blk_drew BK632.out)
      replace HB := Aside0.mk (below_drew1 HB.out)
      refine start_ (n := 11) (S := fun w' => w'.cell? ⟨gb624, 0, none⟩ = some (.bool a0_0) ∧ w'.cell? ⟨gb624, 1, none⟩ = some (.slice A0_1 l0_1.length c0_1) ∧ w'.cell? ⟨gb624, 2, none⟩ = some (.int .i64 a0_2) ∧ w'.cell? ⟨gb632, 0, none⟩ = some (.bool t629) ∧ w'.cell? ⟨gb632, 1, none⟩ = some (.string t630) ∧ w'.cell? ⟨gb632, 2, none⟩ = some (.int .i64 t631)) (ds := []) #[false, false, false, false, false, false, false, false, false, false, false] (by kernel_rfl) rfl rfl ⟨bc_ BK624 0, bc_ BK624 1, bc_ BK624 2, bc_ BK632 0, bc_ BK632 1, bc_ BK632 2⟩ (fun hHeld => ?_); refine with_tabW florinlaw03_RoundStep.tab8 florinlaw03_RoundStep.bits8 (fun HT_ HW_ => ?_)
      generalize w25.drew = w26 at BK624 BK632 HB hHeld ⊢
      refine pu_ 5 35 (bm_ 11 32) HT_ ?_
      refine pu_ 8 38 (bm_ 11 288) HT_ ?_
      refine tk_ 0 30 (bm_ 11 289) HT_ HW_ hHeld rfl (by rintro w' ⟨s0, s1, s2, s3, s4, s5⟩; go_simp; with_reducible rfl) ?_
      refine tk_ 2 32 (bm_ 11 293) HT_ HW_ hHeld rfl (by rintro w' ⟨s0, s1, s2, s3, s4, s5⟩; go_simp; with_reducible rfl) ?_
      refine tk_ 4 34 (bm_ 11 309) HT_ HW_ hHeld rfl (by rintro w' ⟨s0, s1, s2, s3, s4, s5⟩; go_simp; with_reducible rfl) ?_
      refine tk_ 7 37 (bm_ 11 437) HT_ HW_ hHeld rfl (by rintro w' ⟨s0, s1, s2, s3, s4, s5⟩; go_simp; with_reducible rfl) ?_
      refine one_ (i := 1) (N := some 31) (bm_ 11 439) rfl rfl (one_of HT_.out (by kernel_rfl)) (by decide) (fun K hK => ?_)
      refine gs_ Tryd.func12 #[.agg #[.bool a0_0, .slice A0_1 l0_1.length c0_1, .int .i64 a0_2]] ?_
      with_reducible refine (florinlaw02_Raw_Make.calls k a0_0 _ _ l0_1 a0_2 t633 t634 t635 _ ?side1 ?side2 A12.out).mono ?_
      (case side1 => repeat (first | exact (Kd.C_below HR0_1.out HB.out) | (with_reducible refine Kd.C_alloc ?_ _) | (with_reducible refine Kd.C_drewN ?_ _) | (with_reducible refine Kd.C_drew ?_)))
      (case side2 => exact HC0_1.out)
      rintro e w27 ⟨rfl, hb⟩
      refine ⟨_, rfl, ?_⟩
      replace BK624 := bb_ BK624 hb
      replace BK632 := bb_ BK632 hb
      replace HB := Aside0.mk (below_step (bl_ HB).out hb)
      (try clear hb)
      (try clear hb2)
      (try clear hk)
      (try clear hi)
      refine hK.out _ _ ⟨bc_ BK624 0, bc_ BK624 1, bc_ BK624 2, bc_ BK632 0, bc_ BK632 1, bc_ BK632 2⟩ (fun hHeld => ?_)
      clear hK K
      refine nm_ 31 ?_
      refine one_ (i := 3) (N := some 33) (bm_ 11 447) rfl rfl (one_of HT_.out (by kernel_rfl)) (by decide) (fun K hK => ?_)
      refine gs_ Tryd.func12 #[.agg #[.bool a0_0, .slice A0_1 l0_1.length c0_1, .int .i64 a0_2]] ?_
      with_reducible refine (florinlaw02_Raw_Make.calls k a0_0 _ _ l0_1 a0_2 t636 t637 t638 _ ?side1 ?side2 A13.out).mono ?_
      (case side1 => repeat (first | exact (Kd.C_below HR0_1.out HB.out) | (with_reducible refine Kd.C_alloc ?_ _) | (with_reducible refine Kd.C_drewN ?_ _) | (with_reducible refine Kd.C_drew ?_)))
      (case side2 => exact HC0_1.out)
      rintro e w28 ⟨rfl, hb⟩
      refine ⟨_, rfl, ?_⟩
      replace BK624 := bb_ BK624 hb
      replace BK632 := bb_ BK632 hb
      replace HB := Aside0.mk (below_step (bl_ HB).out hb)
      (try clear hb)
      (try clear hb2)
      (try clear hk)
      (try clear hi)
      refine hK.out _ _ ⟨bc_ BK624 0, bc_ BK624 1, bc_ BK624 2, bc_ BK632 0, bc_ BK632 1, bc_ BK632 2⟩ (fun hHeld => ?_)
      clear hK K
      refine nm_ 33 ?_
      refine one_ (i := 6) (N := some 36) (bm_ 11 511) rfl rfl (one_of HT_.out (by kernel_rfl)) (by decide) (fun K hK => ?_)
      refine gs_ Tryd.func26 #[.agg #[.bool t636, .string t637, .int .i64 t638], .agg #[.bool t629, .string t630, .int .i64 t631], .int .i64 t627] ?_
      with_reducible refine (round_Step.calls k t636 t637 t638 t629 t630 t631 t627 t639 t640 t641 _ A14.out).mono ?_
      rintro e w29 ⟨rfl, hb⟩
      refine ⟨_, rfl, ?_⟩
      replace BK624 := bb_ BK624 hb
      replace BK632 := bb_ BK632 hb
      replace HB := Aside0.mk (below_step (bl_ HB).out hb)
      (try clear hb)
      (try clear hb2)
      (try clear hk)
      (try clear hi)
      refine hK.out _ _ ⟨bc_ BK624 0, bc_ BK624 1, bc_ BK624 2, bc_ BK632 0, bc_ BK632 1, bc_ BK632 2⟩ (fun hHeld => ?_)
      clear hK K
      refine nm_ 36 ?_
      refine one_ (i := 9) (N := some 39) (bm_ 11 1023) rfl rfl (one_of HT_.out (by kernel_rfl)) (by decide) (fun K hK => ?_)
      refine gs_ Tryd.func27 #[.agg #[.bool t633, .string t634, .int .i64 t635], .agg #[.bool t639, .string t640, .int .i64 t641], .agg #[.bool t629, .string t630, .int .i64 t631], .int .i64 t627] ?_
      with_reducible refine (florinlaw03_Rounded.calls k t633 t634 t635 t639 t640 t641 t629 t630 t631 t627 t642 _ A15.out).mono ?_
      rintro e w30 ⟨rfl, hb⟩
      refine ⟨_, rfl, ?_⟩
      replace BK624 := bb_ BK624 hb
      replace BK632 := bb_ BK632 hb
      replace HB := Aside0.mk (below_step (bl_ HB).out hb)
      (try clear hb)
      (try clear hb2)
      (try clear hk)
      (try clear hi)
      refine hK.out _ _ ⟨bc_ BK624 0, bc_ BK624 1, bc_ BK624 2, bc_ BK632 0, bc_ BK632 1, bc_ BK632 2⟩ (fun hHeld => ?_)
      clear hK K
      refine nm_ 39 ?_
      refine pu_ 10 8 (bm_ 11 2047) HT_ ?_
      refine done_ (done_of HT_.out (by kernel_rfl)) ?_
      try go_wp2
      go_ret
      exact ⟨by first | rfl | (simp [errW_none, errW_some] <;> rfl) | (simp [*, errW_none, errW_some] <;> first | rfl | exact given_isEmpty _ | exact (given_isEmpty _).symm), by repeat (first | (with_reducible first | exact HB.out | apply below_alloc | apply pw_below_drewN | apply below_drew1 | refine below_set ?_ GE624.out | refine below_set ?_ GE632.out) | exact HB.out)⟩
    · replace c8 := Bool.eq_false_iff.mpr c8
      subst c8
      have H1 : (some true) = some r := by rw [if_neg (show ¬ (false = true) by decide)] at H; exact H
      clear H
      have H := H1
      clear H1
      obtain rfl := Option.some.inj H
      go_enter Tryd.func9, Tryd.ntmps9
      go_wp2_with (first | ((with_reducible refine gate_dst (N := 4) rfl ?_); refine box_event ?hg (N := 4) ?hd (cs := #[.bool a0_0, .slice A0_1 l0_1.length c0_1, .int .i64 a0_2]) (t := 24) ?hr ?_; (case hd => rfl); (case hg => rfl); (case hr => first | (go_simp; done) | (go_simp; rfl)); intro gb624 hg w31 hbox hb; have n0_ := Aside0.mk (below_step (bl_ HB).out hb); have n1_ := Aside0.mk (hbox); have n2_ := Aside0.mk ((by rw [hg]; exact (below_size (bl_ HB).out) : w.heap.size ≤ gb624)); have n3_ := Aside0.mk ((by rw [hg]; exact (below_size (bl_ HB).out) : w.heap.size ≤ gb624)); clear HB; have HB := n0_; have BK624 := n1_; have GW624 := n2_; have GE624 := n3_; clear n0_ n1_ n2_ n3_; clear hb hbox hg) | ((with_reducible refine gate_callee (f := 10) rfl ?_); refine goesL_ (some 11) rfl rfl Tryd.func10 (by kernel_rfl) rfl #[] rfl (by (try simp only [List.map_toArray, List.map_cons, List.map_nil]); first | done | rfl | (simp only [List.length_drop, List.length_take]; rfl) | (have z_ : ∀ s_ : ByteArray, s_.size ≤ 9223372036854775807 → -(s_.size : Int) = wrap64 (-(s_.size : Int)) := (fun s_ h_ => by unfold wrap64; omega); rw [← z_ _ (by omega)]; rfl) | (simp only [ByteArray.size_append]; rfl)) ?_; (with_reducible refine (florinlaw03_head.calls k  true _ A5.out).mono ?_); rintro e w32 ⟨rfl, hb⟩; refine ⟨_, rfl, ?_⟩; have n0_ := bb_ BK624 hb; have n1_ := Aside0.mk (below_step (bl_ HB).out hb); clear BK624; clear HB; have BK624 := n0_; have HB := n1_; clear n0_ n1_; (try clear hb); (try clear hb2); (try clear hk); (try clear hi); have hcz33_0 : w32.cell? ⟨gb624, 0, none⟩ = some (.bool a0_0) := bc_ BK624 0; have hcz33_1 : w32.cell? ⟨gb624, 1, none⟩ = some (.slice A0_1 l0_1.length c0_1) := bc_ BK624 1; have hcz33_2 : w32.cell? ⟨gb624, 2, none⟩ = some (.int .i64 a0_2) := bc_ BK624 2; have hfz33_0 := blk_frozen BK624.out 0; have hfz33_1 := blk_frozen BK624.out 1; have hfz33_2 := blk_frozen BK624.out 2) | ((with_reducible refine gate_callee (f := 11) rfl ?_); refine goesL_ (some 14) rfl rfl Tryd.func11 (by kernel_rfl) rfl #[.agg #[.bool a0_0, .slice A0_1 l0_1.length c0_1, .int .i64 a0_2], .int .i64 30] rfl (by (try simp only [List.map_toArray, List.map_cons, List.map_nil]); first | done | rfl | (simp only [List.length_drop, List.length_take]; rfl) | (have z_ : ∀ s_ : ByteArray, s_.size ≤ 9223372036854775807 → -(s_.size : Int) = wrap64 (-(s_.size : Int)) := (fun s_ h_ => by unfold wrap64; omega); rw [← z_ _ (by omega)]; rfl) | (simp only [ByteArray.size_append]; rfl)) ?_; (with_reducible refine (florinlaw02_Raw_Few.calls a0_0 _ _ l0_1 a0_2 30 false _ ?side1 ?side2 A7.out).mono ?_); (case side1 => repeat (first | exact (Kd.C_below HR0_1.out HB.out) | (with_reducible refine Kd.C_alloc ?_ _) | (with_reducible refine Kd.C_drewN ?_ _) | (with_reducible refine Kd.C_drew ?_))); (case side2 => exact HC0_1.out); rintro e w34 ⟨rfl, hb⟩; refine ⟨_, rfl, ?_⟩; have n0_ := bb_ BK624 hb; have n1_ := Aside0.mk (below_step (bl_ HB).out hb); clear BK624; clear HB; have BK624 := n0_; have HB := n1_; clear n0_ n1_; (try clear hb); (try clear hb2); (try clear hk); (try clear hi)))
      go_ret
      exact ⟨by first | rfl | (simp [errW_none, errW_some] <;> rfl) | (simp [*, errW_none, errW_some] <;> first | rfl | exact given_isEmpty _ | exact (given_isEmpty _).symm), by repeat (first | (with_reducible first | exact HB.out | apply below_alloc | apply pw_below_drewN | apply below_drew1 | refine below_set ?_ GE624.out) | exact HB.out)⟩
  · replace c6 := Bool.eq_false_iff.mpr c6
    subst c6
    have H1 : (some false) = some r := by rw [if_neg (show ¬ (false = true) by decide)] at H; exact H
    clear H
    have H := H1
    clear H1
    obtain rfl := Option.some.inj H
    go_enter Tryd.func9, Tryd.ntmps9
    go_wp2_with (first | ((with_reducible refine gate_dst (N := 4) rfl ?_); refine box_event ?hg (N := 4) ?hd (cs := #[.bool a0_0, .slice A0_1 l0_1.length c0_1, .int .i64 a0_2]) (t := 24) ?hr ?_; (case hd => rfl); (case hg => rfl); (case hr => first | (go_simp; done) | (go_simp; rfl)); intro gb624 hg w35 hbox hb; have n0_ := Aside0.mk (below_step (bl_ HB).out hb); have n1_ := Aside0.mk (hbox); have n2_ := Aside0.mk ((by rw [hg]; exact (below_size (bl_ HB).out) : w.heap.size ≤ gb624)); have n3_ := Aside0.mk ((by rw [hg]; exact (below_size (bl_ HB).out) : w.heap.size ≤ gb624)); clear HB; have HB := n0_; have BK624 := n1_; have GW624 := n2_; have GE624 := n3_; clear n0_ n1_ n2_ n3_; clear hb hbox hg) | ((with_reducible refine gate_callee (f := 10) rfl ?_); refine goesL_ (some 11) rfl rfl Tryd.func10 (by kernel_rfl) rfl #[] rfl (by (try simp only [List.map_toArray, List.map_cons, List.map_nil]); first | done | rfl | (simp only [List.length_drop, List.length_take]; rfl) | (have z_ : ∀ s_ : ByteArray, s_.size ≤ 9223372036854775807 → -(s_.size : Int) = wrap64 (-(s_.size : Int)) := (fun s_ h_ => by unfold wrap64; omega); rw [← z_ _ (by omega)]; rfl) | (simp only [ByteArray.size_append]; rfl)) ?_; (with_reducible refine (florinlaw03_head.calls k  false _ A5.out).mono ?_); rintro e w36 ⟨rfl, hb⟩; refine ⟨_, rfl, ?_⟩; have n0_ := bb_ BK624 hb; have n1_ := Aside0.mk (below_step (bl_ HB).out hb); clear BK624; clear HB; have BK624 := n0_; have HB := n1_; clear n0_ n1_; (try clear hb); (try clear hb2); (try clear hk); (try clear hi)))
    go_ret
    exact ⟨by first | rfl | (simp [errW_none, errW_some] <;> rfl) | (simp [*, errW_none, errW_some] <;> first | rfl | exact given_isEmpty _ | exact (given_isEmpty _).symm), by repeat (first | (with_reducible first | exact HB.out | apply below_alloc | apply pw_below_drewN | apply below_drew1 | refine below_set ?_ GE624.out) | exact HB.out)⟩

end Go.Proofs.YtoegmienlhgjnaaDoor.P
