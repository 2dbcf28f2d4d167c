-- written by a program of this session (wip/p2)
import Derived.Test.YtoegmienlhgjnaaDoorPx0
import Derived.Test.YtoegmienlhgjnaaDoorPx1
import Derived.Test.YtoegmienlhgjnaaDoorPx4
import Derived.Test.YtoegmienlhgjnaaDoorPx5
import Derived.Test.YtoegmienlhgjnaaDoorPx7
namespace Go.Proofs.YtoegmienlhgjnaaDoor.P
open Go.RowKit Go.Proofs.YtoegmienlhgjnaaDoorW.PrintWords Go.Proofs.YtoegmienlhgjnaaDoorW.PrintLast Go.Proofs.YtoegmienlhgjnaaDoorW.PrintMore
attribute [local go_sem] max2_int min2_int max_two min_two max_three min_three max_four min_four   -- for this text's walks alone
set_option linter.unusedVariables false
set_option linter.unusedSimpArgs false

attribute [local go_sem high] eqA30
/-! ### florinlaw03_RoundTwice: function 3 -/
def florinlaw03_RoundTwice.f (k : Nat) (a0_0 : Bool) (l0_1 : List Int) (a0_2 : Int) (a1 : Int) (a2 : Int) (a3 : Int) : Option (Bool) := (florinlaw03_head.f k).bind fun t205 => (if t205 = true then ((florinlaw02_Raw_Few.f a0_0 l0_1 a0_2 40).bind fun t206 => (if t206 = true then ((florinlaw02_Raw_Make.f k a0_0 l0_1 a0_2).bind fun bt207 => ((round_At.f k bt207.1 bt207.2.1 bt207.2.2 (wrap64 ((Int.tmod a1 60) - (wrap64 (Int.tdiv (Int.tmod a1 60) 2)))) (wrap64 (3 + (wrap64 (Int.tmod (IntKind.u64.wrap (a3)) 4))))).bind fun bt211 => ((round_At.f k bt211.1 bt211.2.1 bt211.2.2 (wrap64 ((wrap64 ((Int.tmod a1 60) - (wrap64 (Int.tdiv (Int.tmod a1 60) 2)))) + (Go.bits .and .i64 a2 15))) (wrap64 (3 + (wrap64 (Int.tmod (IntKind.u64.wrap (a3)) 4))))).bind fun bt214 => ((round_At.f k bt207.1 bt207.2.1 bt207.2.2 (wrap64 ((wrap64 ((Int.tmod a1 60) - (wrap64 (Int.tdiv (Int.tmod a1 60) 2)))) + (Go.bits .and .i64 a2 15))) (wrap64 (3 + (wrap64 (Int.tmod (IntKind.u64.wrap (a3)) 4))))).bind fun bt217 => (some (bt214.1 == bt217.1 && (bt214.2.1.toList == bt217.2.1.toList && (bt214.2.2 == bt217.2.2)))))))) else (some true))) else (some false))
theorem florinlaw03_RoundTwice.mono : ∀ a0 a1 a2 a3 a4 a5 k, LeO (florinlaw03_RoundTwice.f k a0 a1 a2 a3 a4 a5) (florinlaw03_RoundTwice.f (k + 1) a0 a1 a2 a3 a4 a5) := by
  intro a0 a1 a2 a3 a4 a5 k
  unfold florinlaw03_RoundTwice.f
  repeat' first
      | (with_reducible exact florinlaw02_Raw_Make.mono _ _ _ _)
      | (with_reducible exact florinlaw03_head.mono _)
      | (with_reducible exact round_At.mono _ _ _ _ _ _)
      | (with_reducible exact LeO.refl _)
      | (with_reducible exact LeO.none _)
      | (with_reducible refine LeO.ite ?_ ?_)
      | (with_reducible refine LeO.bind ?_ (fun _ => ?_))
      | exact florinlaw02_Raw_Make.mono _ _ _ _
      | exact florinlaw03_head.mono _
      | exact round_At.mono _ _ _ _ _ _
      | exact LeO.none _
      | refine LeO.ite ?_ ?_
      | refine LeO.bind ?_ (fun _ => ?_)
def florinlaw03_RoundTwice.T9 : Bool × List (List Nat × List Nat) := (true, [([], []), ([], []), ([], []), ([0, 1, 2], [0, 1, 2]), ([], []), ([], []), ([3, 4, 5, 3], [3, 4, 5]), ([], []), ([], []), ([], []), ([7, 8, 9, 6], [7, 8, 9]), ([6, 10], [6, 10]), ([11, 10, 0, 1, 2, 3, 4, 5, 6, 7, 8, 9, 10, 11], [11])])
def florinlaw03_RoundTwice.B9 : List Nat := [0, 0, 0, 7, 0, 0, 63, 0, 0, 0, 1023, 2047, 4095]
theorem florinlaw03_RoundTwice.tab9 : rtab .any (opsOf Tryd.f3 9) = florinlaw03_RoundTwice.T9 := by kernel_rfl
theorem florinlaw03_RoundTwice.bits9 : waitsOk florinlaw03_RoundTwice.T9.2 florinlaw03_RoundTwice.B9 = true := by kernel_rfl
set_option maxHeartbeats 8000000 in
set_option maxRecDepth 100000 in
theorem florinlaw03_RoundTwice.calls (k : Nat) (a0_0 : Bool) (A0_1 : Option Addr) (c0_1 : Nat) (l0_1 : List Int) (a0_2 : Int) (a1 : Int) (a2 : Int) (a3 : Int) (r : Bool) (w : World) (hr0_1 : Kd.C (Kd.int .u8) w A0_1 l0_1.length l0_1) (hc0_1 : l0_1.length ≤ c0_1) (h : florinlaw03_RoundTwice.f k a0_0 l0_1 a0_2 a1 a2 a3 = some r) :
    Calls Tryd.prog 3 #[.agg #[.bool a0_0, .slice A0_1 l0_1.length c0_1, .int .i64 a0_2], .int .i64 a1, .int .i64 a2, .int .i64 a3] w fun e w' => e = .returned (.bool r) ∧ Below w.heap.size w w' := by
  have hu24 := Tryd.underlying24
  have hu30 := Tryd.underlying30
  have HR0_1 := Aside0.mk hr0_1
  have HC0_1 := Aside0.mk hc0_1
  clear hr0_1 hc0_1
  have HB := Aside0.mk (Below.refl w.heap.size w)
  have H : ((florinlaw03_head.f k).bind fun t205 => (if t205 = true then ((florinlaw02_Raw_Few.f a0_0 l0_1 a0_2 40).bind fun t206 => (if t206 = true then ((florinlaw02_Raw_Make.f k a0_0 l0_1 a0_2).bind fun bt207 => ((round_At.f k bt207.1 bt207.2.1 bt207.2.2 (wrap64 ((Int.tmod a1 60) - (wrap64 (Int.tdiv (Int.tmod a1 60) 2)))) (wrap64 (3 + (wrap64 (Int.tmod (IntKind.u64.wrap (a3)) 4))))).bind fun bt211 => ((round_At.f k bt211.1 bt211.2.1 bt211.2.2 (wrap64 ((wrap64 ((Int.tmod a1 60) - (wrap64 (Int.tdiv (Int.tmod a1 60) 2)))) + (Go.bits .and .i64 a2 15))) (wrap64 (3 + (wrap64 (Int.tmod (IntKind.u64.wrap (a3)) 4))))).bind fun bt214 => ((round_At.f k bt207.1 bt207.2.1 bt207.2.2 (wrap64 ((wrap64 ((Int.tmod a1 60) - (wrap64 (Int.tdiv (Int.tmod a1 60) 2)))) + (Go.bits .and .i64 a2 15))) (wrap64 (3 + (wrap64 (Int.tmod (IntKind.u64.wrap (a3)) 4))))).bind fun bt217 => (some (bt214.1 == bt217.1 && (bt214.2.1.toList == bt217.2.1.toList && (bt214.2.2 == bt217.2.2)))))))) else (some true))) else (some false))) = some r := h
  clear h
  replace H := Option.bind_eq_some_iff.mp H
  obtain ⟨t205, A50, H⟩ := H
  replace H : (if t205 = true then ((florinlaw02_Raw_Few.f a0_0 l0_1 a0_2 40).bind fun t206 => (if t206 = true then ((florinlaw02_Raw_Make.f k a0_0 l0_1 a0_2).bind fun bt207 => ((round_At.f k bt207.1 bt207.2.1 bt207.2.2 (wrap64 ((Int.tmod a1 60) - (wrap64 (Int.tdiv (Int.tmod a1 60) 2)))) (wrap64 (3 + (wrap64 (Int.tmod (IntKind.u64.wrap (a3)) 4))))).bind fun bt211 => ((round_At.f k bt211.1 bt211.2.1 bt211.2.2 (wrap64 ((wrap64 ((Int.tmod a1 60) - (wrap64 (Int.tdiv (Int.tmod a1 60) 2)))) + (Go.bits .and .i64 a2 15))) (wrap64 (3 + (wrap64 (Int.tmod (IntKind.u64.wrap (a3)) 4))))).bind fun bt214 => ((round_At.f k bt207.1 bt207.2.1 bt207.2.2 (wrap64 ((wrap64 ((Int.tmod a1 60) - (wrap64 (Int.tdiv (Int.tmod a1 60) 2)))) + (Go.bits .and .i64 a2 15))) (wrap64 (3 + (wrap64 (Int.tmod (IntKind.u64.wrap (a3)) 4))))).bind fun bt217 => (some (bt214.1 == bt217.1 && (bt214.2.1.toList == bt217.2.1.toList && (bt214.2.2 == bt217.2.2)))))))) else (some true))) else (some false)) = some r := H
  have A5 := Aside0.mk A50
  clear A50
  by_cases c6 : t205 = true
  · subst c6
    have H1 : ((florinlaw02_Raw_Few.f a0_0 l0_1 a0_2 40).bind fun t206 => (if t206 = true then ((florinlaw02_Raw_Make.f k a0_0 l0_1 a0_2).bind fun bt207 => ((round_At.f k bt207.1 bt207.2.1 bt207.2.2 (wrap64 ((Int.tmod a1 60) - (wrap64 (Int.tdiv (Int.tmod a1 60) 2)))) (wrap64 (3 + (wrap64 (Int.tmod (IntKind.u64.wrap (a3)) 4))))).bind fun bt211 => ((round_At.f k bt211.1 bt211.2.1 bt211.2.2 (wrap64 ((wrap64 ((Int.tmod a1 60) - (wrap64 (Int.tdiv (Int.tmod a1 60) 2)))) + (Go.bits .and .i64 a2 15))) (wrap64 (3 + (wrap64 (Int.tmod (IntKind.u64.wrap (a3)) 4))))).bind fun bt214 => ((round_At.f k bt207.1 bt207.2.1 bt207.2.2 (wrap64 ((wrap64 ((Int.tmod a1 60) - (wrap64 (Int.tdiv (Int.tmod a1 60) 2)))) + (Go.bits .and .i64 a2 15))) (wrap64 (3 + (wrap64 (Int.tmod (IntKind.u64.wrap (a3)) 4))))).bind fun bt217 => (some (bt214.1 == bt217.1 && (bt214.2.1.toList == bt217.2.1.toList && (bt214.2.2 == bt217.2.2)))))))) else (some true))) = some r := by rw [if_pos rfl] at H; exact H
    clear H
    have H := H1
    clear H1
    replace H := Option.bind_eq_some_iff.mp H
    obtain ⟨t206, A70, H⟩ := H
    replace H : (if t206 = true then ((florinlaw02_Raw_Make.f k a0_0 l0_1 a0_2).bind fun bt207 => ((round_At.f k bt207.1 bt207.2.1 bt207.2.2 (wrap64 ((Int.tmod a1 60) - (wrap64 (Int.tdiv (Int.tmod a1 60) 2)))) (wrap64 (3 + (wrap64 (Int.tmod (IntKind.u64.wrap (a3)) 4))))).bind fun bt211 => ((round_At.f k bt211.1 bt211.2.1 bt211.2.2 (wrap64 ((wrap64 ((Int.tmod a1 60) - (wrap64 (Int.tdiv (Int.tmod a1 60) 2)))) + (Go.bits .and .i64 a2 15))) (wrap64 (3 + (wrap64 (Int.tmod (IntKind.u64.wrap (a3)) 4))))).bind fun bt214 => ((round_At.f k bt207.1 bt207.2.1 bt207.2.2 (wrap64 ((wrap64 ((Int.tmod a1 60) - (wrap64 (Int.tdiv (Int.tmod a1 60) 2)))) + (Go.bits .and .i64 a2 15))) (wrap64 (3 + (wrap64 (Int.tmod (IntKind.u64.wrap (a3)) 4))))).bind fun bt217 => (some (bt214.1 == bt217.1 && (bt214.2.1.toList == bt217.2.1.toList && (bt214.2.2 == bt217.2.2)))))))) else (some true)) = some r := H
    have A7 := Aside0.mk A70
    clear A70
    by_cases c8 : t206 = true
    · subst c8
      have H1 : ((florinlaw02_Raw_Make.f k a0_0 l0_1 a0_2).bind fun bt207 => ((round_At.f k bt207.1 bt207.2.1 bt207.2.2 (wrap64 ((Int.tmod a1 60) - (wrap64 (Int.tdiv (Int.tmod a1 60) 2)))) (wrap64 (3 + (wrap64 (Int.tmod (IntKind.u64.wrap (a3)) 4))))).bind fun bt211 => ((round_At.f k bt211.1 bt211.2.1 bt211.2.2 (wrap64 ((wrap64 ((Int.tmod a1 60) - (wrap64 (Int.tdiv (Int.tmod a1 60) 2)))) + (Go.bits .and .i64 a2 15))) (wrap64 (3 + (wrap64 (Int.tmod (IntKind.u64.wrap (a3)) 4))))).bind fun bt214 => ((round_At.f k bt207.1 bt207.2.1 bt207.2.2 (wrap64 ((wrap64 ((Int.tmod a1 60) - (wrap64 (Int.tdiv (Int.tmod a1 60) 2)))) + (Go.bits .and .i64 a2 15))) (wrap64 (3 + (wrap64 (Int.tmod (IntKind.u64.wrap (a3)) 4))))).bind fun bt217 => (some (bt214.1 == bt217.1 && (bt214.2.1.toList == bt217.2.1.toList && (bt214.2.2 == bt217.2.2)))))))) = some r := by rw [if_pos rfl] at H; exact H
      clear H
      have H := H1
      clear H1
      replace H := Option.bind_eq_some_iff.mp H
      obtain ⟨⟨t207, t208, t209⟩, A90, H⟩ := H
      replace H : ((round_At.f k t207 t208 t209 (wrap64 ((Int.tmod a1 60) - (wrap64 (Int.tdiv (Int.tmod a1 60) 2)))) (wrap64 (3 + (wrap64 (Int.tmod (IntKind.u64.wrap (a3)) 4))))).bind fun bt211 => ((round_At.f k bt211.1 bt211.2.1 bt211.2.2 (wrap64 ((wrap64 ((Int.tmod a1 60) - (wrap64 (Int.tdiv (Int.tmod a1 60) 2)))) + (Go.bits .and .i64 a2 15))) (wrap64 (3 + (wrap64 (Int.tmod (IntKind.u64.wrap (a3)) 4))))).bind fun bt214 => ((round_At.f k t207 t208 t209 (wrap64 ((wrap64 ((Int.tmod a1 60) - (wrap64 (Int.tdiv (Int.tmod a1 60) 2)))) + (Go.bits .and .i64 a2 15))) (wrap64 (3 + (wrap64 (Int.tmod (IntKind.u64.wrap (a3)) 4))))).bind fun bt217 => (some (bt214.1 == bt217.1 && (bt214.2.1.toList == bt217.2.1.toList && (bt214.2.2 == bt217.2.2))))))) = some r := H
      have A9 := Aside0.mk A90
      clear A90
      replace H := Option.bind_eq_some_iff.mp H
      obtain ⟨⟨t211, t212, t213⟩, A100, H⟩ := H
      replace H : ((round_At.f k t211 t212 t213 (wrap64 ((wrap64 ((Int.tmod a1 60) - (wrap64 (Int.tdiv (Int.tmod a1 60) 2)))) + (Go.bits .and .i64 a2 15))) (wrap64 (3 + (wrap64 (Int.tmod (IntKind.u64.wrap (a3)) 4))))).bind fun bt214 => ((round_At.f k t207 t208 t209 (wrap64 ((wrap64 ((Int.tmod a1 60) - (wrap64 (Int.tdiv (Int.tmod a1 60) 2)))) + (Go.bits .and .i64 a2 15))) (wrap64 (3 + (wrap64 (Int.tmod (IntKind.u64.wrap (a3)) 4))))).bind fun bt217 => (some (bt214.1 == bt217.1 && (bt214.2.1.toList == bt217.2.1.toList && (bt214.2.2 == bt217.2.2)))))) = some r := H
      have A10 := Aside0.mk A100
      clear A100
      replace H := Option.bind_eq_some_iff.mp H
      obtain ⟨⟨t214, t215, t216⟩, A110, H⟩ := H
      replace H : ((round_At.f k t207 t208 t209 (wrap64 ((wrap64 ((Int.tmod a1 60) - (wrap64 (Int.tdiv (Int.tmod a1 60) 2)))) + (Go.bits .and .i64 a2 15))) (wrap64 (3 + (wrap64 (Int.tmod (IntKind.u64.wrap (a3)) 4))))).bind fun bt217 => (some (t214 == bt217.1 && (t215.toList == bt217.2.1.toList && (t216 == bt217.2.2))))) = some r := H
      have A11 := Aside0.mk A110
      clear A110
      replace H := Option.bind_eq_some_iff.mp H
      obtain ⟨⟨t217, t218, t219⟩, A120, H⟩ := H
      replace H : (some (t214 == t217 && (t215.toList == t218.toList && (t216 == t219)))) = some r := H
      have A12 := Aside0.mk A120
      clear A120
      obtain rfl := Option.some.inj H
      go_enter Tryd.func3, Tryd.ntmps3
      try go_wp2_with (first | ((with_reducible refine gate_dst (N := 4) rfl ?_); refine box_event ?hg (N := 4) ?hd (cs := #[.bool a0_0, .slice A0_1 l0_1.length c0_1, .int .i64 a0_2]) (t := 24) ?hr ?_; (case hd => rfl); (case hg => rfl); (case hr => first | (go_simp; done) | (go_simp; rfl)); intro gb204 hg w13 hbox hb; have n0_ := Aside0.mk (below_step (bl_ HB).out hb); have n1_ := Aside0.mk (hbox); have n2_ := Aside0.mk ((by rw [hg]; exact (below_size (bl_ HB).out) : w.heap.size ≤ gb204)); have n3_ := Aside0.mk ((by rw [hg]; exact (below_size (bl_ HB).out) : w.heap.size ≤ gb204)); clear HB; have HB := n0_; have BK204 := n1_; have GW204 := n2_; have GE204 := n3_; clear n0_ n1_ n2_ n3_; clear hb hbox hg) | ((with_reducible refine gate_callee (f := 10) rfl ?_); refine goesL_ (some 12) rfl rfl Tryd.func10 (by kernel_rfl) rfl #[] rfl (by (try simp only [List.map_toArray, List.map_cons, List.map_nil]); first | done | rfl | (simp only [List.length_drop, List.length_take]; rfl) | (have z_ : ∀ s_ : ByteArray, s_.size ≤ 9223372036854775807 → -(s_.size : Int) = wrap64 (-(s_.size : Int)) := (fun s_ h_ => by unfold wrap64; omega); rw [← z_ _ (by omega)]; rfl) | (simp only [ByteArray.size_append]; rfl)) ?_; (with_reducible refine (florinlaw03_head.calls k  true _ A5.out).mono ?_); rintro e w14 ⟨rfl, hb⟩; refine ⟨_, rfl, ?_⟩; have n0_ := bb_ BK204 hb; have n1_ := Aside0.mk (below_step (bl_ HB).out hb); clear BK204; clear HB; have BK204 := n0_; have HB := n1_; clear n0_ n1_; (try clear hb); (try clear hb2); (try clear hk); (try clear hi); have hcz15_0 : w14.cell? ⟨gb204, 0, none⟩ = some (.bool a0_0) := bc_ BK204 0; have hcz15_1 : w14.cell? ⟨gb204, 1, none⟩ = some (.slice A0_1 l0_1.length c0_1) := bc_ BK204 1; have hcz15_2 : w14.cell? ⟨gb204, 2, none⟩ = some (.int .i64 a0_2) := bc_ BK204 2; have hfz15_0 := blk_frozen BK204.out 0; have hfz15_1 := blk_frozen BK204.out 1; have hfz15_2 := blk_frozen BK204.out 2) | ((with_reducible refine gate_callee (f := 11) rfl ?_); refine goesL_ (some 15) rfl rfl Tryd.func11 (by kernel_rfl) rfl #[.agg #[.bool a0_0, .slice A0_1 l0_1.length c0_1, .int .i64 a0_2], .int .i64 40] rfl (by (try simp only [List.map_toArray, List.map_cons, List.map_nil]); first | done | rfl | (simp only [List.length_drop, List.length_take]; rfl) | (have z_ : ∀ s_ : ByteArray, s_.size ≤ 9223372036854775807 → -(s_.size : Int) = wrap64 (-(s_.size : Int)) := (fun s_ h_ => by unfold wrap64; omega); rw [← z_ _ (by omega)]; rfl) | (simp only [ByteArray.size_append]; rfl)) ?_; (with_reducible refine (florinlaw02_Raw_Few.calls a0_0 _ _ l0_1 a0_2 40 true _ ?side1 ?side2 A7.out).mono ?_); (case side1 => repeat (first | exact (Kd.C_below HR0_1.out HB.out) | (with_reducible refine Kd.C_alloc ?_ _) | (with_reducible refine Kd.C_drewN ?_ _) | (with_reducible refine Kd.C_drew ?_))); (case side2 => exact HC0_1.out); rintro e w16 ⟨rfl, hb⟩; refine ⟨_, rfl, ?_⟩; have n0_ := bb_ BK204 hb; have n1_ := Aside0.mk (below_step (bl_ HB).out hb); clear BK204; clear HB; have BK204 := n0_; have HB := n1_; clear n0_ n1_; (try clear hb); (try clear hb2); (try clear hk); (try clear hi); have hcz17_0 : w16.cell? ⟨gb204, 0, none⟩ = some (.bool a0_0) := bc_ BK204 0; have hcz17_1 : w16.cell? ⟨gb204, 1, none⟩ = some (.slice A0_1 l0_1.length c0_1) := bc_ BK204 1; have hcz17_2 : w16.cell? ⟨gb204, 2, none⟩ = some (.int .i64 a0_2) := bc_ BK204 2; have hfz17_0 := blk_frozen BK204.out 0; have hfz17_1 := blk_frozen BK204.out 1; have hfz17_2 := blk_frozen BK204.out 2) | ((with_reducible refine gate_callee (f := 12) rfl ?_); refine goesL_ (some 29) rfl rfl Tryd.func12 (by kernel_rfl) rfl #[.agg #[.bool a0_0, .slice A0_1 l0_1.length c0_1, .int .i64 a0_2]] rfl (by (try simp only [List.map_toArray, List.map_cons, List.map_nil]); first | done | rfl | (simp only [List.length_drop, List.length_take]; rfl) | (have z_ : ∀ s_ : ByteArray, s_.size ≤ 9223372036854775807 → -(s_.size : Int) = wrap64 (-(s_.size : Int)) := (fun s_ h_ => by unfold wrap64; omega); rw [← z_ _ (by omega)]; rfl) | (simp only [ByteArray.size_append]; rfl)) ?_; (with_reducible refine (florinlaw02_Raw_Make.calls k a0_0 _ _ l0_1 a0_2 t207 t208 t209 _ ?side1 ?side2 A9.out).mono ?_); (case side1 => repeat (first | exact (Kd.C_below HR0_1.out HB.out) | (with_reducible refine Kd.C_alloc ?_ _) | (with_reducible refine Kd.C_drewN ?_ _) | (with_reducible refine Kd.C_drew ?_))); (case side2 => exact HC0_1.out); rintro e w18 ⟨rfl, hb⟩; refine ⟨_, rfl, ?_⟩; have n0_ := bb_ BK204 hb; have n1_ := Aside0.mk (below_step (bl_ HB).out hb); clear BK204; clear HB; have BK204 := n0_; have HB := n1_; clear n0_ n1_; (try clear hb); (try clear hb2); (try clear hk); (try clear hi)) | ((with_reducible refine gate_dst (N := 10) rfl ?_); refine box_event ?hg (N := 10) ?hd (cs := #[.bool false, .string (⟨#[]⟩ : ByteArray), .int .i64 0]) (t := 30) ?hr ?_; (case hd => rfl); (case hg => rfl); (case hr => first | (go_simp; done) | (go_simp; rfl)); intro gb210 hg w19 hbox hb; have n0_ := bb_ BK204 hb; have n1_ := Aside0.mk (below_step (bl_ HB).out hb); have n2_ := Aside0.mk (hbox); have n3_ := Aside0.mk ((by rw [hg]; exact (below_size (bl_ HB).out) : w.heap.size ≤ gb210)); have n4_ := Aside0.mk ((by rw [hg]; exact (below_size (bl_ HB).out) : w.heap.size ≤ gb210)); have n5_ := Aside0.mk ((by rw [hg]; exact Nat.ne_of_lt (blk_lt (g := gb204) (o := .cells #[.bool a0_0, .slice A0_1 l0_1.length c0_1, .int .i64 a0_2] 24 (0, 0)) (by (with_reducible repeat (first | refine blk_drewN ?_ _ | refine blk_drew ?_ | refine blk_alloc ?_ _)); exact BK204.out)) : gb204 ≠ gb210)); have n6_ := Aside0.mk ((by rw [hg]; exact Nat.ne_of_gt (blk_lt (g := gb204) (o := .cells #[.bool a0_0, .slice A0_1 l0_1.length c0_1, .int .i64 a0_2] 24 (0, 0)) (by (with_reducible repeat (first | refine blk_drewN ?_ _ | refine blk_drew ?_ | refine blk_alloc ?_ _)); exact BK204.out)) : gb210 ≠ gb204)); clear BK204; clear HB; have BK204 := n0_; have HB := n1_; have BK210 := n2_; have GW210 := n3_; have GE210 := n4_; have NB204_210 := n5_; have NB210_204 := n6_; clear n0_ n1_ n2_ n3_ n4_ n5_ n6_; clear hb hbox hg; have hnb20 := NB210_204.out; have hnc20 := NB204_210.out; have hcz21_0 : w19.cell? ⟨gb210, 0, none⟩ = some (.bool false) := bc_ BK210 0; have hcz21_1 : w19.cell? ⟨gb210, 1, none⟩ = some (.string (⟨#[]⟩ : ByteArray)) := bc_ BK210 1; have hcz21_2 : w19.cell? ⟨gb210, 2, none⟩ = some (.int .i64 0) := bc_ BK210 2; have hfz21_0 := blk_frozen BK210.out 0; have hfz21_1 := blk_frozen BK210.out 1; have hfz21_2 := blk_frozen BK210.out 2))
      have n0_ : Aside0 ((((w19.setCell ⟨gb210, 0, none⟩ (.bool t207)).setCell ⟨gb210, 1, none⟩ (.string t208)).setCell ⟨gb210, 2, none⟩ (.int .i64 t209)).heap[gb204]? = _) := bf_ BK204
      have n1_ : Aside0 ((((w19.setCell ⟨gb210, 0, none⟩ (.bool t207)).setCell ⟨gb210, 1, none⟩ (.string t208)).setCell ⟨gb210, 2, none⟩ (.int .i64 t209)).heap[gb210]? = some (.cells #[.bool t207, .string t208, .int .i64 t209] 30 (0, 0))) := ⟨by (with_reducible repeat (first | refine blk_drewN ?_ _ | refine blk_drew ?_ | refine blk_alloc ?_ _)); refine blk_put (cs := #[.bool t207, .string t208, .int .i64 0]) ?_ 2 _ rfl; (with_reducible repeat (first | refine blk_drewN ?_ _ | refine blk_drew ?_ | refine blk_alloc ?_ _)); refine blk_put (cs := #[.bool t207, .string (⟨#[]⟩ : ByteArray), .int .i64 0]) ?_ 1 _ rfl; (with_reducible repeat (first | refine blk_drewN ?_ _ | refine blk_drew ?_ | refine blk_alloc ?_ _)); refine blk_put (cs := #[.bool false, .string (⟨#[]⟩ : ByteArray), .int .i64 0]) ?_ 0 _ rfl; (with_reducible repeat (first | refine blk_drewN ?_ _ | refine blk_drew ?_ | refine blk_alloc ?_ _)); exact BK210.out⟩
      have n2_ : Aside0 (Below w.heap.size w (((w19.setCell ⟨gb210, 0, none⟩ (.bool t207)).setCell ⟨gb210, 1, none⟩ (.string t208)).setCell ⟨gb210, 2, none⟩ (.int .i64 t209))) := (bl_ HB)
      (try clear BK204)
      (try clear BK210)
      (try clear HB)
      generalize (((w19.setCell ⟨gb210, 0, none⟩ (.bool t207)).setCell ⟨gb210, 1, none⟩ (.string t208)).setCell ⟨gb210, 2, none⟩ (.int .i64 t209)) = w22 at n0_ n1_ n2_ ⊢
      have BK204 := n0_
      have BK210 := n1_
      have HB := n2_
      clear n0_ n1_ n2_
      replace BK204 := Aside0.mk (blk_drew BK204.out)
      replace BK210 := Aside0.mk (blk_drew BK210.out)
      replace HB := Aside0.mk (below_drew1 HB.out)
      refine start_ (n := 13) (S := fun w' => w'.cell? ⟨gb210, 0, none⟩ = some (.bool t207) ∧ w'.cell? ⟨gb210, 1, none⟩ = some (.string t208) ∧ w'.cell? ⟨gb210, 2, none⟩ = some (.int .i64 t209)) (ds := []) #[false, false, false, false, false, false, false, false, false, false, false, false, false] (by kernel_rfl) rfl rfl ⟨bc_ BK210 0, bc_ BK210 1, bc_ BK210 2⟩ (fun hHeld => ?_); refine with_tabW florinlaw03_RoundTwice.tab9 florinlaw03_RoundTwice.bits9 (fun HT_ HW_ => ?_)
      generalize w22.drew = w23 at BK204 BK210 HB hHeld ⊢
      refine pu_ 1 35 (bm_ 13 2) HT_ ?_
      refine pu_ 2 36 (bm_ 13 6) HT_ ?_
      refine pu_ 4 38 (bm_ 13 22) HT_ ?_
      refine pu_ 5 39 (bm_ 13 54) HT_ ?_
      refine pu_ 8 42 (bm_ 13 310) HT_ ?_
      refine pu_ 9 43 (bm_ 13 822) HT_ ?_
      refine tk_ 0 34 (bm_ 13 823) HT_ HW_ hHeld rfl (by rintro w' ⟨s0, s1, s2⟩; go_simp; with_reducible rfl) ?_
      refine tk_ 7 41 (bm_ 13 951) HT_ HW_ hHeld rfl (by rintro w' ⟨s0, s1, s2⟩; go_simp; with_reducible rfl) ?_
      refine one_ (i := 3) (N := some 37) (bm_ 13 959) rfl rfl (one_of HT_.out (by kernel_rfl)) (by decide) (fun K hK => ?_)
      refine gs_ Tryd.func13 #[.agg #[.bool t207, .string t208, .int .i64 t209], .int .i64 (wrap64 ((Int.tmod a1 60) - (wrap64 (Int.tdiv (Int.tmod a1 60) 2)))), .int .i64 (wrap64 (3 + (wrap64 (Int.tmod (IntKind.u64.wrap (a3)) 4))))] ?_
      with_reducible refine (round_At.calls k t207 t208 t209 (wrap64 ((Int.tmod a1 60) - (wrap64 (Int.tdiv (Int.tmod a1 60) 2)))) (wrap64 (3 + (wrap64 (Int.tmod (IntKind.u64.wrap (a3)) 4)))) t211 t212 t213 _ A10.out).mono ?_
      rintro e w24 ⟨rfl, hb⟩
      refine ⟨_, rfl, ?_⟩
      replace BK204 := bb_ BK204 hb
      replace BK210 := bb_ BK210 hb
      replace HB := Aside0.mk (below_step (bl_ HB).out hb)
      (try clear hb)
      (try clear hb2)
      (try clear hk)
      (try clear hi)
      refine hK.out _ _ ⟨bc_ BK210 0, bc_ BK210 1, bc_ BK210 2⟩ (fun hHeld => ?_)
      clear hK K
      refine nm_ 37 ?_
      refine one_ (i := 6) (N := some 40) (bm_ 13 1023) rfl rfl (one_of HT_.out (by kernel_rfl)) (by decide) (fun K hK => ?_)
      refine gs_ Tryd.func13 #[.agg #[.bool t211, .string t212, .int .i64 t213], .int .i64 (wrap64 ((wrap64 ((Int.tmod a1 60) - (wrap64 (Int.tdiv (Int.tmod a1 60) 2)))) + (Go.bits .and .i64 a2 15))), .int .i64 (wrap64 (3 + (wrap64 (Int.tmod (IntKind.u64.wrap (a3)) 4))))] ?_
      with_reducible refine (round_At.calls k t211 t212 t213 (wrap64 ((wrap64 ((Int.tmod a1 60) - (wrap64 (Int.tdiv (Int.tmod a1 60) 2)))) + (Go.bits .and .i64 a2 15))) (wrap64 (3 + (wrap64 (Int.tmod (IntKind.u64.wrap (a3)) 4)))) t214 t215 t216 _ A11.out).mono ?_
      rintro e w25 ⟨rfl, hb⟩
      refine ⟨_, rfl, ?_⟩
      replace BK204 := bb_ BK204 hb
      replace BK210 := bb_ BK210 hb
      replace HB := Aside0.mk (below_step (bl_ HB).out hb)
      (try clear hb)
      (try clear hb2)
      (try clear hk)
      (try clear hi)
      refine hK.out _ _ ⟨bc_ BK210 0, bc_ BK210 1, bc_ BK210 2⟩ (fun hHeld => ?_)
      clear hK K
      refine nm_ 40 ?_
      refine one_ (i := 10) (N := some 44) (bm_ 13 2047) rfl rfl (one_of HT_.out (by kernel_rfl)) (by decide) (fun K hK => ?_)
      refine gs_ Tryd.func13 #[.agg #[.bool t207, .string t208, .int .i64 t209], .int .i64 (wrap64 ((wrap64 ((Int.tmod a1 60) - (wrap64 (Int.tdiv (Int.tmod a1 60) 2)))) + (Go.bits .and .i64 a2 15))), .int .i64 (wrap64 (3 + (wrap64 (Int.tmod (IntKind.u64.wrap (a3)) 4))))] ?_
      with_reducible refine (round_At.calls k t207 t208 t209 (wrap64 ((wrap64 ((Int.tmod a1 60) - (wrap64 (Int.tdiv (Int.tmod a1 60) 2)))) + (Go.bits .and .i64 a2 15))) (wrap64 (3 + (wrap64 (Int.tmod (IntKind.u64.wrap (a3)) 4)))) t217 t218 t219 _ A12.out).mono ?_
      rintro e w26 ⟨rfl, hb⟩
      refine ⟨_, rfl, ?_⟩
      replace BK204 := bb_ BK204 hb
      replace BK210 := bb_ BK210 hb
      replace HB := Aside0.mk (below_step (bl_ HB).out hb)
      (try clear hb)
      (try clear hb2)
      (try clear hk)
      (try clear hi)
      refine hK.out _ _ ⟨bc_ BK210 0, bc_ BK210 1, bc_ BK210 2⟩ (fun hHeld => ?_)
      clear hK K
      refine nm_ 44 ?_
      refine pu_ 11 45 (bm_ 13 4095) HT_ ?_
      refine pu_ 12 8 (bm_ 13 8191) HT_ ?_
      refine done_ (done_of HT_.out (by kernel_rfl)) ?_
      try go_wp2
      go_ret
      exact ⟨by first | rfl | (simp [errW_none, errW_some] <;> rfl) | (simp [*, errW_none, errW_some] <;> first | rfl | exact given_isEmpty _ | exact (given_isEmpty _).symm), by repeat (first | (with_reducible first | exact HB.out | apply below_alloc | apply pw_below_drewN | apply below_drew1 | refine below_set ?_ GE204.out | refine below_set ?_ GE210.out) | exact HB.out)⟩
    · replace c8 := Bool.eq_false_iff.mpr c8
      subst c8
      have H1 : (some true) = some r := by rw [if_neg (show ¬ (false = true) by decide)] at H; exact H
      clear H
      have H := H1
      clear H1
      obtain rfl := Option.some.inj H
      go_enter Tryd.func3, Tryd.ntmps3
      go_wp2_with (first | ((with_reducible refine gate_dst (N := 4) rfl ?_); refine box_event ?hg (N := 4) ?hd (cs := #[.bool a0_0, .slice A0_1 l0_1.length c0_1, .int .i64 a0_2]) (t := 24) ?hr ?_; (case hd => rfl); (case hg => rfl); (case hr => first | (go_simp; done) | (go_simp; rfl)); intro gb204 hg w27 hbox hb; have n0_ := Aside0.mk (below_step (bl_ HB).out hb); have n1_ := Aside0.mk (hbox); have n2_ := Aside0.mk ((by rw [hg]; exact (below_size (bl_ HB).out) : w.heap.size ≤ gb204)); have n3_ := Aside0.mk ((by rw [hg]; exact (below_size (bl_ HB).out) : w.heap.size ≤ gb204)); clear HB; have HB := n0_; have BK204 := n1_; have GW204 := n2_; have GE204 := n3_; clear n0_ n1_ n2_ n3_; clear hb hbox hg) | ((with_reducible refine gate_callee (f := 10) rfl ?_); refine goesL_ (some 12) rfl rfl Tryd.func10 (by kernel_rfl) rfl #[] rfl (by (try simp only [List.map_toArray, List.map_cons, List.map_nil]); first | done | rfl | (simp only [List.length_drop, List.length_take]; rfl) | (have z_ : ∀ s_ : ByteArray, s_.size ≤ 9223372036854775807 → -(s_.size : Int) = wrap64 (-(s_.size : Int)) := (fun s_ h_ => by unfold wrap64; omega); rw [← z_ _ (by omega)]; rfl) | (simp only [ByteArray.size_append]; rfl)) ?_; (with_reducible refine (florinlaw03_head.calls k  true _ A5.out).mono ?_); rintro e w28 ⟨rfl, hb⟩; refine ⟨_, rfl, ?_⟩; have n0_ := bb_ BK204 hb; have n1_ := Aside0.mk (below_step (bl_ HB).out hb); clear BK204; clear HB; have BK204 := n0_; have HB := n1_; clear n0_ n1_; (try clear hb); (try clear hb2); (try clear hk); (try clear hi); have hcz29_0 : w28.cell? ⟨gb204, 0, none⟩ = some (.bool a0_0) := bc_ BK204 0; have hcz29_1 : w28.cell? ⟨gb204, 1, none⟩ = some (.slice A0_1 l0_1.length c0_1) := bc_ BK204 1; have hcz29_2 : w28.cell? ⟨gb204, 2, none⟩ = some (.int .i64 a0_2) := bc_ BK204 2; have hfz29_0 := blk_frozen BK204.out 0; have hfz29_1 := blk_frozen BK204.out 1; have hfz29_2 := blk_frozen BK204.out 2) | ((with_reducible refine gate_callee (f := 11) rfl ?_); refine goesL_ (some 15) rfl rfl Tryd.func11 (by kernel_rfl) rfl #[.agg #[.bool a0_0, .slice A0_1 l0_1.length c0_1, .int .i64 a0_2], .int .i64 40] rfl (by (try simp only [List.map_toArray, List.map_cons, List.map_nil]); first | done | rfl | (simp only [List.length_drop, List.length_take]; rfl) | (have z_ : ∀ s_ : ByteArray, s_.size ≤ 9223372036854775807 → -(s_.size : Int) = wrap64 (-(s_.size : Int)) := (fun s_ h_ => by unfold wrap64; omega); rw [← z_ _ (by omega)]; rfl) | (simp only [ByteArray.size_append]; rfl)) ?_; (with_reducible refine (florinlaw02_Raw_Few.calls a0_0 _ _ l0_1 a0_2 40 false _ ?side1 ?side2 A7.out).mono ?_); (case side1 => repeat (first | exact (Kd.C_below HR0_1.out HB.out) | (with_reducible refine Kd.C_alloc ?_ _) | (with_reducible refine Kd.C_drewN ?_ _) | (with_reducible refine Kd.C_drew ?_))); (case side2 => exact HC0_1.out); rintro e w30 ⟨rfl, hb⟩; refine ⟨_, rfl, ?_⟩; have n0_ := bb_ BK204 hb; have n1_ := Aside0.mk (below_step (bl_ HB).out hb); clear BK204; clear HB; have BK204 := n0_; have HB := n1_; clear n0_ n1_; (try clear hb); (try clear hb2); (try clear hk); (try clear hi)))
      go_ret
      exact ⟨by first | rfl | (simp [errW_none, errW_some] <;> rfl) | (simp [*, errW_none, errW_some] <;> first | rfl | exact given_isEmpty _ | exact (given_isEmpty _).symm), by repeat (first | (with_reducible first | exact HB.out | apply below_alloc | apply pw_below_drewN | apply below_drew1 | refine below_set ?_ GE204.out) | exact HB.out)⟩
  · replace c6 := Bool.eq_false_iff.mpr c6
    subst c6
    have H1 : (some false) = some r := by rw [if_neg (show ¬ (false = true) by decide)] at H; exact H
    clear H
    have H := H1
    clear H1
    obtain rfl := Option.some.inj H
    go_enter Tryd.func3, Tryd.ntmps3
    go_wp2_with (first | ((with_reducible refine gate_dst (N := 4) rfl ?_); refine box_event ?hg (N := 4) ?hd (cs := #[.bool a0_0, .slice A0_1 l0_1.length c0_1, .int .i64 a0_2]) (t := 24) ?hr ?_; (case hd => rfl); (case hg => rfl); (case hr => first | (go_simp; done) | (go_simp; rfl)); intro gb204 hg w31 hbox hb; have n0_ := Aside0.mk (below_step (bl_ HB).out hb); have n1_ := Aside0.mk (hbox); have n2_ := Aside0.mk ((by rw [hg]; exact (below_size (bl_ HB).out) : w.heap.size ≤ gb204)); have n3_ := Aside0.mk ((by rw [hg]; exact (below_size (bl_ HB).out) : w.heap.size ≤ gb204)); clear HB; have HB := n0_; have BK204 := n1_; have GW204 := n2_; have GE204 := n3_; clear n0_ n1_ n2_ n3_; clear hb hbox hg) | ((with_reducible refine gate_callee (f := 10) rfl ?_); refine goesL_ (some 12) rfl rfl Tryd.func10 (by kernel_rfl) rfl #[] rfl (by (try simp only [List.map_toArray, List.map_cons, List.map_nil]); first | done | rfl | (simp only [List.length_drop, List.length_take]; rfl) | (have z_ : ∀ s_ : ByteArray, s_.size ≤ 9223372036854775807 → -(s_.size : Int) = wrap64 (-(s_.size : Int)) := (fun s_ h_ => by unfold wrap64; omega); rw [← z_ _ (by omega)]; rfl) | (simp only [ByteArray.size_append]; rfl)) ?_; (with_reducible refine (florinlaw03_head.calls k  false _ A5.out).mono ?_); rintro e w32 ⟨rfl, hb⟩; refine ⟨_, rfl, ?_⟩; have n0_ := bb_ BK204 hb; have n1_ := Aside0.mk (below_step (bl_ HB).out hb); clear BK204; clear HB; have BK204 := n0_; have HB := n1_; clear n0_ n1_; (try clear hb); (try clear hb2); (try clear hk); (try clear hi)))
    go_ret
    exact ⟨by first | rfl | (simp [errW_none, errW_some] <;> rfl) | (simp [*, errW_none, errW_some] <;> first | rfl | exact given_isEmpty _ | exact (given_isEmpty _).symm), by repeat (first | (with_reducible first | exact HB.out | apply below_alloc | apply pw_below_drewN | apply below_drew1 | refine below_set ?_ GE204.out) | exact HB.out)⟩

end Go.Proofs.YtoegmienlhgjnaaDoor.P
