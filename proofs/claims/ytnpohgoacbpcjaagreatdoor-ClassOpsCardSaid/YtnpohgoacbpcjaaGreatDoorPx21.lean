-- written by a program of this session (wip/p2)
import Derived.Test.YtnpohgoacbpcjaaGreatDoorPx0
import Derived.Test.YtnpohgoacbpcjaaGreatDoorPx3
namespace Go.Proofs.YtnpohgoacbpcjaaGreatDoor.P
open Go.RowKit Go.Proofs.YtnpohgoacbpcjaaGreatDoorW.PrintWords Go.Proofs.YtnpohgoacbpcjaaGreatDoorW.PrintLast Go.Proofs.YtnpohgoacbpcjaaGreatDoorW.PrintMore
attribute [local go_sem] max2_int min2_int max_two min_two max_three min_three max_four min_four   -- for this text's walks alone
set_option linter.unusedVariables false
set_option linter.unusedSimpArgs false

/-! ### class_Class_Or: function 22 -/
def class_Class_Or.f (k : Nat) (l0 l1 : List S28) : Option (List S28) := if l0.length + l1.length ≤ 200000 then class_Made.f k (l0 ++ l1) else none
theorem class_Class_Or.mono : ∀ a0 a1 k, LeO (class_Class_Or.f k a0 a1) (class_Class_Or.f (k + 1) a0 a1) := fun a0 a1 k => by
  unfold class_Class_Or.f
  split
  · exact class_Made.mono (a0 ++ a1) k
  · exact fun _ h => h
theorem class_Class_Or.info : (Tryz.prog.info? 28).map (fun i => (i.zero, i.size, i.bytes)) = some (some (.agg #[.int .i32 0, .int .i32 0]), 2, 8) := by kernel_rfl
theorem class_Class_Or.grow (n : Nat) (hn : n ≤ 200000) (w : World) : Calls Tryz.prog 48 #[.slice none 0 0, .int .i64 n] w fun e w' => ∃ v : Value, e = .returned v ∧ Kd.R k28 28 w' w.heap.size (fun _ => True) v [] ∧ Below w.heap.size w w' := by
  rcases Nat.eq_zero_or_pos n with rfl | h0
  · refine (Any8.slices_Grow_room Tryz.growRange none 0 0 0 w (Nat.le_refl _) (by decide) (by decide) (Nat.le_refl _)).mono ?_
    rintro e w' ⟨rfl, rfl⟩
    exact ⟨_, rfl, Kd.R_nil _ _ _ _ _, Below.refl _ _⟩
  · obtain ⟨i0, hi, hzz⟩ := Option.map_eq_some_iff.1 class_Class_Or.info
    simp only [Prod.mk.injEq] at hzz
    obtain ⟨hz0, hz1, hz2⟩ := hzz
    refine (Any8.slices_Grow_grow Tryz.growRange i0 _ hi hz0 (by omega) none 0 0 n [] w (Nat.le_refl _) (by omega) (by rw [hz2]; omega) (by omega) (by simp) (fun _ => rfl) (fun _ h => by cases h)).mono ?_
    rintro e w' ⟨rfl, rfl⟩
    have hge := grownCap_ge w (0 + n) 0 28
    have hcm : grownCap w (0 + n) 0 28 ≤ maxLen := grownCap_le_maxLen w (0 + n) 0 28 (by simp only [maxLen]; omega)
    refine ⟨_, rfl, ?_, ?_⟩
    · refine ⟨fun _ _ => trivial, [], ⟨rfl, .inr ⟨w.heap.size, _, _, rfl, Nat.le_refl _, heap_alloc_new w.drew _, Nat.zero_le _, hcm, ?_, rfl⟩⟩, Reps.none _ _⟩
      simp only [Array.size_append, List.size_toArray, size_zeroCells]
      show [].length + (0 + n - 0) * 2 + (grownCap w (0 + n) 0 28 - (0 + n)) * 2 = grownCap w (0 + n) 0 28 * 2
      simp only [List.length_nil]
      omega
    · exact below_alloc (below_drew (Below.refl _ _)) _
theorem class_Class_Or.alloc_size_ (w : World) (o : Obj) : (w.alloc o).heap.size = w.heap.size + 1 := by
  show (w.heap.push o).size = _
  exact Array.size_push _
theorem class_Class_Or.alloc_new_ (w : World) (o : Obj) : (w.alloc o).heap[w.heap.size]? = some o := by
  show (w.heap.push o)[w.heap.size]? = _
  simp
theorem class_Class_Or.blk {w wr : World} {g : Nat} {o : Obj} (h : w.heap[g]? = some o) (hb : Below w.heap.size w wr) : wr.heap[g]? = some o := (hb.block g (by
  rcases Nat.lt_or_ge g w.heap.size with h1 | h1
  · exact h1
  · rw [Array.getElem?_eq_none h1] at h; cases h)).trans h
def class_Class_Or.Post (w : World) (r : List S28) (e : Ending) (w' : World) : Prop := ∃ v : Value, e = .returned v ∧ Kd.R k28 28 w' w.heap.size (fun _ => True) v r ∧ Below w.heap.size w w'
set_option maxHeartbeats 8000000 in
set_option maxRecDepth 100000 in
set_option maxRecDepth 100000 in
theorem class_Class_Or.concat (g : Nat) (A0 : Option Addr) (c0 : Nat) (l0 : List S28) (A1 : Option Addr) (c1 : Nat) (l1 : List S28) (w : World) (hg : w.heap[g]? = some (.cells #[.slice A0 l0.length c0, .slice A1 l1.length c1] 25 (0, 0)))
    (hr0 : Kd.C k28 w A0 l0.length l0) (hr1 : Kd.C k28 w A1 l1.length l1) (hl : l0.length + l1.length ≤ 200000) :
    Calls Tryz.prog 37 #[.slice (some ⟨g, 0, none⟩) 2 2] w (class_Class_Or.Post w (l0 ++ l1)) := by
  have HG := Aside0.mk hg
  have HR0 := Aside0.mk hr0
  have HR1 := Aside0.mk hr1
  have HB := Aside0.mk (Below.refl w.heap.size w)
  obtain ⟨n0, hn0⟩ : ∃ n0, l0.length = n0 := ⟨_, rfl⟩
  obtain ⟨n1, hn1⟩ : ∃ n1, l1.length = n1 := ⟨_, rfl⟩
  have HN0 := Aside0.mk hn0
  have HN1 := Aside0.mk hn1
  rw [hn0, hn1] at hl
  have g0 : w.cell? ⟨g, 0, none⟩ = some (.slice A0 n0 c0) := by rw [← hn0]; exact bc_ HG 0
  have g1 : w.cell? ⟨g, 1, none⟩ = some (.slice A1 n1 c1) := by rw [← hn1]; exact bc_ HG 1
  clear hg hr0 hr1 hn0 hn1
  go_enter Tryz.func37, Tryz.ntmps37
  go_wp2
  go_loop [3, 11] (fun s3 s11 => ∃ i : Nat, i ≤ 2 ∧ s11 = .int .i64 i ∧ s3 = .int .i64 (if i = 0 then 0 else if i = 1 then (n0 : Int) else ((n0 + n1 : Nat) : Int))) (fun _ s11 => 2 - (intOf s11).toNat)
  case atStart => exact ⟨0, by omega, rfl, rfl⟩
  case round =>
    obtain ⟨i, hi, rfl, rfl⟩ := hrel
    match i, hi with
    | 0, _ =>
      go_wp2
      go_round
      case rel => exact ⟨1, by omega, by go_num, by go_num⟩
      case measure => simp [intOf]
    | 1, _ =>
      have e1 : IntKind.i64.wrap ((n0 : Int) + (n1 : Int)) = ((n0 + n1 : Nat) : Int) := by rw [IntKind.wrap_i64]; omega
      go_wp2
      go_round
      case rel => exact ⟨2, by omega, by go_num, by go_num⟩
      case measure => simp [intOf]
    | 2, _ =>
      have hgr := class_Class_Or.grow (n0 + n1) (by omega) w
      go_wp2_with (go_at_call 48; refine hgr.mono ?_; rintro e W1 ⟨v1, rfl, hv1, hb1⟩; have HV := Aside0.mk hv1; have HB1 := Aside0.mk hb1; clear hv1 hb1)
      clear hgr g0 g1
      have U25 : Tryz.prog.underlying 25 = some (.slice 28) := Tryz.underlying25
      go_loopg [6, 27] 2 (fun kx s6 s27 wr => ∃ (i : Nat) (v : Value), v = s6 ∧ s27 = .int .i64 i ∧ i ≤ 2 ∧ 2 - i ≤ kx ∧ Aside0 (Kd.R k28 28 wr w.heap.size (fun _ => True) v (if i = 0 then [] else if i = 1 then l0 else l0 ++ l1)) ∧ Aside0 (Below w.heap.size w wr))
      case atStart => exact ⟨0, v1, rfl, rfl, by omega, by omega, HV, HB1⟩
      case round =>
        clear HV HB1
        obtain ⟨i, v, rfl, rfl, hi2, hk, HV, HBr⟩ := hrel
        match i, hi2 with
        | 0, _ =>
          have g0 : wr.cell? ⟨g, 0, none⟩ = some (.slice A0 n0 c0) := by rw [← HN0.out]; exact bc_ ⟨class_Class_Or.blk HG.out HBr.out⟩ 0
          go_wp2_with ((with_reducible refine gate_dst (N := 33) rfl ?_); (refine Kd.R_append_rows k28 (w0 := w) w.heap.size rfl (.tmp 31) (.tmp 32) 25 28 (.agg #[(.int .i32 0), (.int .i32 0)]) 8 rfl U25 info28 rfl (by decide) (by omega) v [] l0 A0 n0 c0 (fun _ => True) (fun _ => False) rfl rfl ?aO ?aR (fun _ _ h => h) (fun _ h => h.elim) (fun _ _ => trivial) ?aB ?aS ?aL ?_; (case aO => exact HV.out); (case aR => exact (by have := Kd.C_below HR0.out HBr.out; rw [HN0.out] at this; exact this)); (case aB => exact HBr.out); (case aS => exact below_size HBr.out); (case aL => simp; omega); intro v2 W2 ho hb hg hat; have HV2 := Aside0.mk ho; have HB2 := Aside0.mk hb; clear ho hb hg hat))
          go_roundg 1
          case measure => omega
          case rel => exact ⟨1, v2, rfl, by go_num, by omega, by omega, HV2, HB2⟩
        | 1, _ =>
          have g0 : wr.cell? ⟨g, 1, none⟩ = some (.slice A1 n1 c1) := by rw [← HN1.out]; exact bc_ ⟨class_Class_Or.blk HG.out HBr.out⟩ 1
          go_wp2_with ((with_reducible refine gate_dst (N := 33) rfl ?_); (refine Kd.R_append_rows k28 (w0 := w) w.heap.size rfl (.tmp 31) (.tmp 32) 25 28 (.agg #[(.int .i32 0), (.int .i32 0)]) 8 rfl U25 info28 rfl (by decide) (by omega) v l0 l1 A1 n1 c1 (fun _ => True) (fun _ => False) rfl rfl ?aO ?aR (fun _ _ h => h) (fun _ h => h.elim) (fun _ _ => trivial) ?aB ?aS ?aL ?_; (case aO => exact HV.out); (case aR => exact (by have := Kd.C_below HR1.out HBr.out; rw [HN1.out] at this; exact this)); (case aB => exact HBr.out); (case aS => exact below_size HBr.out); (case aL => rw [HN0.out]; omega); intro v2 W2 ho hb hg hat; have HV2 := Aside0.mk ho; have HB2 := Aside0.mk hb; clear ho hb hg hat))
          go_roundg 0
          case measure => omega
          case rel => exact ⟨2, v2, rfl, by go_num, by omega, by omega, HV2, HB2⟩
        | 2, _ =>
          go_wp2
          go_ret
          exact ⟨_, rfl, HV.out, HBr.out⟩
set_option maxHeartbeats 8000000 in
set_option maxRecDepth 100000 in
theorem class_Class_Or.calls (k : Nat) (A0 : Option Addr) (c0 : Nat) (l0 : List S28) (A1 : Option Addr) (c1 : Nat) (l1 : List S28) (r : List S28) (w : World) (hr0 : Kd.C k28 w A0 l0.length l0) (hc0 : l0.length ≤ c0) (hr1 : Kd.C k28 w A1 l1.length l1) (hc1 : l1.length ≤ c1) (h : class_Class_Or.f k l0 l1 = some r) :
    Calls Tryz.prog 22 #[.slice A0 l0.length c0, .slice A1 l1.length c1] w fun e w' => ∃ v0_ : Value, e = .returned (v0_) ∧ Kd.R k28 28 w' w.heap.size (fun _ => True) v0_ r ∧ Below w.heap.size w w' := by
  unfold class_Class_Or.f at h
  split at h
  case isFalse => cases h
  rename_i hl
  obtain ⟨ll, hll⟩ : ∃ ll, l0 ++ l1 = ll := ⟨_, rfl⟩
  rw [hll] at h
  have hcc := fun g W a b c => class_Class_Or.concat g A0 c0 l0 A1 c1 l1 W a b c hl
  rw [hll] at hcc
  clear hll
  have HCC := Aside0.mk hcc
  clear hcc
  have HR0 := Aside0.mk hr0
  have HR1 := Aside0.mk hr1
  have HH := Aside0.mk h
  have HL := Aside0.mk hl
  have HC0 := Aside0.mk hc0
  have HC1 := Aside0.mk hc1
  clear hr0 hr1 h hl hc0 hc1
  go_enter Tryz.func22, Tryz.ntmps22
  go_wp2_with fail
  refine (HCC.out w.heap.size _ (class_Class_Or.alloc_new_ w _) (Kd.C_below HR0.out (below_alloc (Below.refl _ _) _)) (Kd.C_below HR1.out (below_alloc (Below.refl _ _) _))).mono ?_
  rintro e W1 ⟨v1, rfl, hv, hb⟩
  have HV := Aside0.mk hv
  have HB := Aside0.mk (Below.trans (below_alloc (Below.refl w.heap.size w) _) (hb.mono (by rw [class_Class_Or.alloc_size_]; exact Nat.le_succ _)))
  clear hv hb
  obtain ⟨Ao1, co1, eo1⟩ := Kd.R_slice HV.out
  subst eo1
  go_wp2_with fail
  refine (class_Made.calls k _ _ ll r _ (Kd.R_reads' HV.out).2.2 (Kd.R_reads' HV.out).2.1 HH.out).mono ?_
  rintro e W2 ⟨v2, rfl, hv2, hb2⟩
  have HV2 := Aside0.mk (Kd.R_lower hv2 (below_size HB.out))
  have HB2 := Aside0.mk (below_step HB.out hb2)
  clear hv2 hb2
  go_wp2
  go_ret
  exact ⟨_, rfl, HV2.out, HB2.out⟩

/-! ### class_Class_And: function 23 -/
def class_Class_And.f (k : Nat) (l0 : List (S28)) (l1 : List (S28)) : Option ((List (S28))) := (class_Class_Not.f k l0).bind fun t463 => ((class_Class_Not.f k l1).bind fun t466 => ((class_Class_Or.f k t463 t466).bind fun t469 => ((class_Class_Not.f k t469).bind fun t472 => (some t472))))
theorem class_Class_And.mono : ∀ a0 a1 k, LeO (class_Class_And.f k a0 a1) (class_Class_And.f (k + 1) a0 a1) := by
  intro a0 a1 k
  unfold class_Class_And.f
  repeat' first
      | (with_reducible exact class_Class_Not.mono _ _)
      | (with_reducible exact class_Class_Or.mono _ _ _)
      | (with_reducible exact LeO.refl _)
      | (with_reducible exact LeO.none _)
      | (with_reducible refine LeO.ite ?_ ?_)
      | (with_reducible refine LeO.bind ?_ (fun _ => ?_))
      | exact class_Class_Not.mono _ _
      | exact class_Class_Or.mono _ _ _
      | exact LeO.none _
      | refine LeO.ite ?_ ?_
      | refine LeO.bind ?_ (fun _ => ?_)
set_option maxHeartbeats 64000000 in
set_option maxRecDepth 100000 in
theorem class_Class_And.calls (k : Nat) (A0 : Option Addr) (c0 : Nat) (l0 : List (S28)) (A1 : Option Addr) (c1 : Nat) (l1 : List (S28)) (r : List (S28)) (w : World) (hr0 : Kd.C k28 w A0 l0.length l0) (hc0 : l0.length ≤ c0) (hr1 : Kd.C k28 w A1 l1.length l1) (hc1 : l1.length ≤ c1) (h : class_Class_And.f k l0 l1 = some r) :
    Calls Tryz.prog 23 #[.slice A0 l0.length c0, .slice A1 l1.length c1] w fun e w' => ∃ v0_ : Value, e = .returned (v0_) ∧ Kd.R k28 28 w' w.heap.size (fun _ => True) v0_ r ∧ Below w.heap.size w w' := by
  have HR0 := Aside0.mk hr0
  have HC0 := Aside0.mk hc0
  clear hr0 hc0
  have HR1 := Aside0.mk hr1
  have HC1 := Aside0.mk hc1
  clear hr1 hc1
  have HB := Aside0.mk (Below.refl w.heap.size w)
  have H : ((class_Class_Not.f k l0).bind fun t463 => ((class_Class_Not.f k l1).bind fun t466 => ((class_Class_Or.f k t463 t466).bind fun t469 => ((class_Class_Not.f k t469).bind fun t472 => (some t472))))) = some r := h
  clear h
  replace H := Option.bind_eq_some_iff.mp H
  obtain ⟨t463, A30, H⟩ := H
  replace H : ((class_Class_Not.f k l1).bind fun t466 => ((class_Class_Or.f k t463 t466).bind fun t469 => ((class_Class_Not.f k t469).bind fun t472 => (some t472)))) = some r := H
  have A3 := Aside0.mk A30
  clear A30
  replace H := Option.bind_eq_some_iff.mp H
  obtain ⟨t466, A40, H⟩ := H
  replace H : ((class_Class_Or.f k t463 t466).bind fun t469 => ((class_Class_Not.f k t469).bind fun t472 => (some t472))) = some r := H
  have A4 := Aside0.mk A40
  clear A40
  replace H := Option.bind_eq_some_iff.mp H
  obtain ⟨t469, A50, H⟩ := H
  replace H : ((class_Class_Not.f k t469).bind fun t472 => (some t472)) = some r := H
  have A5 := Aside0.mk A50
  clear A50
  replace H := Option.bind_eq_some_iff.mp H
  obtain ⟨t472, A60, H⟩ := H
  replace H : (some t472) = some r := H
  have A6 := Aside0.mk A60
  clear A60
  obtain rfl := Option.some.inj H
  go_enter Tryz.func23, Tryz.ntmps23
  go_wp2_with (first | ((with_reducible refine gate_callee (f := 18) rfl ?_); refine gl_ (some 6) Tryz.func18 #[.slice A0 l0.length c0] ?_; (with_reducible refine (class_Class_Not.calls k _ _ l0 t463 _ ?side1 ?side2 A3.out).mono ?_); (case side1 => repeat (first | exact HR0.out | (with_reducible refine Kd.C_alloc ?_ _) | (with_reducible refine Kd.C_drewN ?_ _) | (with_reducible refine Kd.C_drew ?_))); (case side2 => exact HC0.out); rintro e w7 ⟨v464, rfl, ho0, hb⟩; refine ⟨_, rfl, ?_⟩; have HO465 := Aside0.mk (Kd.R_lower ho0 (below_size (bl_ HB).out)); replace HB := Aside0.mk (below_step (bl_ HB).out hb); (try clear hb); (try clear ho0)) | ((with_reducible refine gate_callee (f := 18) rfl ?_); refine gl_ (some 8) Tryz.func18 #[.slice A1 l1.length c1] ?_; (with_reducible refine (class_Class_Not.calls k _ _ l1 t466 _ ?side1 ?side2 A4.out).mono ?_); (case side1 => repeat (first | exact (Kd.C_below HR1.out HB.out) | (with_reducible refine Kd.C_alloc ?_ _) | (with_reducible refine Kd.C_drewN ?_ _) | (with_reducible refine Kd.C_drew ?_))); (case side2 => exact HC1.out); rintro e w8 ⟨v467, rfl, ho0, hb⟩; refine ⟨_, rfl, ?_⟩; have HO468 := Aside0.mk (Kd.R_lower (Kd.R_new' ho0 (kx_ HO465)) (below_size (bl_ HB).out)); replace HO465 := ke_ HO465 ho0 hb; replace HB := Aside0.mk (below_step (bl_ HB).out hb); (try clear hb); (try clear ho0); obtain ⟨Ao9, co9, eo9⟩ := Kd.R_slice HO465.out; subst eo9; obtain ⟨Ao10, co10, eo10⟩ := Kd.R_slice HO468.out; subst eo10) | ((with_reducible refine gate_callee (f := 22) rfl ?_); refine gl_ (some 9) Tryz.func22 #[.slice Ao9 t463.length co9, .slice Ao10 t466.length co10] ?_; (with_reducible refine (class_Class_Or.calls k _ _ t463 _ _ t466 t469 _ ?side1 ?side2 ?side3 ?side4 A5.out).mono ?_); (case side1 => exact kc_ HO465); (case side2 => exact kl_ HO465); (case side3 => exact kc_ HO468); (case side4 => exact kl_ HO468); rintro e w11 ⟨v470, rfl, ho0, hb⟩; refine ⟨_, rfl, ?_⟩; have HO471 := Aside0.mk (Kd.R_lower (Kd.R_new' (Kd.R_new' ho0 (kx_ HO465)) (kx_ HO468)) (below_size (bl_ HB).out)); replace HO465 := ke_ HO465 ho0 hb; replace HO468 := ke_ HO468 ho0 hb; replace HB := Aside0.mk (below_step (bl_ HB).out hb); (try clear hb); (try clear ho0); obtain ⟨Ao12, co12, eo12⟩ := Kd.R_slice HO471.out; subst eo12) | ((with_reducible refine gate_callee (f := 18) rfl ?_); refine gl_ (some 10) Tryz.func18 #[.slice Ao12 t469.length co12] ?_; (with_reducible refine (class_Class_Not.calls k _ _ t469 t472 _ ?side1 ?side2 A6.out).mono ?_); (case side1 => exact kc_ HO471); (case side2 => exact kl_ HO471); rintro e w13 ⟨v473, rfl, ho0, hb⟩; refine ⟨_, rfl, ?_⟩; have HO474 := Aside0.mk (Kd.R_lower (Kd.R_new' (Kd.R_new' (Kd.R_new' ho0 (kx_ HO465)) (kx_ HO468)) (kx_ HO471)) (below_size (bl_ HB).out)); replace HO465 := ke_ HO465 ho0 hb; replace HO468 := ke_ HO468 ho0 hb; replace HO471 := ke_ HO471 ho0 hb; replace HB := Aside0.mk (below_step (bl_ HB).out hb); (try clear hb); (try clear ho0)))
  go_ret
  exact ⟨_, by first | rfl | (simp [errW_none, errW_some] <;> rfl) | (simp [*, errW_none, errW_some] <;> first | rfl | exact given_isEmpty _ | exact (given_isEmpty _).symm), by (with_reducible repeat (first | apply Kd.R_alloc | apply Kd.R_drewN | apply Kd.R_drew)); exact Kd.R_mono HO474.out (fun _ hk => trivial), by repeat (first | (with_reducible first | exact HB.out | apply below_alloc | apply pw_below_drewN | apply below_drew1) | exact HB.out)⟩

/-! ### class_Class_Minus: function 24 -/
def class_Class_Minus.f (k : Nat) (l0 : List (S28)) (l1 : List (S28)) : Option ((List (S28))) := (class_Class_Not.f k l1).bind fun t475 => ((class_Class_And.f k l0 t475).bind fun t478 => (some t478))
theorem class_Class_Minus.mono : ∀ a0 a1 k, LeO (class_Class_Minus.f k a0 a1) (class_Class_Minus.f (k + 1) a0 a1) := by
  intro a0 a1 k
  unfold class_Class_Minus.f
  repeat' first
      | (with_reducible exact class_Class_And.mono _ _ _)
      | (with_reducible exact class_Class_Not.mono _ _)
      | (with_reducible exact LeO.refl _)
      | (with_reducible exact LeO.none _)
      | (with_reducible refine LeO.ite ?_ ?_)
      | (with_reducible refine LeO.bind ?_ (fun _ => ?_))
      | exact class_Class_And.mono _ _ _
      | exact class_Class_Not.mono _ _
      | exact LeO.none _
      | refine LeO.ite ?_ ?_
      | refine LeO.bind ?_ (fun _ => ?_)
set_option maxHeartbeats 64000000 in
set_option maxRecDepth 100000 in
theorem class_Class_Minus.calls (k : Nat) (A0 : Option Addr) (c0 : Nat) (l0 : List (S28)) (A1 : Option Addr) (c1 : Nat) (l1 : List (S28)) (r : List (S28)) (w : World) (hr0 : Kd.C k28 w A0 l0.length l0) (hc0 : l0.length ≤ c0) (hr1 : Kd.C k28 w A1 l1.length l1) (hc1 : l1.length ≤ c1) (h : class_Class_Minus.f k l0 l1 = some r) :
    Calls Tryz.prog 24 #[.slice A0 l0.length c0, .slice A1 l1.length c1] w fun e w' => ∃ v0_ : Value, e = .returned (v0_) ∧ Kd.R k28 28 w' w.heap.size (fun _ => True) v0_ r ∧ Below w.heap.size w w' := by
  have HR0 := Aside0.mk hr0
  have HC0 := Aside0.mk hc0
  clear hr0 hc0
  have HR1 := Aside0.mk hr1
  have HC1 := Aside0.mk hc1
  clear hr1 hc1
  have HB := Aside0.mk (Below.refl w.heap.size w)
  have H : ((class_Class_Not.f k l1).bind fun t475 => ((class_Class_And.f k l0 t475).bind fun t478 => (some t478))) = some r := h
  clear h
  replace H := Option.bind_eq_some_iff.mp H
  obtain ⟨t475, A30, H⟩ := H
  replace H : ((class_Class_And.f k l0 t475).bind fun t478 => (some t478)) = some r := H
  have A3 := Aside0.mk A30
  clear A30
  replace H := Option.bind_eq_some_iff.mp H
  obtain ⟨t478, A40, H⟩ := H
  replace H : (some t478) = some r := H
  have A4 := Aside0.mk A40
  clear A40
  obtain rfl := Option.some.inj H
  go_enter Tryz.func24, Tryz.ntmps24
  go_wp2_with (first | ((with_reducible refine gate_callee (f := 18) rfl ?_); refine gl_ (some 7) Tryz.func18 #[.slice A1 l1.length c1] ?_; (with_reducible refine (class_Class_Not.calls k _ _ l1 t475 _ ?side1 ?side2 A3.out).mono ?_); (case side1 => repeat (first | exact HR1.out | (with_reducible refine Kd.C_alloc ?_ _) | (with_reducible refine Kd.C_drewN ?_ _) | (with_reducible refine Kd.C_drew ?_))); (case side2 => exact HC1.out); rintro e w5 ⟨v476, rfl, ho0, hb⟩; refine ⟨_, rfl, ?_⟩; have HO477 := Aside0.mk (Kd.R_lower ho0 (below_size (bl_ HB).out)); replace HB := Aside0.mk (below_step (bl_ HB).out hb); (try clear hb); (try clear ho0); obtain ⟨Ao6, co6, eo6⟩ := Kd.R_slice HO477.out; subst eo6) | ((with_reducible refine gate_callee (f := 23) rfl ?_); refine gl_ (some 8) Tryz.func23 #[.slice A0 l0.length c0, .slice Ao6 t475.length co6] ?_; (with_reducible refine (class_Class_And.calls k _ _ l0 _ _ t475 t478 _ ?side1 ?side2 ?side3 ?side4 A4.out).mono ?_); (case side1 => repeat (first | exact (Kd.C_below HR0.out HB.out) | (with_reducible refine Kd.C_alloc ?_ _) | (with_reducible refine Kd.C_drewN ?_ _) | (with_reducible refine Kd.C_drew ?_))); (case side2 => exact HC0.out); (case side3 => exact kc_ HO477); (case side4 => exact kl_ HO477); rintro e w7 ⟨v479, rfl, ho0, hb⟩; refine ⟨_, rfl, ?_⟩; have HO480 := Aside0.mk (Kd.R_lower (Kd.R_new' ho0 (kx_ HO477)) (below_size (bl_ HB).out)); replace HO477 := ke_ HO477 ho0 hb; replace HB := Aside0.mk (below_step (bl_ HB).out hb); (try clear hb); (try clear ho0)))
  go_ret
  exact ⟨_, by first | rfl | (simp [errW_none, errW_some] <;> rfl) | (simp [*, errW_none, errW_some] <;> first | rfl | exact given_isEmpty _ | exact (given_isEmpty _).symm), by (with_reducible repeat (first | apply Kd.R_alloc | apply Kd.R_drewN | apply Kd.R_drew)); exact Kd.R_mono HO480.out (fun _ hk => trivial), by repeat (first | (with_reducible first | exact HB.out | apply below_alloc | apply pw_below_drewN | apply below_drew1) | exact HB.out)⟩

end Go.Proofs.YtnpohgoacbpcjaaGreatDoor.P
