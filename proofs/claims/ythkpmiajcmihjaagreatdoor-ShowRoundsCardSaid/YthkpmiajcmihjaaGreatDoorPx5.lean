-- written by a program of this session (wip/p2)
import Derived.Test.YthkpmiajcmihjaaGreatDoorPx0
import Derived.Test.YthkpmiajcmihjaaGreatDoorPx2
import Derived.Test.YthkpmiajcmihjaaGreatDoorPx3
import Derived.Test.YthkpmiajcmihjaaGreatDoorPx4
namespace Go.Proofs.YthkpmiajcmihjaaGreatDoor.P
open Go.RowKit Go.Proofs.YthkpmiajcmihjaaGreatDoorW.PrintWords Go.Proofs.YthkpmiajcmihjaaGreatDoorW.PrintLast Go.Proofs.YthkpmiajcmihjaaGreatDoorW.PrintMore
attribute [local go_sem] max2_int min2_int max_two min_two max_three min_three max_four min_four   -- for this text's walks alone
set_option linter.unusedVariables false
set_option linter.unusedSimpArgs false

/-! ### round_whole: function 49 -/
def round_whole.f (k : Nat) (a0_0 : Bool) (a0_1 : ByteArray) (a0_2 : Int) : Option (Int × Bool) := (dec_Dec_Norm.f k a0_0 a0_1 a0_2).bind fun bt183 => ((num_Int.f k bt183.2.1).bind fun bt186 => (if bt186.2 = true then (if bt183.1 = true then (some (bt186.1, false)) else (if bt186.1 ≥ 1 then (some (bt186.1, decide (bt186.1 ≤ 1000000000))) else (some (bt186.1, false)))) else (some (bt186.1, false))))
theorem round_whole.mono : ∀ a0 a1 a2 k, LeO (round_whole.f k a0 a1 a2) (round_whole.f (k + 1) a0 a1 a2) := by
  intro a0 a1 a2 k
  unfold round_whole.f
  repeat' first
      | (with_reducible exact dec_Dec_Norm.mono _ _ _ _)
      | (with_reducible exact num_Int.mono _ _)
      | (with_reducible exact LeO.refl _)
      | (with_reducible exact LeO.none _)
      | (with_reducible refine LeO.ite ?_ ?_)
      | (with_reducible refine LeO.bind ?_ (fun _ => ?_))
      | exact dec_Dec_Norm.mono _ _ _ _
      | exact num_Int.mono _ _
      | exact LeO.none _
      | refine LeO.ite ?_ ?_
      | refine LeO.bind ?_ (fun _ => ?_)
set_option maxHeartbeats 8000000 in
set_option maxRecDepth 100000 in
theorem round_whole.calls (k : Nat) (a0_0 : Bool) (a0_1 : ByteArray) (a0_2 : Int) (r1 : Int) (r2 : Bool) (w : World) (h : round_whole.f k a0_0 a0_1 a0_2 = some (r1, r2)) :
    Calls Tryz.prog 49 #[.agg #[.bool a0_0, .string a0_1, .int .i64 a0_2]] w fun e w' => e = .returned (.tuple #[.int .i64 r1, .bool r2]) ∧ Below w.heap.size w w' := by
  have hu31 := Tryz.underlying31
  have HB := Aside0.mk (Below.refl w.heap.size w)
  have H : ((dec_Dec_Norm.f k a0_0 a0_1 a0_2).bind fun bt183 => ((num_Int.f k bt183.2.1).bind fun bt186 => (if bt186.2 = true then (if bt183.1 = true then (some (bt186.1, false)) else (if bt186.1 ≥ 1 then (some (bt186.1, decide (bt186.1 ≤ 1000000000))) else (some (bt186.1, false)))) else (some (bt186.1, false))))) = some (r1, r2) := h
  clear h
  replace H := Option.bind_eq_some_iff.mp H
  obtain ⟨⟨t183, t184, t185⟩, A20, H⟩ := H
  replace H : ((num_Int.f k t184).bind fun bt186 => (if bt186.2 = true then (if t183 = true then (some (bt186.1, false)) else (if bt186.1 ≥ 1 then (some (bt186.1, decide (bt186.1 ≤ 1000000000))) else (some (bt186.1, false)))) else (some (bt186.1, false)))) = some (r1, r2) := H
  have A2 := Aside0.mk A20
  clear A20
  replace H := Option.bind_eq_some_iff.mp H
  obtain ⟨⟨t186, t187⟩, A30, H⟩ := H
  replace H : (if t187 = true then (if t183 = true then (some (t186, false)) else (if t186 ≥ 1 then (some (t186, decide (t186 ≤ 1000000000))) else (some (t186, false)))) else (some (t186, false))) = some (r1, r2) := H
  have A3 := Aside0.mk A30
  clear A30
  by_cases c4 : t187 = true
  · subst c4
    have H1 : (if t183 = true then (some (t186, false)) else (if t186 ≥ 1 then (some (t186, decide (t186 ≤ 1000000000))) else (some (t186, false)))) = some (r1, r2) := by rw [if_pos rfl] at H; exact H
    clear H
    have H := H1
    clear H1
    by_cases c5 : t183 = true
    · subst c5
      have H1 : (some (t186, false)) = some (r1, r2) := by rw [if_pos rfl] at H; exact H
      clear H
      have H := H1
      clear H1
      simp only [Option.some.injEq, Prod.mk.injEq] at H
      obtain ⟨rfl, rfl⟩ := H
      go_enter Tryz.func49, Tryz.ntmps49
      go_wp2_with (first | ((with_reducible refine gate_dst (N := 1) rfl ?_); refine be_ 1 #[.bool a0_0, .string a0_1, .int .i64 a0_2] 31 ?_; intro gb182 hg w6 hbox hb; have BK182 := Aside0.mk (hbox); have GW182 := sz_ HB hg; have GE182 := sz_ HB hg; replace HB := Aside0.mk (below_step (bl_ HB).out hb); clear hb hbox hg; obtain ⟨hcz7_0, hcz7_1, hcz7_2, hfz7_0, hfz7_1, hfz7_2⟩ := bo3_ BK182) | ((with_reducible refine gate_callee (f := 8) rfl ?_); refine gl_ (some 7) Tryz.func8 #[.agg #[.bool a0_0, .string a0_1, .int .i64 a0_2]] ?_; (with_reducible refine (dec_Dec_Norm.calls k a0_0 a0_1 a0_2 true t184 t185 _ A2.out).mono ?_); rintro e w8 ⟨rfl, hb⟩; refine ⟨_, rfl, ?_⟩; replace BK182 := bb_ BK182 hb; replace HB := Aside0.mk (below_step (bl_ HB).out hb); (try clear hb); (try clear hb2); (try clear hk); (try clear hi); obtain ⟨hcz9_0, hcz9_1, hcz9_2, hfz9_0, hfz9_1, hfz9_2⟩ := bo3_ BK182) | ((with_reducible refine gate_callee (f := 55) rfl ?_); refine gl_ (some 11) Tryz.func55 #[.string t184] ?_; (with_reducible refine (num_Int.calls k t184 t186 true _ A3.out).mono ?_); rintro e w10 ⟨rfl, hb⟩; refine ⟨_, rfl, ?_⟩; have n0_ := Aside0.mk (blk_below (g := gb182) (o := .cells #[.bool true, .string t184, .int .i64 t185] 31 (0, 0)) (by (with_reducible repeat (first | refine blk_drewN ?_ _ | refine blk_drew ?_ | refine blk_alloc ?_ _)); refine blk_put (cs := #[.bool true, .string t184, .int .i64 a0_2]) ?_ 2 _ rfl; (with_reducible repeat (first | refine blk_drewN ?_ _ | refine blk_drew ?_ | refine blk_alloc ?_ _)); refine blk_put (cs := #[.bool true, .string a0_1, .int .i64 a0_2]) ?_ 1 _ rfl; (with_reducible repeat (first | refine blk_drewN ?_ _ | refine blk_drew ?_ | refine blk_alloc ?_ _)); refine blk_put (cs := #[.bool a0_0, .string a0_1, .int .i64 a0_2]) ?_ 0 _ rfl; (with_reducible repeat (first | refine blk_drewN ?_ _ | refine blk_drew ?_ | refine blk_alloc ?_ _)); exact BK182.out) hb); have n1_ := Aside0.mk (below_step (bl_ HB).out hb); clear BK182; clear HB; have BK182 := n0_; have HB := n1_; clear n0_ n1_; (try clear hb); (try clear hb2); (try clear hk); (try clear hi); obtain ⟨hcz11_0, hcz11_1, hcz11_2, hfz11_0, hfz11_1, hfz11_2⟩ := bo3_ BK182))
      go_ret2
      exact ⟨ew_, (bl_ HB).out⟩
    · replace c5 := Bool.eq_false_iff.mpr c5
      subst c5
      have H1 : (if t186 ≥ 1 then (some (t186, decide (t186 ≤ 1000000000))) else (some (t186, false))) = some (r1, r2) := by rw [if_neg (show ¬ (false = true) by decide)] at H; exact H
      clear H
      have H := H1
      clear H1
      by_cases c12 : t186 ≥ 1
      · rw [if_pos c12] at H
        have c12b0 : decide (1 ≤ t186) = true := decide_eq_true c12
        clear c12
        simp only [Option.some.injEq, Prod.mk.injEq] at H
        obtain ⟨rfl, rfl⟩ := H
        go_enter Tryz.func49, Tryz.ntmps49
        go_wp2_with (first | ((with_reducible refine gate_dst (N := 1) rfl ?_); refine be_ 1 #[.bool a0_0, .string a0_1, .int .i64 a0_2] 31 ?_; intro gb182 hg w13 hbox hb; have BK182 := Aside0.mk (hbox); have GW182 := sz_ HB hg; have GE182 := sz_ HB hg; replace HB := Aside0.mk (below_step (bl_ HB).out hb); clear hb hbox hg; obtain ⟨hcz14_0, hcz14_1, hcz14_2, hfz14_0, hfz14_1, hfz14_2⟩ := bo3_ BK182) | ((with_reducible refine gate_callee (f := 8) rfl ?_); refine gl_ (some 7) Tryz.func8 #[.agg #[.bool a0_0, .string a0_1, .int .i64 a0_2]] ?_; (with_reducible refine (dec_Dec_Norm.calls k a0_0 a0_1 a0_2 false t184 t185 _ A2.out).mono ?_); rintro e w15 ⟨rfl, hb⟩; refine ⟨_, rfl, ?_⟩; replace BK182 := bb_ BK182 hb; replace HB := Aside0.mk (below_step (bl_ HB).out hb); (try clear hb); (try clear hb2); (try clear hk); (try clear hi); obtain ⟨hcz16_0, hcz16_1, hcz16_2, hfz16_0, hfz16_1, hfz16_2⟩ := bo3_ BK182) | ((with_reducible refine gate_callee (f := 55) rfl ?_); refine gl_ (some 11) Tryz.func55 #[.string t184] ?_; (with_reducible refine (num_Int.calls k t184 t186 true _ A3.out).mono ?_); rintro e w17 ⟨rfl, hb⟩; refine ⟨_, rfl, ?_⟩; have n0_ := Aside0.mk (blk_below (g := gb182) (o := .cells #[.bool false, .string t184, .int .i64 t185] 31 (0, 0)) (by (with_reducible repeat (first | refine blk_drewN ?_ _ | refine blk_drew ?_ | refine blk_alloc ?_ _)); refine blk_put (cs := #[.bool false, .string t184, .int .i64 a0_2]) ?_ 2 _ rfl; (with_reducible repeat (first | refine blk_drewN ?_ _ | refine blk_drew ?_ | refine blk_alloc ?_ _)); refine blk_put (cs := #[.bool false, .string a0_1, .int .i64 a0_2]) ?_ 1 _ rfl; (with_reducible repeat (first | refine blk_drewN ?_ _ | refine blk_drew ?_ | refine blk_alloc ?_ _)); refine blk_put (cs := #[.bool a0_0, .string a0_1, .int .i64 a0_2]) ?_ 0 _ rfl; (with_reducible repeat (first | refine blk_drewN ?_ _ | refine blk_drew ?_ | refine blk_alloc ?_ _)); exact BK182.out) hb); have n1_ := Aside0.mk (below_step (bl_ HB).out hb); clear BK182; clear HB; have BK182 := n0_; have HB := n1_; clear n0_ n1_; (try clear hb); (try clear hb2); (try clear hk); (try clear hi); obtain ⟨hcz18_0, hcz18_1, hcz18_2, hfz18_0, hfz18_1, hfz18_2⟩ := bo3_ BK182))
        go_ret2
        exact ⟨ew_, (bl_ HB).out⟩
      · rw [if_neg c12] at H
        have c12b0 : decide (1 ≤ t186) = false := decide_eq_false c12
        clear c12
        simp only [Option.some.injEq, Prod.mk.injEq] at H
        obtain ⟨rfl, rfl⟩ := H
        go_enter Tryz.func49, Tryz.ntmps49
        go_wp2_with (first | ((with_reducible refine gate_dst (N := 1) rfl ?_); refine be_ 1 #[.bool a0_0, .string a0_1, .int .i64 a0_2] 31 ?_; intro gb182 hg w19 hbox hb; have BK182 := Aside0.mk (hbox); have GW182 := sz_ HB hg; have GE182 := sz_ HB hg; replace HB := Aside0.mk (below_step (bl_ HB).out hb); clear hb hbox hg; obtain ⟨hcz20_0, hcz20_1, hcz20_2, hfz20_0, hfz20_1, hfz20_2⟩ := bo3_ BK182) | ((with_reducible refine gate_callee (f := 8) rfl ?_); refine gl_ (some 7) Tryz.func8 #[.agg #[.bool a0_0, .string a0_1, .int .i64 a0_2]] ?_; (with_reducible refine (dec_Dec_Norm.calls k a0_0 a0_1 a0_2 false t184 t185 _ A2.out).mono ?_); rintro e w21 ⟨rfl, hb⟩; refine ⟨_, rfl, ?_⟩; replace BK182 := bb_ BK182 hb; replace HB := Aside0.mk (below_step (bl_ HB).out hb); (try clear hb); (try clear hb2); (try clear hk); (try clear hi); obtain ⟨hcz22_0, hcz22_1, hcz22_2, hfz22_0, hfz22_1, hfz22_2⟩ := bo3_ BK182) | ((with_reducible refine gate_callee (f := 55) rfl ?_); refine gl_ (some 11) Tryz.func55 #[.string t184] ?_; (with_reducible refine (num_Int.calls k t184 t186 true _ A3.out).mono ?_); rintro e w23 ⟨rfl, hb⟩; refine ⟨_, rfl, ?_⟩; have n0_ := Aside0.mk (blk_below (g := gb182) (o := .cells #[.bool false, .string t184, .int .i64 t185] 31 (0, 0)) (by (with_reducible repeat (first | refine blk_drewN ?_ _ | refine blk_drew ?_ | refine blk_alloc ?_ _)); refine blk_put (cs := #[.bool false, .string t184, .int .i64 a0_2]) ?_ 2 _ rfl; (with_reducible repeat (first | refine blk_drewN ?_ _ | refine blk_drew ?_ | refine blk_alloc ?_ _)); refine blk_put (cs := #[.bool false, .string a0_1, .int .i64 a0_2]) ?_ 1 _ rfl; (with_reducible repeat (first | refine blk_drewN ?_ _ | refine blk_drew ?_ | refine blk_alloc ?_ _)); refine blk_put (cs := #[.bool a0_0, .string a0_1, .int .i64 a0_2]) ?_ 0 _ rfl; (with_reducible repeat (first | refine blk_drewN ?_ _ | refine blk_drew ?_ | refine blk_alloc ?_ _)); exact BK182.out) hb); have n1_ := Aside0.mk (below_step (bl_ HB).out hb); clear BK182; clear HB; have BK182 := n0_; have HB := n1_; clear n0_ n1_; (try clear hb); (try clear hb2); (try clear hk); (try clear hi); obtain ⟨hcz24_0, hcz24_1, hcz24_2, hfz24_0, hfz24_1, hfz24_2⟩ := bo3_ BK182))
        go_ret2
        exact ⟨ew_, (bl_ HB).out⟩
  · replace c4 := Bool.eq_false_iff.mpr c4
    subst c4
    have H1 : (some (t186, false)) = some (r1, r2) := by rw [if_neg (show ¬ (false = true) by decide)] at H; exact H
    clear H
    have H := H1
    clear H1
    simp only [Option.some.injEq, Prod.mk.injEq] at H
    obtain ⟨rfl, rfl⟩ := H
    go_enter Tryz.func49, Tryz.ntmps49
    go_wp2_with (first | ((with_reducible refine gate_dst (N := 1) rfl ?_); refine be_ 1 #[.bool a0_0, .string a0_1, .int .i64 a0_2] 31 ?_; intro gb182 hg w25 hbox hb; have BK182 := Aside0.mk (hbox); have GW182 := sz_ HB hg; have GE182 := sz_ HB hg; replace HB := Aside0.mk (below_step (bl_ HB).out hb); clear hb hbox hg; obtain ⟨hcz26_0, hcz26_1, hcz26_2, hfz26_0, hfz26_1, hfz26_2⟩ := bo3_ BK182) | ((with_reducible refine gate_callee (f := 8) rfl ?_); refine gl_ (some 7) Tryz.func8 #[.agg #[.bool a0_0, .string a0_1, .int .i64 a0_2]] ?_; (with_reducible refine (dec_Dec_Norm.calls k a0_0 a0_1 a0_2 t183 t184 t185 _ A2.out).mono ?_); rintro e w27 ⟨rfl, hb⟩; refine ⟨_, rfl, ?_⟩; replace BK182 := bb_ BK182 hb; replace HB := Aside0.mk (below_step (bl_ HB).out hb); (try clear hb); (try clear hb2); (try clear hk); (try clear hi); obtain ⟨hcz28_0, hcz28_1, hcz28_2, hfz28_0, hfz28_1, hfz28_2⟩ := bo3_ BK182) | ((with_reducible refine gate_callee (f := 55) rfl ?_); refine gl_ (some 11) Tryz.func55 #[.string t184] ?_; (with_reducible refine (num_Int.calls k t184 t186 false _ A3.out).mono ?_); rintro e w29 ⟨rfl, hb⟩; refine ⟨_, rfl, ?_⟩; have n0_ := Aside0.mk (blk_below (g := gb182) (o := .cells #[.bool t183, .string t184, .int .i64 t185] 31 (0, 0)) (by (with_reducible repeat (first | refine blk_drewN ?_ _ | refine blk_drew ?_ | refine blk_alloc ?_ _)); refine blk_put (cs := #[.bool t183, .string t184, .int .i64 a0_2]) ?_ 2 _ rfl; (with_reducible repeat (first | refine blk_drewN ?_ _ | refine blk_drew ?_ | refine blk_alloc ?_ _)); refine blk_put (cs := #[.bool t183, .string a0_1, .int .i64 a0_2]) ?_ 1 _ rfl; (with_reducible repeat (first | refine blk_drewN ?_ _ | refine blk_drew ?_ | refine blk_alloc ?_ _)); refine blk_put (cs := #[.bool a0_0, .string a0_1, .int .i64 a0_2]) ?_ 0 _ rfl; (with_reducible repeat (first | refine blk_drewN ?_ _ | refine blk_drew ?_ | refine blk_alloc ?_ _)); exact BK182.out) hb); have n1_ := Aside0.mk (below_step (bl_ HB).out hb); clear BK182; clear HB; have BK182 := n0_; have HB := n1_; clear n0_ n1_; (try clear hb); (try clear hb2); (try clear hk); (try clear hi)))
    go_ret2
    exact ⟨ew_, (bl_ HB).out⟩

/-! ### num_Div: function 50 -/
def num_Div.renWB : Go.Shelf.Ren := ⟨fun | 167 => 40 | n => Tryz.lays105_ren.f n, Tryz.lays105_ren.t, Tryz.lays105_ren.g⟩
set_option maxRecDepth 100000 in
theorem num_Div.laysWB : Go.Proofs.Lays.n167 Tryz.prog num_Div.renWB := by
  have L := Tryz.lays105
  exact { mixed := L.mixed, f167 := Tryz.func40.trans (congrArg some (by kernel_rfl)), f240 := L.f240, f276 := L.f276,
          t0 := L.t0, a0 := L.a0, z0 := L.z0, v0 := L.v0, t4 := L.t4, a4 := L.a4, z4 := L.z4, v4 := L.v4, t5 := L.t5, a5 := L.a5, z5 := L.z5, v5 := L.v5,
          t9 := L.t9, a9 := L.a9, z9 := L.z9, v9 := L.v9, t20 := L.t20, a20 := L.a20, z20 := L.z20, v20 := L.v20, t37 := L.t37, a37 := L.a37, z37 := L.z37, v37 := L.v37,
          t70 := L.t70, a70 := L.a70, z70 := L.z70, v70 := L.v70, t72 := L.t72, a72 := L.a72, z72 := L.z72, v72 := L.v72, t75 := L.t75, a75 := L.a75, z75 := L.z75, v75 := L.v75, t164 := L.t164, a164 := L.a164, z164 := L.z164, v164 := L.v164 }
set_option maxRecDepth 100000 in
theorem num_Div.extraWB : Builder.Extra Tryz.prog num_Div.renWB := by
  have X := Tryz.Builder_Extra_105
  exact { sizeBuilder := X.sizeBuilder, liesBuilder := X.liesBuilder, t5 := X.t5, a5 := X.a5, z5 := X.z5, v5 := X.v5, infoByte := X.infoByte, cellsByte := X.cellsByte, sizeByte := X.sizeByte, neB5 := X.neB5 }
set_option maxRecDepth 100000 in
theorem num_Div.WriteByte (B b : Nat) (bs : List Value) (c : Int) (w : World) (h : Lib.IsBuilder 69 5 B b bs w) (hlen : bs.length + 1 ≤ 140737488355328) (hBw : B ≤ w.heap.size) :
    Calls Tryz.prog 40 #[.pointer (some ⟨b, 0, none⟩), .int .u8 c] w fun e w' => e = .returned .nilIface ∧ (Lib.BuilderAt 69 5 B b (.pointer (some ⟨b, 0, none⟩)) (bs ++ [.int .u8 c]) w' ∧ Below B w w') := Any.Builder_WriteByte num_Div.laysWB num_Div.extraWB B b bs c w h hlen hBw

def num_Div.rest (m r : Int) (c : UInt8) : Int := 10 * r + ((c.toNat : Int) - 48) % 256
def num_Div.step (m : Int) (p : List UInt8 × Int) (c : UInt8) : List UInt8 × Int :=
  (p.1 ++ [UInt8.ofNat ((48 + num_Div.rest m p.2 c / m) % 256).toNat], num_Div.rest m p.2 c % m)
def num_Div.go (m : Int) (l : List UInt8) : List UInt8 × Int := l.foldl (num_Div.step m) ([], 0)
theorem num_Div.go_take (m : Int) (s : ByteArray) (k : Nat) (h : k < s.size) : num_Div.go m (s.data.toList.take (k + 1)) = num_Div.step m (num_Div.go m (s.data.toList.take k)) (s.data.toList.getD k 0) := by
  unfold num_Div.go
  have h' : k < s.data.toList.length := by simpa using h
  rw [List.take_succ_eq_append_getElem h', List.foldl_append]
  simp only [List.foldl_cons, List.foldl_nil, List.getD_eq_getElem?_getD, List.getElem?_eq_getElem h', Option.getD_some]
theorem num_Div.go_inv (m : Int) (hm : 1 ≤ m) (l : List UInt8) : (num_Div.go m l).1.length = l.length ∧ 0 ≤ (num_Div.go m l).2 ∧ (num_Div.go m l).2 < m := by
  unfold num_Div.go
  suffices H : ∀ (l : List UInt8) (p : List UInt8 × Int), 0 ≤ p.2 → p.2 < m → (l.foldl (num_Div.step m) p).1.length = p.1.length + l.length ∧ 0 ≤ (l.foldl (num_Div.step m) p).2 ∧ (l.foldl (num_Div.step m) p).2 < m by
    have := H l ([], 0) (by simp) (by simp; omega)
    simpa using this
  intro l
  induction l with
  | nil => intro p h1 h2; exact ⟨rfl, h1, h2⟩
  | cons c l ih =>
    intro p h1 h2
    rw [List.foldl_cons]
    have h3 := ih (num_Div.step m p c) (Int.emod_nonneg _ (by omega)) (Int.emod_lt_of_pos _ (by omega))
    refine ⟨?_, h3.2⟩
    rw [h3.1]; simp [num_Div.step]; omega
def num_Div.f (k : Nat) (a0 : ByteArray) (a1 : Int) : Option (ByteArray × Int) := (num_Is.f k a0).bind fun t => if t = true then (if a1 < 1 then some (⟨#[]⟩, 0) else if 1000000000 < a1 then some (⟨#[]⟩, 0) else if a0.size < 140737488355328 then (num_Trim.f k ⟨(num_Div.go a1 a0.data.toList).1.toArray⟩).bind fun u => some (u, (num_Div.go a1 a0.data.toList).2) else none) else some (⟨#[]⟩, 0)
theorem num_Div.getD_ (s : ByteArray) (j : Nat) (h : j < s.size) : s.data.toList.getD j 0 = s[j] := by
  have h' : j < s.data.toList.length := by simpa using h
  simp only [List.getD_eq_getElem?_getD, List.getElem?_eq_getElem h', Option.getD_some]
  rfl
theorem num_Div.cells_snoc {T e B b : Nat} {p : Value} {l : List UInt8} {x : Int} {w : World} (h : Lib.BuilderAt T e B b p (Lib.byteCells l ++ [.int .u8 (x % 256)]) w) : Lib.BuilderAt T e B b p (Lib.byteCells (l ++ [UInt8.ofNat (x % 256).toNat])) w := by
  have e1 : Lib.byteCells (l ++ [UInt8.ofNat (x % 256).toNat]) = Lib.byteCells l ++ [.int .u8 (x % 256)] := by
    unfold Lib.byteCells
    rw [List.map_append, List.map_cons, List.map_nil]
    have h1 : (x % 256).toNat < 256 := by omega
    have h2 : ((UInt8.ofNat (x % 256).toNat).toNat : Int) = x % 256 := by
      rw [UInt8.toNat_ofNat_of_lt' (by simpa using h1)]; omega
    rw [h2]
  rw [e1]; exact h
theorem num_Div.mono : ∀ a0 a1 k, LeO (num_Div.f k a0 a1) (num_Div.f (k + 1) a0 a1) := by
  intro a0 a1 k
  unfold num_Div.f
  repeat' first
  | (with_reducible exact num_Is.mono _ _)
  | (with_reducible exact num_Trim.mono _ _)
  | (with_reducible exact LeO.refl _)
  | (with_reducible exact LeO.none _)
  | (with_reducible refine LeO.ite ?_ ?_)
  | (with_reducible refine LeO.bind ?_ (fun _ => ?_))
set_option maxHeartbeats 1000000 in
theorem num_Div.calls (k : Nat) (a0 : ByteArray) (a1 : Int) (r1 : ByteArray) (r2 : Int) (w : World) (h : num_Div.f k a0 a1 = some (r1, r2)) :
    Calls Tryz.prog 50 #[.string a0, .int .i64 a1] w fun e w' => e = .returned (.tuple #[.string r1, .int .i64 r2]) ∧ Below w.heap.size w w' := by
  unfold num_Div.f at h
  replace h := Option.bind_eq_some_iff.mp h
  obtain ⟨t, h1, h⟩ := h
  have h1' := Aside0.mk h1
  clear h1
  cases t with
  | false =>
    rw [if_neg (by decide)] at h
    simp only [Option.some.injEq, Prod.mk.injEq] at h
    obtain ⟨rfl, rfl⟩ := h
    go_enter Tryz.func50, Tryz.ntmps50
    go_wp2_with (go_at_call 53; refine (num_Is.calls k a0 _ _ h1'.out).mono ?_; rintro e w' ⟨rfl, ⟨m, rfl⟩⟩)
    go_ret2
    exact ⟨rfl, pw_below_drewN (Below.refl _ _) m⟩
  | true =>
    rw [if_pos rfl] at h
    by_cases hlo : a1 < 1
    · rw [if_pos hlo] at h
      simp only [Option.some.injEq, Prod.mk.injEq] at h
      obtain ⟨rfl, rfl⟩ := h
      have d1 : decide (a1 < 1) = true := decide_eq_true hlo
      clear hlo
      go_enter Tryz.func50, Tryz.ntmps50
      go_wp2_with (go_at_call 53; refine (num_Is.calls k a0 _ _ h1'.out).mono ?_; rintro e w' ⟨rfl, ⟨m, rfl⟩⟩)
      go_ret2
      exact ⟨rfl, by repeat (first | exact Below.refl _ _ | apply pw_below_drewN)⟩
    · rw [if_neg hlo] at h
      by_cases hhi : 1000000000 < a1
      · rw [if_pos hhi] at h
        simp only [Option.some.injEq, Prod.mk.injEq] at h
        obtain ⟨rfl, rfl⟩ := h
        have d1 : decide (a1 < 1) = false := decide_eq_false hlo
        have d2 : decide (1000000000 < a1) = true := decide_eq_true hhi
        clear hlo hhi
        go_enter Tryz.func50, Tryz.ntmps50
        go_wp2_with (go_at_call 53; refine (num_Is.calls k a0 _ _ h1'.out).mono ?_; rintro e w' ⟨rfl, ⟨m, rfl⟩⟩)
        go_ret2
        exact ⟨rfl, by repeat (first | exact Below.refl _ _ | apply pw_below_drewN)⟩
      · rw [if_neg hhi] at h
        by_cases hsz : a0.size < 140737488355328
        · rw [if_pos hsz] at h
          replace h := Option.bind_eq_some_iff.mp h
          obtain ⟨u, h2, h⟩ := h
          have h2' := Aside0.mk h2
          clear h2
          simp only [Option.some.injEq, Prod.mk.injEq] at h
          obtain ⟨rfl, rfl⟩ := h
          have d1 : decide (a1 < 1) = false := decide_eq_false hlo
          have d2 : decide (1000000000 < a1) = false := decide_eq_false hhi
          have hlo' := Aside0.mk (show 1 ≤ a1 by omega)
          have hhi' := Aside0.mk (show a1 ≤ 1000000000 by omega)
          clear hlo hhi
          go_enter Tryz.func50, Tryz.ntmps50
          go_wp2_with (go_at_call 53; refine (num_Is.calls k a0 _ _ h1'.out).mono ?_; rintro e w' ⟨rfl, ⟨m, rfl⟩⟩)
          have hB0 : Lib.IsBuilder 69 5 w.heap.size w.heap.size (Lib.byteCells (num_Div.go a1 (a0.data.toList.take 0)).1) ((w.drewN m).alloc (.cells #[.pointer none, .slice none 0 0] 69)) := Lib.fresh_isBuilder 69 5 (w.drewN m)
          have hW0 : Below w.heap.size w ((w.drewN m).alloc (.cells #[.pointer none, .slice none 0 0] 69)) := (pw_below_drewN (Below.refl _ _) m).alloc (Nat.le_refl _) _
          have hB0' := Aside0.mk hB0
          have hW0' := Aside0.mk hW0
          clear hB0 hW0 d1 d2
          go_loopw [7, 22] (fun r i wr => ∃ j : Nat, j ≤ a0.size ∧ i = .int .i64 j ∧ r = .int .i64 (num_Div.go a1 (a0.data.toList.take j)).2 ∧ Aside0 (Lib.IsBuilder 69 5 w.heap.size w.heap.size (Lib.byteCells (num_Div.go a1 (a0.data.toList.take j)).1) wr) ∧ Aside0 (Below w.heap.size w wr)) (fun _ i _ => a0.size - (intOf i).toNat)
          case atStart => exact ⟨0, Nat.zero_le _, rfl, rfl, hB0', hW0'⟩
          case round =>
            clear hB0' hW0'
            obtain ⟨j, hj, rfl, rfl, hb, hbel⟩ := hrel
            by_cases hlt : j < a0.size
            · have inv := num_Div.go_inv a1 hlo'.out (a0.data.toList.take j)
              obtain ⟨R, hR⟩ : ∃ R, (num_Div.go a1 (a0.data.toList.take j)).2 = R := ⟨_, rfl⟩
              rw [hR] at inv ⊢
              have hR' := Aside0.mk hR
              clear hR
              have i1 := inv.2.1
              have i2 := Int.lt_of_lt_of_le inv.2.2 hhi'.out
              have hg := Aside0.mk (num_Div.go_take a1 a0 j hlt)
              have inv' := Aside0.mk inv
              clear inv
              have hlo := hlo'.out
              go_wp2_with fail
              refine (num_Div.WriteByte w.heap.size w.heap.size _ _ wr hb.out (by rw [Lib.byteCells_length, inv'.out.1]; simp; omega) hbel.out.size).mono ?_
              rintro e W1 ⟨rfl, hb1, hbel1⟩
              have hb1' := Aside0.mk (num_Div.cells_snoc hb1)
              have hbel1' := Aside0.mk (hbel.out.trans hbel1)
              clear hb1 hbel1 hb hbel
              go_wp2
              go_roundw
              case rel => exact ⟨j + 1, by omega, by go_num, by rw [hg.out, num_Div.step, hR'.out, num_Div.getD_ a0 j hlt]; rfl, by rw [hg.out, num_Div.step, hR'.out, num_Div.getD_ a0 j hlt]; exact ⟨.inr hb1'.out⟩, hbel1'⟩
              case measure => simp [intOf]; omega
            · have hfull : a0.data.toList.take j = a0.data.toList := List.take_of_length_le (by simp; omega)
              rw [hfull] at hb ⊢
              go_wp2_with (first | (go_at_call 42; refine (Tryz.Builder_String_any w.heap.size w.heap.size _ wr hb.out hbel.out.size).mono ?_; rintro e W1 ⟨rfl, hbel1⟩) | (go_at_call 30; refine (num_Trim.calls k _ _ _ h2'.out).mono ?_; rintro e w' ⟨rfl, ⟨m', rfl⟩⟩))
              go_ret2
              exact ⟨rfl, pw_below_drewN (hbel.out.trans hbel1) _⟩
        · rw [if_neg hsz] at h
          cases h

/-! ### round_between: function 51 -/
mutual
def round_between.j0 : Nat → Int → Int → Bool → Option (Int)
  | 0, _, _, _ => none
  | k + 1, x7, x8, x15 => if x15 = true then (some 0) else (if x8 ≥ 2 then (round_between.j1 k x7 x8 (decide (x8 ≥ 2))) else (if x8 = 1 then (round_between.j1 k x7 x8 (decide (x7 < 2))) else (round_between.j1 k x7 x8 false)))
def round_between.j1 : Nat → Int → Int → Bool → Option (Int)
  | 0, _, _, _ => none
  | k + 1, x7, x8, x22 => if x22 = true then (some 1) else (if x8 = 1 then (round_between.j2 k x7 x8 (x7 == 2)) else (round_between.j2 k x7 x8 false))
def round_between.j2 : Nat → Int → Int → Bool → Option (Int)
  | 0, _, _, _ => none
  | k + 1, x7, x8, x31 => if x31 = true then (some 2) else (if x8 = 0 then (if x7 = 0 then (some 2) else (some 3)) else (some 3))
end
def round_between.f (k : Nat) (a0 : Int) (a1 : ByteArray) (a2 : Int) : Option (Int) := (round_tail.f a1).bind fun t188 => (if a0 = 0 then (round_between.j0 k t188 (wrap64 (a2 - (wrap64 (2 * a0)))) (t188 == 0)) else (round_between.j0 k t188 (wrap64 (a2 - (wrap64 (2 * a0)))) false))
theorem round_between.mono_l : ∀ k, (∀ y0 y1 y2, LeO (round_between.j0 k y0 y1 y2) (round_between.j0 (k + 1) y0 y1 y2)) ∧ (∀ y0 y1 y2, LeO (round_between.j1 k y0 y1 y2) (round_between.j1 (k + 1) y0 y1 y2)) ∧ (∀ y0 y1 y2, LeO (round_between.j2 k y0 y1 y2) (round_between.j2 (k + 1) y0 y1 y2))
  | 0 => ⟨fun _ _ _ r h => by simp [round_between.j0] at h, fun _ _ _ r h => by simp [round_between.j1] at h, fun _ _ _ r h => by simp [round_between.j2] at h⟩
  | k + 1 => by
    obtain ⟨ih0, ih1, ih2⟩ := round_between.mono_l k
    refine ⟨?_, ?_, ?_⟩
    · intro y0 y1 y2
      unfold round_between.j0
      repeat' first
      | (with_reducible exact ih0 _ _ _)
      | (with_reducible exact ih1 _ _ _)
      | (with_reducible exact ih2 _ _ _)
      | (with_reducible exact LeO.refl _)
      | (with_reducible exact LeO.none _)
      | (with_reducible refine LeO.ite ?_ ?_)
      | (with_reducible refine LeO.bind ?_ (fun _ => ?_))
      | exact ih0 _ _ _
      | exact ih1 _ _ _
      | exact ih2 _ _ _
      | exact LeO.none _
      | refine LeO.ite ?_ ?_
      | refine LeO.bind ?_ (fun _ => ?_)
    · intro y0 y1 y2
      unfold round_between.j1
      repeat' first
      | (with_reducible exact ih0 _ _ _)
      | (with_reducible exact ih1 _ _ _)
      | (with_reducible exact ih2 _ _ _)
      | (with_reducible exact LeO.refl _)
      | (with_reducible exact LeO.none _)
      | (with_reducible refine LeO.ite ?_ ?_)
      | (with_reducible refine LeO.bind ?_ (fun _ => ?_))
      | exact ih0 _ _ _
      | exact ih1 _ _ _
      | exact ih2 _ _ _
      | exact LeO.none _
      | refine LeO.ite ?_ ?_
      | refine LeO.bind ?_ (fun _ => ?_)
    · intro y0 y1 y2
      unfold round_between.j2
      repeat' first
      | (with_reducible exact ih0 _ _ _)
      | (with_reducible exact ih1 _ _ _)
      | (with_reducible exact ih2 _ _ _)
      | (with_reducible exact LeO.refl _)
      | (with_reducible exact LeO.none _)
      | (with_reducible refine LeO.ite ?_ ?_)
      | (with_reducible refine LeO.bind ?_ (fun _ => ?_))
      | exact ih0 _ _ _
      | exact ih1 _ _ _
      | exact ih2 _ _ _
      | exact LeO.none _
      | refine LeO.ite ?_ ?_
      | refine LeO.bind ?_ (fun _ => ?_)
theorem round_between.mono : ∀ a0 a1 a2 k, LeO (round_between.f k a0 a1 a2) (round_between.f (k + 1) a0 a1 a2) := by
  intro a0 a1 a2 k
  obtain ⟨ih0, ih1, ih2⟩ := round_between.mono_l k
  unfold round_between.f
  repeat' first
      | (with_reducible exact ih0 _ _ _)
      | (with_reducible exact ih1 _ _ _)
      | (with_reducible exact ih2 _ _ _)
      | (with_reducible exact LeO.refl _)
      | (with_reducible exact LeO.none _)
      | (with_reducible refine LeO.ite ?_ ?_)
      | (with_reducible refine LeO.bind ?_ (fun _ => ?_))
      | exact ih0 _ _ _
      | exact ih1 _ _ _
      | exact ih2 _ _ _
      | exact LeO.none _
      | refine LeO.ite ?_ ?_
      | refine LeO.bind ?_ (fun _ => ?_)
set_option maxHeartbeats 8000000 in
set_option maxRecDepth 100000 in
theorem round_between.calls (k : Nat) (a0 : Int) (a1 : ByteArray) (a2 : Int) (r : Int) (w : World) (h : round_between.f k a0 a1 a2 = some r) :
    Calls Tryz.prog 51 #[.int .i64 a0, .string a1, .int .i64 a2] w fun e w' => e = .returned (.int .i64 r) ∧ Drawn0 w w' := by
  have H : ((round_tail.f a1).bind fun t188 => (if a0 = 0 then (round_between.j0 k t188 (wrap64 (a2 - (wrap64 (2 * a0)))) (t188 == 0)) else (round_between.j0 k t188 (wrap64 (a2 - (wrap64 (2 * a0)))) false))) = some r := h
  clear h
  replace H := Option.bind_eq_some_iff.mp H
  obtain ⟨t188, A40, H⟩ := H
  replace H : (if a0 = 0 then (round_between.j0 k t188 (wrap64 (a2 - (wrap64 (2 * a0)))) (t188 == 0)) else (round_between.j0 k t188 (wrap64 (a2 - (wrap64 (2 * a0)))) false)) = some r := H
  have A4 := Aside0.mk A40
  clear A40
  have HC5 := Aside0.mk H
  clear H
  go_enter Tryz.func51, Tryz.ntmps51
  go_upto_region 3 with (first | ((with_reducible refine gate_callee (f := 48) rfl ?_); refine gl_ (some 10) Tryz.func48 #[.string a1] ?_; (with_reducible refine (round_tail.calls a1 t188 _ A4.out).mono ?_); rintro e w' ⟨rfl, ⟨nd, rfl⟩⟩; refine ⟨_, rfl, ?_⟩))
  (try simp only [Act.put, List.setIfInBounds_toArray, List.set_cons_zero, List.set_cons_succ])
  go_cut [15] (fun v15 wc => ∃ (kq : Nat) (x15_4 : Bool), v15 = .bool x15_4 ∧ Aside0 (round_between.j0 kq t188 (wrap64 (a2 - (wrap64 (2 * a0)))) x15_4 = some r) ∧ Aside0 (kq ≤ k) ∧ Drawn0 w wc)
  case first =>
    have H := HC5.out
    clear HC5
    by_cases c6 : a0 = 0
    · rw [if_pos c6] at H
      have c6b0 : (a0 == 0) = true := beq_iff_eq.mpr c6
      have c6b1 : (a0 != 0) = false := bne_eq_false_iff_eq.mpr c6
      clear c6
      (first | rw [c6b0] | (simp only [i64_w, i32_w]; rw [c6b0]) | skip)
      have H' := Aside0.mk H
      clear H
      go_wp2
      go_meet
      case rel => exact ⟨_, ((t188 == 0)), eq_, H', ⟨by first | omega | exact Nat.le_refl _⟩, by repeat (first | exact Drawn0.refl _ | apply Drawn0.step)⟩
    · rw [if_neg c6] at H
      have c6b0 : (a0 == 0) = false := beq_eq_false_iff_ne.mpr c6
      have c6b1 : (a0 != 0) = true := bne_iff_ne.mpr c6
      (first | rw [c6b0] | (simp only [i64_w, i32_w]; rw [c6b0]) | skip)
      have H' := Aside0.mk H
      clear H
      go_wp2
      go_meet
      case rel => exact ⟨_, (false), eq_, H', ⟨by first | omega | exact Nat.le_refl _⟩, by repeat (first | exact Drawn0.refl _ | apply Drawn0.step)⟩
  case rest =>
    clear HC5
    try clear p2
    try clear c4
    try clear c5
    try clear c6
    try clear c6b0
    try clear c6b1
    try clear p6
    obtain ⟨kq, x15_4, rfl, HA, HJ4, ⟨mc4, rfl⟩⟩ := hcut
    cases kq with
    | zero => exact absurd HA.out (by simp [round_between.j0])
    | succ kj4 =>
      have H := HA.out
      clear HA
      simp only [round_between.j0] at H
      by_cases c7 : x15_4 = true
      · subst c7
        have H1 : (some 0) = some r := by rw [if_pos rfl] at H; exact H
        clear H
        have H := H1
        clear H1
        obtain rfl := Option.some.inj H
        go_wp2
        go_ret
        exact ⟨by first | rfl | (simp; done) | (simp [*]; done) | (simp; first | exact given_isEmpty _ | exact (given_isEmpty _).symm) | (unfold wrap64; omega) | (congr 1; unfold wrap64; omega), by repeat (first | exact Drawn0.refl _ | apply Drawn0.step)⟩
      · replace c7 := Bool.eq_false_iff.mpr c7
        subst c7
        have H1 : (if (wrap64 (a2 - (wrap64 (2 * a0)))) ≥ 2 then (round_between.j1 kj4 t188 (wrap64 (a2 - (wrap64 (2 * a0)))) (decide ((wrap64 (a2 - (wrap64 (2 * a0)))) ≥ 2))) else (if (wrap64 (a2 - (wrap64 (2 * a0)))) = 1 then (round_between.j1 kj4 t188 (wrap64 (a2 - (wrap64 (2 * a0)))) (decide (t188 < 2))) else (round_between.j1 kj4 t188 (wrap64 (a2 - (wrap64 (2 * a0)))) false))) = some r := by rw [if_neg (show ¬ (false = true) by decide)] at H; exact H
        clear H
        have H := H1
        clear H1
        have HC8 := Aside0.mk H
        clear H
        go_upto_if 22 with (fail)
        go_cut [22] (fun v22 wc => ∃ (kq : Nat) (x22_7 : Bool), v22 = .bool x22_7 ∧ Aside0 (round_between.j1 kq t188 (wrap64 (a2 - (wrap64 (2 * a0)))) x22_7 = some r) ∧ Aside0 (kq ≤ kj4) ∧ Drawn0 w wc)
        case first =>
          have H := HC8.out
          clear HC8
          by_cases c9 : (wrap64 (a2 - (wrap64 (2 * a0)))) ≥ 2
          · rw [if_pos c9] at H
            have c9b0 : decide (2 ≤ (wrap64 (a2 - (wrap64 (2 * a0))))) = true := decide_eq_true c9
            clear c9
            (first | rw [c9b0] | (simp only [i64_w, i32_w]; rw [c9b0]) | skip)
            have H' := Aside0.mk H
            clear H
            go_wp2
            go_meet
            case rel => exact ⟨_, (decide ((wrap64 (a2 - (wrap64 (2 * a0)))) ≥ 2)), eq_, H', ⟨by have := HJ4.out; first | omega | exact Nat.le_refl _⟩, by repeat (first | exact Drawn0.refl _ | apply Drawn0.step)⟩
          · rw [if_neg c9] at H
            have c9b0 : decide (2 ≤ (wrap64 (a2 - (wrap64 (2 * a0))))) = false := decide_eq_false c9
            clear c9
            (first | rw [c9b0] | (simp only [i64_w, i32_w]; rw [c9b0]) | skip)
            by_cases c10 : (wrap64 (a2 - (wrap64 (2 * a0)))) = 1
            · rw [if_pos c10] at H
              have c10b0 : ((wrap64 (a2 - (wrap64 (2 * a0)))) == 1) = true := beq_iff_eq.mpr c10
              have c10b1 : ((wrap64 (a2 - (wrap64 (2 * a0)))) != 1) = false := bne_eq_false_iff_eq.mpr c10
              clear c10
              have H' := Aside0.mk H
              clear H
              go_wp2
              go_meet
              case rel => exact ⟨_, (decide (t188 < 2)), eq_, H', ⟨by have := HJ4.out; first | omega | exact Nat.le_refl _⟩, by repeat (first | exact Drawn0.refl _ | apply Drawn0.step)⟩
            · rw [if_neg c10] at H
              have c10b0 : ((wrap64 (a2 - (wrap64 (2 * a0)))) == 1) = false := beq_eq_false_iff_ne.mpr c10
              have c10b1 : ((wrap64 (a2 - (wrap64 (2 * a0)))) != 1) = true := bne_iff_ne.mpr c10
              have H' := Aside0.mk H
              clear H
              go_wp2
              go_meet
              case rel => exact ⟨_, (false), eq_, H', ⟨by have := HJ4.out; first | omega | exact Nat.le_refl _⟩, by repeat (first | exact Drawn0.refl _ | apply Drawn0.step)⟩
        case rest =>
          clear HC8
          try clear c1
          try clear p2
          try clear c4
          try clear c5
          try clear c6
          try clear c6b0
          try clear c6b1
          try clear p6
          try clear c7
          try clear c9
          try clear c9b0
          try clear c10
          try clear c10b0
          try clear c10b1
          try clear p2
          try clear p6
          obtain ⟨kq, x22_7, rfl, HA, HJ7, ⟨mc7, rfl⟩⟩ := hcut
          cases kq with
          | zero => exact absurd HA.out (by simp [round_between.j1])
          | succ kj7 =>
            have H := HA.out
            clear HA
            simp only [round_between.j1] at H
            by_cases c11 : x22_7 = true
            · subst c11
              have H1 : (some 1) = some r := by rw [if_pos rfl] at H; exact H
              clear H
              have H := H1
              clear H1
              obtain rfl := Option.some.inj H
              go_wp2
              go_ret
              exact ⟨by first | rfl | (simp; done) | (simp [*]; done) | (simp; first | exact given_isEmpty _ | exact (given_isEmpty _).symm) | (unfold wrap64; omega) | (congr 1; unfold wrap64; omega), by repeat (first | exact Drawn0.refl _ | apply Drawn0.step)⟩
            · replace c11 := Bool.eq_false_iff.mpr c11
              subst c11
              have H1 : (if (wrap64 (a2 - (wrap64 (2 * a0)))) = 1 then (round_between.j2 kj7 t188 (wrap64 (a2 - (wrap64 (2 * a0)))) (t188 == 2)) else (round_between.j2 kj7 t188 (wrap64 (a2 - (wrap64 (2 * a0)))) false)) = some r := by rw [if_neg (show ¬ (false = true) by decide)] at H; exact H
              clear H
              have H := H1
              clear H1
              have HC12 := Aside0.mk H
              clear H
              go_upto_region 8 with (fail)
              go_cut [31] (fun v31 wc => ∃ (kq : Nat) (x31_11 : Bool), v31 = .bool x31_11 ∧ Aside0 (round_between.j2 kq t188 (wrap64 (a2 - (wrap64 (2 * a0)))) x31_11 = some r) ∧ Aside0 (kq ≤ kj7) ∧ Drawn0 w wc)
              case first =>
                have H := HC12.out
                clear HC12
                by_cases c13 : (wrap64 (a2 - (wrap64 (2 * a0)))) = 1
                · rw [if_pos c13] at H
                  have c13b0 : ((wrap64 (a2 - (wrap64 (2 * a0)))) == 1) = true := beq_iff_eq.mpr c13
                  have c13b1 : ((wrap64 (a2 - (wrap64 (2 * a0)))) != 1) = false := bne_eq_false_iff_eq.mpr c13
                  clear c13
                  (first | rw [c13b0] | (simp only [i64_w, i32_w]; rw [c13b0]) | skip)
                  have H' := Aside0.mk H
                  clear H
                  go_wp2
                  go_meet
                  case rel => exact ⟨_, ((t188 == 2)), eq_, H', ⟨by have := HJ4.out; have := HJ7.out; first | omega | exact Nat.le_refl _⟩, by repeat (first | exact Drawn0.refl _ | apply Drawn0.step)⟩
                · rw [if_neg c13] at H
                  have c13b0 : ((wrap64 (a2 - (wrap64 (2 * a0)))) == 1) = false := beq_eq_false_iff_ne.mpr c13
                  have c13b1 : ((wrap64 (a2 - (wrap64 (2 * a0)))) != 1) = true := bne_iff_ne.mpr c13
                  (first | rw [c13b0] | (simp only [i64_w, i32_w]; rw [c13b0]) | skip)
                  have H' := Aside0.mk H
                  clear H
                  go_wp2
                  go_meet
                  case rel => exact ⟨_, (false), eq_, H', ⟨by have := HJ4.out; have := HJ7.out; first | omega | exact Nat.le_refl _⟩, by repeat (first | exact Drawn0.refl _ | apply Drawn0.step)⟩
              case rest =>
                clear HC12
                try clear c1
                try clear p2
                try clear c4
                try clear c5
                try clear c6
                try clear c6b0
                try clear c6b1
                try clear p6
                try clear c7
                try clear c9
                try clear c9b0
                try clear c10
                try clear c10b0
                try clear c10b1
                try clear c11
                try clear c13
                try clear c13b0
                try clear c13b1
                try clear p2
                try clear p6
                obtain ⟨kq, x31_11, rfl, HA, HJ11, ⟨mc11, rfl⟩⟩ := hcut
                cases kq with
                | zero => exact absurd HA.out (by simp [round_between.j2])
                | succ kj11 =>
                  have H := HA.out
                  clear HA
                  simp only [round_between.j2] at H
                  by_cases c14 : x31_11 = true
                  · subst c14
                    have H1 : (some 2) = some r := by rw [if_pos rfl] at H; exact H
                    clear H
                    have H := H1
                    clear H1
                    obtain rfl := Option.some.inj H
                    go_wp2
                    go_ret
                    exact ⟨by first | rfl | (simp; done) | (simp [*]; done) | (simp; first | exact given_isEmpty _ | exact (given_isEmpty _).symm) | (unfold wrap64; omega) | (congr 1; unfold wrap64; omega), by repeat (first | exact Drawn0.refl _ | apply Drawn0.step)⟩
                  · replace c14 := Bool.eq_false_iff.mpr c14
                    subst c14
                    have H1 : (if (wrap64 (a2 - (wrap64 (2 * a0)))) = 0 then (if t188 = 0 then (some 2) else (some 3)) else (some 3)) = some r := by rw [if_neg (show ¬ (false = true) by decide)] at H; exact H
                    clear H
                    have H := H1
                    clear H1
                    by_cases c15 : (wrap64 (a2 - (wrap64 (2 * a0)))) = 0
                    · rw [if_pos c15] at H
                      have c15b0 : ((wrap64 (a2 - (wrap64 (2 * a0)))) == 0) = true := beq_iff_eq.mpr c15
                      have c15b1 : ((wrap64 (a2 - (wrap64 (2 * a0)))) != 0) = false := bne_eq_false_iff_eq.mpr c15
                      clear c15
                      by_cases c16 : t188 = 0
                      · rw [if_pos c16] at H
                        have c16b0 : (t188 == 0) = true := beq_iff_eq.mpr c16
                        have c16b1 : (t188 != 0) = false := bne_eq_false_iff_eq.mpr c16
                        clear c16
                        obtain rfl := Option.some.inj H
                        go_wp2
                        go_ret
                        exact ⟨by first | rfl | (simp; done) | (simp [*]; done) | (simp; first | exact given_isEmpty _ | exact (given_isEmpty _).symm) | (unfold wrap64; omega) | (congr 1; unfold wrap64; omega), by repeat (first | exact Drawn0.refl _ | apply Drawn0.step)⟩
                      · rw [if_neg c16] at H
                        have c16b0 : (t188 == 0) = false := beq_eq_false_iff_ne.mpr c16
                        have c16b1 : (t188 != 0) = true := bne_iff_ne.mpr c16
                        obtain rfl := Option.some.inj H
                        go_wp2
                        go_ret
                        exact ⟨by first | rfl | (simp; done) | (simp [*]; done) | (simp; first | exact given_isEmpty _ | exact (given_isEmpty _).symm) | (unfold wrap64; omega) | (congr 1; unfold wrap64; omega), by repeat (first | exact Drawn0.refl _ | apply Drawn0.step)⟩
                    · rw [if_neg c15] at H
                      have c15b0 : ((wrap64 (a2 - (wrap64 (2 * a0)))) == 0) = false := beq_eq_false_iff_ne.mpr c15
                      have c15b1 : ((wrap64 (a2 - (wrap64 (2 * a0)))) != 0) = true := bne_iff_ne.mpr c15
                      obtain rfl := Option.some.inj H
                      go_wp2
                      go_ret
                      exact ⟨by first | rfl | (simp; done) | (simp [*]; done) | (simp; first | exact given_isEmpty _ | exact (given_isEmpty _).symm) | (unfold wrap64; omega) | (congr 1; unfold wrap64; omega), by repeat (first | exact Drawn0.refl _ | apply Drawn0.step)⟩

/-! ### num_Times: function 52 -/
mutual
def num_Times.j0 : Nat → ByteArray → Int → Bool → Option (ByteArray)
  | 0, _, _, _ => none
  | k + 1, x0, x1, x19 => if x19 = true then (some (⟨#[]⟩ : ByteArray)) else (num_Times.l0 k x0 x1 ([] : List Int) 0 0)
def num_Times.l0 : Nat → ByteArray → Int → List Int → Int → Int → Option (ByteArray)
  | 0, _, _, _, _, _ => none
  | k + 1, x0, x1, x5, x6, x7 => if x7 < (x0.size : Int) then ((num_at.f x0 x7).bind fun t190 => (if x5.length < 140737488355328 then (num_Times.l0 k x0 x1 (x5 ++ [(48 + (Int.tmod (wrap64 ((wrap64 (t190 * x1)) + x6)) 10)) % 256]) (wrap64 (Int.tdiv (wrap64 ((wrap64 (t190 * x1)) + x6)) 10)) (wrap64 (x7 + 1))) else (none))) else (if x6 > 0 then ((num_at.f x0 x7).bind fun t194 => (if x5.length < 140737488355328 then (num_Times.l0 k x0 x1 (x5 ++ [(48 + (Int.tmod (wrap64 ((wrap64 (t194 * x1)) + x6)) 10)) % 256]) (wrap64 (Int.tdiv (wrap64 ((wrap64 (t194 * x1)) + x6)) 10)) (wrap64 (x7 + 1))) else (none))) else ((num_text.f k x5).bind fun t198 => (some t198)))
end
def num_Times.f (k : Nat) (a0 : ByteArray) (a1 : Int) : Option (ByteArray) := (num_Is.f k a0).bind fun t189 => (if t189 = true then (if a1 < 0 then (num_Times.j0 k a0 a1 true) else (num_Times.j0 k a0 a1 (decide (a1 > 1000000000)))) else (num_Times.j0 k a0 a1 true))
theorem num_Times.mono_l : ∀ k, (∀ y0 y1 y2, LeO (num_Times.j0 k y0 y1 y2) (num_Times.j0 (k + 1) y0 y1 y2)) ∧ (∀ y0 y1 y2 y3 y4, LeO (num_Times.l0 k y0 y1 y2 y3 y4) (num_Times.l0 (k + 1) y0 y1 y2 y3 y4))
  | 0 => ⟨fun _ _ _ r h => by simp [num_Times.j0] at h, fun _ _ _ _ _ r h => by simp [num_Times.l0] at h⟩
  | k + 1 => by
    obtain ⟨ih0, ih1⟩ := num_Times.mono_l k
    refine ⟨?_, ?_⟩
    · intro y0 y1 y2
      unfold num_Times.j0
      repeat' first
      | (with_reducible exact ih0 _ _ _)
      | (with_reducible exact ih1 _ _ _ _ _)
      | (with_reducible exact num_Is.mono _ _)
      | (with_reducible exact num_text.mono _ _)
      | (with_reducible exact LeO.refl _)
      | (with_reducible exact LeO.none _)
      | (with_reducible refine LeO.ite ?_ ?_)
      | (with_reducible refine LeO.bind ?_ (fun _ => ?_))
      | exact ih0 _ _ _
      | exact ih1 _ _ _ _ _
      | exact num_Is.mono _ _
      | exact num_text.mono _ _
      | exact LeO.none _
      | refine LeO.ite ?_ ?_
      | refine LeO.bind ?_ (fun _ => ?_)
    · intro y0 y1 y2 y3 y4
      unfold num_Times.l0
      repeat' first
      | (with_reducible exact ih0 _ _ _)
      | (with_reducible exact ih1 _ _ _ _ _)
      | (with_reducible exact num_Is.mono _ _)
      | (with_reducible exact num_text.mono _ _)
      | (with_reducible exact LeO.refl _)
      | (with_reducible exact LeO.none _)
      | (with_reducible refine LeO.ite ?_ ?_)
      | (with_reducible refine LeO.bind ?_ (fun _ => ?_))
      | exact ih0 _ _ _
      | exact ih1 _ _ _ _ _
      | exact num_Is.mono _ _
      | exact num_text.mono _ _
      | exact LeO.none _
      | refine LeO.ite ?_ ?_
      | refine LeO.bind ?_ (fun _ => ?_)
theorem num_Times.mono : ∀ a0 a1 k, LeO (num_Times.f k a0 a1) (num_Times.f (k + 1) a0 a1) := by
  intro a0 a1 k
  obtain ⟨ih0, ih1⟩ := num_Times.mono_l k
  unfold num_Times.f
  repeat' first
      | (with_reducible exact ih0 _ _ _)
      | (with_reducible exact ih1 _ _ _ _ _)
      | (with_reducible exact num_Is.mono _ _)
      | (with_reducible exact num_text.mono _ _)
      | (with_reducible exact LeO.refl _)
      | (with_reducible exact LeO.none _)
      | (with_reducible refine LeO.ite ?_ ?_)
      | (with_reducible refine LeO.bind ?_ (fun _ => ?_))
      | exact ih0 _ _ _
      | exact ih1 _ _ _ _ _
      | exact num_Is.mono _ _
      | exact num_text.mono _ _
      | exact LeO.none _
      | refine LeO.ite ?_ ?_
      | refine LeO.bind ?_ (fun _ => ?_)
set_option maxHeartbeats 8000000 in
set_option maxRecDepth 100000 in
theorem num_Times.calls (k : Nat) (a0 : ByteArray) (a1 : Int) (r : ByteArray) (w : World) (h : num_Times.f k a0 a1 = some r) :
    Calls Tryz.prog 52 #[.string a0, .int .i64 a1] w fun e w' => e = .returned (.string r) ∧ Below w.heap.size w w' := by
  have HB := Aside0.mk (Below.refl w.heap.size w)
  have H : ((num_Is.f k a0).bind fun t189 => (if t189 = true then (if a1 < 0 then (num_Times.j0 k a0 a1 true) else (num_Times.j0 k a0 a1 (decide (a1 > 1000000000)))) else (num_Times.j0 k a0 a1 true))) = some r := h
  clear h
  have HC3 := Aside0.mk H
  clear H
  go_enter Tryz.func52, Tryz.ntmps52
  go_upto_region 1 with (fail)
  go_cut [19] (fun v19 wc => ∃ (kq : Nat) (x19_2 : Bool), v19 = .bool x19_2 ∧ Aside0 (num_Times.j0 kq a0 a1 x19_2 = some r) ∧ Aside0 (kq ≤ k) ∧ Aside0 (Below w.heap.size w wc))
  case first =>
    have H := HC3.out
    clear HC3
    replace H := Option.bind_eq_some_iff.mp H
    obtain ⟨t189, A40, H⟩ := H
    replace H : (if t189 = true then (if a1 < 0 then (num_Times.j0 k a0 a1 true) else (num_Times.j0 k a0 a1 (decide (a1 > 1000000000)))) else (num_Times.j0 k a0 a1 true)) = some r := H
    have A4 := Aside0.mk A40
    clear A40
    by_cases c5 : t189 = true
    · subst c5
      have H1 : (if a1 < 0 then (num_Times.j0 k a0 a1 true) else (num_Times.j0 k a0 a1 (decide (a1 > 1000000000)))) = some r := by rw [if_pos rfl] at H; exact H
      clear H
      have H := H1
      clear H1
      by_cases c6 : a1 < 0
      · rw [if_pos c6] at H
        have c6b0 : decide (a1 < 0) = true := decide_eq_true c6
        clear c6
        (first | rw [c6b0] | (simp only [i64_w, i32_w]; rw [c6b0]) | skip)
        have H' := Aside0.mk H
        clear H
        go_wp2_with (first | ((with_reducible refine gate_callee (f := 53) rfl ?_); refine gl_ (some 10) Tryz.func53 #[.string a0] ?_; (with_reducible refine (num_Is.calls k a0 true _ A4.out).mono ?_); rintro e w' ⟨rfl, ⟨nd, rfl⟩⟩; refine ⟨_, rfl, ?_⟩))
        go_meet
        case rel => exact ⟨_, (true), eq_, H', ⟨by first | omega | exact Nat.le_refl _⟩, (bl_ HB)⟩
      · rw [if_neg c6] at H
        have c6b0 : decide (a1 < 0) = false := decide_eq_false c6
        clear c6
        (first | rw [c6b0] | (simp only [i64_w, i32_w]; rw [c6b0]) | skip)
        have H' := Aside0.mk H
        clear H
        go_wp2_with (first | ((with_reducible refine gate_callee (f := 53) rfl ?_); refine gl_ (some 10) Tryz.func53 #[.string a0] ?_; (with_reducible refine (num_Is.calls k a0 true _ A4.out).mono ?_); rintro e w' ⟨rfl, ⟨nd, rfl⟩⟩; refine ⟨_, rfl, ?_⟩))
        go_meet
        case rel => exact ⟨_, (decide (a1 > 1000000000)), eq_, H', ⟨by first | omega | exact Nat.le_refl _⟩, (bl_ HB)⟩
    · replace c5 := Bool.eq_false_iff.mpr c5
      subst c5
      have H1 : (num_Times.j0 k a0 a1 true) = some r := by rw [if_neg (show ¬ (false = true) by decide)] at H; exact H
      clear H
      have H := H1
      clear H1
      have H' := Aside0.mk H
      clear H
      go_wp2_with (first | ((with_reducible refine gate_callee (f := 53) rfl ?_); refine gl_ (some 10) Tryz.func53 #[.string a0] ?_; (with_reducible refine (num_Is.calls k a0 false _ A4.out).mono ?_); rintro e w' ⟨rfl, ⟨nd, rfl⟩⟩; refine ⟨_, rfl, ?_⟩))
      go_meet
      case rel => exact ⟨_, (true), eq_, H', ⟨by first | omega | exact Nat.le_refl _⟩, (bl_ HB)⟩
  case rest =>
    clear HC3
    try clear p2
    try clear c5
    try clear c6
    try clear c6b0
    try clear p6
    obtain ⟨kq, x19_2, rfl, HA, HJ2, HB⟩ := hcut
    cases kq with
    | zero => exact absurd HA.out (by simp [num_Times.j0])
    | succ kj2 =>
      have H := HA.out
      clear HA
      simp only [num_Times.j0] at H
      by_cases c7 : x19_2 = true
      · subst c7
        have H1 : (some (⟨#[]⟩ : ByteArray)) = some r := by rw [if_pos rfl] at H; exact H
        clear H
        have H := H1
        clear H1
        obtain rfl := Option.some.inj H
        go_wp2
        go_ret
        exact ⟨ew_, (bl_ HB).out⟩
      · replace c7 := Bool.eq_false_iff.mpr c7
        subst c7
        have H1 : (num_Times.l0 kj2 a0 a1 ([] : List Int) 0 0) = some r := by rw [if_neg (show ¬ (false = true) by decide)] at H; exact H
        clear H
        have H := H1
        clear H1
        have H' := Aside0.mk H
        clear H
        go_wp2
        go_loopg [5, 6, 7] kj2 (fun kq v5 v6 v7 w' => ∃ (x5_2 : List Int) (x6_2 : Int) (x7_2 : Int), v6 = .int .i64 x6_2 ∧ v7 = .int .i64 x7_2 ∧ Aside0 (num_Times.l0 kq a0 a1 x5_2 x6_2 x7_2 = some r) ∧ Aside0 (kq ≤ kj2) ∧ Aside0 (Kd.R (Kd.int .u8) 5 w' w.heap.size (fun _ => True) v5 x5_2) ∧ Aside0 (Below w.heap.size w w'))
        case atStart => exact ⟨(([] : List Int)), (0), (0), eq_, eq_, H', ⟨Nat.le_refl _⟩, ⟨by first | exact Kd.R_nil _ _ _ _ _ | exact Kd.N_nil _ _ _ _ _ | exact Kd.V_nil _ _ _ _ _ | exact Kd.Q_nil _ _ _ _ _ | exact Kd.S_nil _ _ _ _ _⟩, (bl_ HB)⟩
        case round =>
          clear H'
          try clear p2
          try clear c5
          try clear c6
          try clear c6b0
          try clear p6
          try clear c7
          try clear p2
          try clear p6
          obtain ⟨x5_2, x6_2, x7_2, rfl, rfl, HA, HK2, HO_5, HB⟩ := hrel
          cases gk with
          | zero => exact absurd HA.out (by simp [num_Times.l0])
          | succ k2 =>
            have H := HA.out
            clear HA
            simp only [num_Times.l0] at H
            by_cases c8 : x7_2 < (a0.size : Int)
            · rw [if_pos c8] at H
              have c8b0 : decide (x7_2 < (a0.size : Int)) = true := decide_eq_true c8
              clear c8
              replace H := Option.bind_eq_some_iff.mp H
              obtain ⟨t190, A90, H⟩ := H
              replace H : (if x5_2.length < 140737488355328 then (num_Times.l0 k2 a0 a1 (x5_2 ++ [(48 + (Int.tmod (wrap64 ((wrap64 (t190 * a1)) + x6_2)) 10)) % 256]) (wrap64 (Int.tdiv (wrap64 ((wrap64 (t190 * a1)) + x6_2)) 10)) (wrap64 (x7_2 + 1))) else (none)) = some r := H
              have A9 := Aside0.mk A90
              clear A90
              by_cases c10 : x5_2.length < 140737488355328
              · rw [if_pos c10] at H
                have LMc10 := Aside0.mk c10
                clear c10
                obtain ⟨y191, hy191⟩ : ∃ y_ : List Int, y_ = (x5_2 ++ [(48 + (Int.tmod (wrap64 ((wrap64 (t190 * a1)) + x6_2)) 10)) % 256]) := ⟨_, rfl⟩
                replace H : (num_Times.l0 k2 a0 a1 y191 (wrap64 (Int.tdiv (wrap64 ((wrap64 (t190 * a1)) + x6_2)) 10)) (wrap64 (x7_2 + 1))) = some r := by first | (rw [hy191]; with_reducible exact H) | (have H2_ := (Option.bind_some _ _).symm.trans H; rw [hy191]; with_reducible exact H2_) | (have H2_ := (Option.bind_some _ _).symm.trans H; with_reducible exact H2_) | with_reducible exact H | (rw [hy191]; exact H) | exact H
                have Ny191 := Aside0.mk hy191
                clear hy191
                have H' := Aside0.mk H
                clear H
                go_wp2_with (first | ((with_reducible refine gate_callee (f := 69) rfl ?_); refine gl_ (some 32) Tryz.func69 #[.string a0, .int .i64 x7_2] ?_; (with_reducible refine (num_at.calls a0 x7_2 t190 _ A9.out).mono ?_); rintro e w' ⟨rfl, ⟨nd, rfl⟩⟩; refine ⟨_, rfl, ?_⟩) | ((with_reducible refine gate_builtin (b := .append) (xs := #[.tmp 37, .tmp 42]) rfl ?_); at_builtin; refine Kd.R_append (Kd.int .u8) (w0 := w) w.heap.size rfl (.tmp 37) (.tmp 42) 22 5 (.int .u8 0) 1 rfl Tryz.underlying22 info5 rfl (by decide) (by omega) u5 x5_2 ((48 + (Int.tmod (wrap64 ((wrap64 (t190 * a1)) + x6_2)) 10)) % 256) [.int .u8 ((48 + (Int.tmod (wrap64 ((wrap64 (t190 * a1)) + x6_2)) 10)) % 256)] (fun _ => True) (fun _ => False) rfl rfl ?aP (fun _ hk => hk.elim) ?aF ?aO ?aB ?aS ?aL ?_; (case aP => exact rfl); (case aB => exact (bl_ HB).out); (case aF => exact (fun _ _ => trivial)); (case aO => exact (by (with_reducible repeat (first | apply Kd.R_alloc | apply Kd.R_drewN | apply Kd.R_drew)); exact HO_5.out)); (case aS => exact (below_size (bl_ HB).out)); (case aL => have := LMc10.out; omega); intro v192 w11 ho hb hg hat; rw [← Ny191.out] at ho; have n0_ := Aside0.mk (hb); have n1_ := Aside0.mk (ho); clear HB; clear HO_5; have HB := n0_; have HO193 := n1_; clear n0_ n1_; clear ho hb hg hat))
                go_roundg k2
                case measure => have := HJ2.out; have := HK2.out; omega
                case rel => exact ⟨(y191), (wrap64 (Int.tdiv (wrap64 ((wrap64 (t190 * a1)) + x6_2)) 10)), (wrap64 (x7_2 + 1)), eq_, eq_, H', ⟨by have := HJ2.out; have := HK2.out; omega⟩, ⟨by (with_reducible repeat (first | apply Kd.R_alloc | apply Kd.R_drewN | apply Kd.R_drew)); exact HO193.out⟩, (bl_ HB)⟩
              · rw [if_neg c10] at H
                exact absurd H (by simp)
            · rw [if_neg c8] at H
              have c8b0 : decide (x7_2 < (a0.size : Int)) = false := decide_eq_false c8
              clear c8
              by_cases c12 : x6_2 > 0
              · rw [if_pos c12] at H
                have c12b0 : decide (0 < x6_2) = true := decide_eq_true c12
                clear c12
                replace H := Option.bind_eq_some_iff.mp H
                obtain ⟨t194, A130, H⟩ := H
                replace H : (if x5_2.length < 140737488355328 then (num_Times.l0 k2 a0 a1 (x5_2 ++ [(48 + (Int.tmod (wrap64 ((wrap64 (t194 * a1)) + x6_2)) 10)) % 256]) (wrap64 (Int.tdiv (wrap64 ((wrap64 (t194 * a1)) + x6_2)) 10)) (wrap64 (x7_2 + 1))) else (none)) = some r := H
                have A13 := Aside0.mk A130
                clear A130
                by_cases c14 : x5_2.length < 140737488355328
                · rw [if_pos c14] at H
                  have LMc14 := Aside0.mk c14
                  clear c14
                  obtain ⟨y195, hy195⟩ : ∃ y_ : List Int, y_ = (x5_2 ++ [(48 + (Int.tmod (wrap64 ((wrap64 (t194 * a1)) + x6_2)) 10)) % 256]) := ⟨_, rfl⟩
                  replace H : (num_Times.l0 k2 a0 a1 y195 (wrap64 (Int.tdiv (wrap64 ((wrap64 (t194 * a1)) + x6_2)) 10)) (wrap64 (x7_2 + 1))) = some r := by first | (rw [hy195]; with_reducible exact H) | (have H2_ := (Option.bind_some _ _).symm.trans H; rw [hy195]; with_reducible exact H2_) | (have H2_ := (Option.bind_some _ _).symm.trans H; with_reducible exact H2_) | with_reducible exact H | (rw [hy195]; exact H) | exact H
                  have Ny195 := Aside0.mk hy195
                  clear hy195
                  have H' := Aside0.mk H
                  clear H
                  go_wp2_with (first | ((with_reducible refine gate_callee (f := 69) rfl ?_); refine gl_ (some 32) Tryz.func69 #[.string a0, .int .i64 x7_2] ?_; (with_reducible refine (num_at.calls a0 x7_2 t194 _ A13.out).mono ?_); rintro e w' ⟨rfl, ⟨nd, rfl⟩⟩; refine ⟨_, rfl, ?_⟩) | ((with_reducible refine gate_builtin (b := .append) (xs := #[.tmp 37, .tmp 42]) rfl ?_); at_builtin; refine Kd.R_append (Kd.int .u8) (w0 := w) w.heap.size rfl (.tmp 37) (.tmp 42) 22 5 (.int .u8 0) 1 rfl Tryz.underlying22 info5 rfl (by decide) (by omega) u5 x5_2 ((48 + (Int.tmod (wrap64 ((wrap64 (t194 * a1)) + x6_2)) 10)) % 256) [.int .u8 ((48 + (Int.tmod (wrap64 ((wrap64 (t194 * a1)) + x6_2)) 10)) % 256)] (fun _ => True) (fun _ => False) rfl rfl ?aP (fun _ hk => hk.elim) ?aF ?aO ?aB ?aS ?aL ?_; (case aP => exact rfl); (case aB => exact (bl_ HB).out); (case aF => exact (fun _ _ => trivial)); (case aO => exact (by (with_reducible repeat (first | apply Kd.R_alloc | apply Kd.R_drewN | apply Kd.R_drew)); exact HO_5.out)); (case aS => exact (below_size (bl_ HB).out)); (case aL => have := LMc14.out; omega); intro v196 w15 ho hb hg hat; rw [← Ny195.out] at ho; have n0_ := Aside0.mk (hb); have n1_ := Aside0.mk (ho); clear HB; clear HO_5; have HB := n0_; have HO197 := n1_; clear n0_ n1_; clear ho hb hg hat))
                  go_roundg k2
                  case measure => have := HJ2.out; have := HK2.out; omega
                  case rel => exact ⟨(y195), (wrap64 (Int.tdiv (wrap64 ((wrap64 (t194 * a1)) + x6_2)) 10)), (wrap64 (x7_2 + 1)), eq_, eq_, H', ⟨by have := HJ2.out; have := HK2.out; omega⟩, ⟨by (with_reducible repeat (first | apply Kd.R_alloc | apply Kd.R_drewN | apply Kd.R_drew)); exact HO197.out⟩, (bl_ HB)⟩
                · rw [if_neg c14] at H
                  exact absurd H (by simp)
              · rw [if_neg c12] at H
                have c12b0 : decide (0 < x6_2) = false := decide_eq_false c12
                clear c12
                replace H := Option.bind_eq_some_iff.mp H
                obtain ⟨t198, A160, H⟩ := H
                replace H : (some t198) = some r := H
                have A16 := Aside0.mk A160
                clear A160
                obtain rfl := Option.some.inj H
                obtain ⟨Ao17, co17, eo17⟩ := Kd.R_slice HO_5.out
                subst eo17
                go_wp2_with (first | ((with_reducible refine gate_callee (f := 43) rfl ?_); refine gl_ (some 47) Tryz.func43 #[.slice Ao17 x5_2.length co17] ?_; (with_reducible refine (num_text.calls k2 _ _ x5_2 t198 _ ?side1 ?side2 A16.out).mono ?_); (case side1 => repeat (first | exact (Kd.R_reads' HO_5.out).2.2 | (with_reducible refine Kd.C_alloc ?_ _) | (with_reducible refine Kd.C_drewN ?_ _) | (with_reducible refine Kd.C_drew ?_))); (case side2 => exact (Kd.R_reads' HO_5.out).2.1); rintro e w18 ⟨rfl, hb⟩; refine ⟨_, rfl, ?_⟩; have n0_ := Aside0.mk (Kd.R_below (by (with_reducible repeat (first | apply Kd.R_alloc | apply Kd.R_drewN | apply Kd.R_drew)); exact HO_5.out) hb); have n1_ := Aside0.mk (below_step (bl_ HB).out hb); clear HO_5; clear HB; have HO_5 := n0_; have HB := n1_; clear n0_ n1_; (try clear hb); (try clear hb2); (try clear hk); (try clear hi)))
                go_ret
                exact ⟨ew_, (bl_ HB).out⟩

end Go.Proofs.YthkpmiajcmihjaaGreatDoor.P
