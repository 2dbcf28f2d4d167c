-- written by a program of this session (wip/p2)
import Derived.Test.YthkpmiajcmihjaaGreatDoorPx0
import Derived.Test.YthkpmiajcmihjaaGreatDoorPx11
import Derived.Test.YthkpmiajcmihjaaGreatDoorPx12
namespace Go.Proofs.YthkpmiajcmihjaaGreatDoor.P
open Go.RowKit Go.Proofs.YthkpmiajcmihjaaGreatDoorW.PrintWords Go.Proofs.YthkpmiajcmihjaaGreatDoorW.PrintLast Go.Proofs.YthkpmiajcmihjaaGreatDoorW.PrintMore
attribute [local go_sem] max2_int min2_int max_two min_two max_three min_three max_four min_four   -- for this text's walks alone
set_option linter.unusedVariables false
set_option linter.unusedSimpArgs false

/-! ### florinlaw03_even: function 36 -/
def florinlaw03_even.l0 : Nat → Int → Bool → ByteArray → Int → Bool → ByteArray → Int → Bool → ByteArray → Int → Option (Bool)
  | 0, _, _, _, _, _, _, _, _, _, _ => none
  | k + 1, x6, x404000, x404001, x404002, x405000, x405001, x405002, x406000, x406001, x406002 => if x6 < 4 then ((dec_Add.f k x406000 x406001 x406002 x404000 x404001 x404002).bind fun bt406 => (florinlaw03_even.l0 k (wrap64 (x6 + 1)) x404000 x404001 x404002 x405000 x405001 x405002 bt406.1 bt406.2.1 bt406.2.2)) else ((dec_Dec_Scale.f k x406000 x406001 x406002 (-1)).bind fun bt409 => ((florinlaw03_multiple.f k bt409.1 bt409.2.1 bt409.2.2 x405000 x405001 x405002).bind fun t412 => (some t412)))
def florinlaw03_even.f (k : Nat) (a0_0 : Bool) (a0_1 : ByteArray) (a0_2 : Int) (a1_0 : Bool) (a1_1 : ByteArray) (a1_2 : Int) : Option (Bool) := florinlaw03_even.l0 k 0 a0_0 a0_1 a0_2 a1_0 a1_1 a1_2 a0_0 a0_1 a0_2
theorem florinlaw03_even.mono_l : ∀ k, (∀ y0 y1 y2 y3 y4 y5 y6 y7 y8 y9, LeO (florinlaw03_even.l0 k y0 y1 y2 y3 y4 y5 y6 y7 y8 y9) (florinlaw03_even.l0 (k + 1) y0 y1 y2 y3 y4 y5 y6 y7 y8 y9))
  | 0 => fun _ _ _ _ _ _ _ _ _ _ r h => by simp [florinlaw03_even.l0] at h
  | k + 1 => by
    have ih0 := florinlaw03_even.mono_l k
    · intro y0 y1 y2 y3 y4 y5 y6 y7 y8 y9
      unfold florinlaw03_even.l0
      repeat' first
      | (with_reducible exact ih0 _ _ _ _ _ _ _ _ _ _)
      | (with_reducible exact dec_Add.mono _ _ _ _ _ _ _)
      | (with_reducible exact dec_Dec_Scale.mono _ _ _ _ _)
      | (with_reducible exact florinlaw03_multiple.mono _ _ _ _ _ _ _)
      | (with_reducible exact LeO.refl _)
      | (with_reducible exact LeO.none _)
      | (with_reducible refine LeO.ite ?_ ?_)
      | (with_reducible refine LeO.bind ?_ (fun _ => ?_))
      | exact ih0 _ _ _ _ _ _ _ _ _ _
      | exact dec_Add.mono _ _ _ _ _ _ _
      | exact dec_Dec_Scale.mono _ _ _ _ _
      | exact florinlaw03_multiple.mono _ _ _ _ _ _ _
      | exact LeO.none _
      | refine LeO.ite ?_ ?_
      | refine LeO.bind ?_ (fun _ => ?_)
theorem florinlaw03_even.mono : ∀ a0 a1 a2 a3 a4 a5 k, LeO (florinlaw03_even.f k a0 a1 a2 a3 a4 a5) (florinlaw03_even.f (k + 1) a0 a1 a2 a3 a4 a5) := by
  intro a0 a1 a2 a3 a4 a5 k
  have ih0 := florinlaw03_even.mono_l k
  unfold florinlaw03_even.f
  repeat' first
      | (with_reducible exact ih0 _ _ _ _ _ _ _ _ _ _)
      | (with_reducible exact dec_Add.mono _ _ _ _ _ _ _)
      | (with_reducible exact dec_Dec_Scale.mono _ _ _ _ _)
      | (with_reducible exact florinlaw03_multiple.mono _ _ _ _ _ _ _)
      | (with_reducible exact LeO.refl _)
      | (with_reducible exact LeO.none _)
      | (with_reducible refine LeO.ite ?_ ?_)
      | (with_reducible refine LeO.bind ?_ (fun _ => ?_))
      | exact ih0 _ _ _ _ _ _ _ _ _ _
      | exact dec_Add.mono _ _ _ _ _ _ _
      | exact dec_Dec_Scale.mono _ _ _ _ _
      | exact florinlaw03_multiple.mono _ _ _ _ _ _ _
      | exact LeO.none _
      | refine LeO.ite ?_ ?_
      | refine LeO.bind ?_ (fun _ => ?_)
set_option maxHeartbeats 8000000 in
set_option maxRecDepth 100000 in
theorem florinlaw03_even.calls (k : Nat) (a0_0 : Bool) (a0_1 : ByteArray) (a0_2 : Int) (a1_0 : Bool) (a1_1 : ByteArray) (a1_2 : Int) (r : Bool) (w : World) (h : florinlaw03_even.f k a0_0 a0_1 a0_2 a1_0 a1_1 a1_2 = some r) :
    Calls Tryz.prog 36 #[.agg #[.bool a0_0, .string a0_1, .int .i64 a0_2], .agg #[.bool a1_0, .string a1_1, .int .i64 a1_2]] w fun e w' => e = .returned (.bool r) ∧ Below w.heap.size w w' := by
  have hu31 := Tryz.underlying31
  have HB := Aside0.mk (Below.refl w.heap.size w)
  have H : (florinlaw03_even.l0 k 0 a0_0 a0_1 a0_2 a1_0 a1_1 a1_2 a0_0 a0_1 a0_2) = some r := h
  clear h
  have H' := Aside0.mk H
  clear H
  go_enter Tryz.func36, Tryz.ntmps36
  go_wp2_with (first | ((with_reducible refine gate_dst (N := 2) rfl ?_); refine be_ 2 #[.bool a0_0, .string a0_1, .int .i64 a0_2] 31 ?_; intro gb403 hg w3 hbox hb; have BK403 := Aside0.mk (hbox); have GW403 := sz_ HB hg; have GE403 := sz_ HB hg; replace HB := Aside0.mk (below_step (bl_ HB).out hb); clear hb hbox hg) | ((with_reducible refine gate_dst (N := 3) rfl ?_); refine be_ 3 #[.bool a1_0, .string a1_1, .int .i64 a1_2] 31 ?_; intro gb404 hg w4 hbox hb; have BK404 := Aside0.mk (hbox); have GW404 := sz_ HB hg; have GE404 := sz_ HB hg; have NB403_404 := na_ BK403 hg; have NB404_403 := nb_ BK403 hg; replace BK403 := bb_ BK403 hb; replace HB := Aside0.mk (below_step (bl_ HB).out hb); clear hb hbox hg; have hnb5 := NB403_404.out; have hnc5 := NB404_403.out; obtain ⟨hcz6_0, hcz6_1, hcz6_2, hfz6_0, hfz6_1, hfz6_2⟩ := bo3_ BK403) | ((with_reducible refine gate_dst (N := 5) rfl ?_); refine be_ 5 #[.bool false, .string (⟨#[]⟩ : ByteArray), .int .i64 0] 31 ?_; intro gb405 hg w7 hbox hb; have BK405 := Aside0.mk (hbox); have GW405 := sz_ HB hg; have GE405 := sz_ HB hg; have NB403_405 := na_ BK403 hg; have NB405_403 := nb_ BK403 hg; have NB404_405 := na_ BK404 hg; have NB405_404 := nb_ BK404 hg; replace BK403 := bb_ BK403 hb; replace BK404 := bb_ BK404 hb; replace HB := Aside0.mk (below_step (bl_ HB).out hb); clear hb hbox hg; have hnb8 := NB405_403.out; have hnc8 := NB403_405.out; have hnb9 := NB405_404.out; have hnc9 := NB404_405.out; obtain ⟨hcz10_0, hcz10_1, hcz10_2, hfz10_0, hfz10_1, hfz10_2⟩ := bo3_ BK405))
  go_loopg [6] k (fun kq v6 w' => ∃ (x6_1 : Int) (x406000_1 : Bool) (x406001_1 : ByteArray) (x406002_1 : Int), v6 = .int .i64 x6_1 ∧ Aside0 (florinlaw03_even.l0 kq x6_1 a0_0 a0_1 a0_2 a1_0 a1_1 a1_2 x406000_1 x406001_1 x406002_1 = some r) ∧ Aside0 (kq ≤ k) ∧ Aside0 (w'.heap[gb403]? = some (.cells #[.bool a0_0, .string a0_1, .int .i64 a0_2] 31 (0, 0))) ∧ Aside0 (w'.heap[gb404]? = some (.cells #[.bool a1_0, .string a1_1, .int .i64 a1_2] 31 (0, 0))) ∧ Aside0 (w'.heap[gb405]? = some (.cells #[.bool x406000_1, .string x406001_1, .int .i64 x406002_1] 31 (0, 0))) ∧ Aside0 (Below w.heap.size w w'))
  case atStart => exact ⟨(0), (a0_0), (a0_1), (a0_2), eq_, H', ⟨Nat.le_refl _⟩, ⟨by (with_reducible repeat (first | refine blk_drewN ?_ _ | refine blk_drew ?_ | refine blk_alloc ?_ _)); refine blk_far ?_ NB403_405.out _; (with_reducible repeat (first | refine blk_drewN ?_ _ | refine blk_drew ?_ | refine blk_alloc ?_ _)); refine blk_far ?_ NB403_405.out _; (with_reducible repeat (first | refine blk_drewN ?_ _ | refine blk_drew ?_ | refine blk_alloc ?_ _)); refine blk_far ?_ NB403_405.out _; (with_reducible repeat (first | refine blk_drewN ?_ _ | refine blk_drew ?_ | refine blk_alloc ?_ _)); exact BK403.out⟩, ⟨by (with_reducible repeat (first | refine blk_drewN ?_ _ | refine blk_drew ?_ | refine blk_alloc ?_ _)); refine blk_far ?_ NB404_405.out _; (with_reducible repeat (first | refine blk_drewN ?_ _ | refine blk_drew ?_ | refine blk_alloc ?_ _)); refine blk_far ?_ NB404_405.out _; (with_reducible repeat (first | refine blk_drewN ?_ _ | refine blk_drew ?_ | refine blk_alloc ?_ _)); refine blk_far ?_ NB404_405.out _; (with_reducible repeat (first | refine blk_drewN ?_ _ | refine blk_drew ?_ | refine blk_alloc ?_ _)); exact BK404.out⟩, ⟨by (with_reducible repeat (first | refine blk_drewN ?_ _ | refine blk_drew ?_ | refine blk_alloc ?_ _)); refine blk_put (cs := #[.bool a0_0, .string a0_1, .int .i64 0]) ?_ 2 _ rfl; (with_reducible repeat (first | refine blk_drewN ?_ _ | refine blk_drew ?_ | refine blk_alloc ?_ _)); refine blk_put (cs := #[.bool a0_0, .string (⟨#[]⟩ : ByteArray), .int .i64 0]) ?_ 1 _ rfl; (with_reducible repeat (first | refine blk_drewN ?_ _ | refine blk_drew ?_ | refine blk_alloc ?_ _)); refine blk_put (cs := #[.bool false, .string (⟨#[]⟩ : ByteArray), .int .i64 0]) ?_ 0 _ rfl; (with_reducible repeat (first | refine blk_drewN ?_ _ | refine blk_drew ?_ | refine blk_alloc ?_ _)); exact BK405.out⟩, (bl_ HB)⟩
  case round =>
    clear H'
    try clear p2
    try clear c3
    try clear c5
    try clear p6
    try clear c8
    try clear c9
    try clear hcz10_0
    try clear hcz10_1
    try clear hcz10_2
    try clear hcz6_0
    try clear hcz6_1
    try clear hcz6_2
    try clear hfz10_0
    try clear hfz10_1
    try clear hfz10_2
    try clear hfz6_0
    try clear hfz6_1
    try clear hfz6_2
    obtain ⟨x6_1, x406000_1, x406001_1, x406002_1, rfl, HA, HK1, BK403, BK404, BK405, HB⟩ := hrel
    cases gk with
    | zero => exact absurd HA.out (by simp [florinlaw03_even.l0])
    | succ k1 =>
      have H := HA.out
      clear HA
      simp only [florinlaw03_even.l0] at H
      by_cases c11 : x6_1 < 4
      · rw [if_pos c11] at H
        have c11b0 : decide (x6_1 < 4) = true := decide_eq_true c11
        clear c11
        replace H := Option.bind_eq_some_iff.mp H
        obtain ⟨⟨t406, t407, t408⟩, A120, H⟩ := H
        replace H : (florinlaw03_even.l0 k1 (wrap64 (x6_1 + 1)) a0_0 a0_1 a0_2 a1_0 a1_1 a1_2 t406 t407 t408) = some r := H
        have A12 := Aside0.mk A120
        clear A120
        have H' := Aside0.mk H
        clear H
        have hnb13 := NB405_403.out
        have hnc13 := NB403_405.out
        have hnb14 := NB405_404.out
        have hnc14 := NB404_405.out
        obtain ⟨hcz15_0, hcz15_1, hcz15_2, hfz15_0, hfz15_1, hfz15_2⟩ := bo3_ BK405
        have hnb16 := NB403_404.out
        have hnc16 := NB404_403.out
        obtain ⟨hcz17_0, hcz17_1, hcz17_2, hfz17_0, hfz17_1, hfz17_2⟩ := bo3_ BK403
        go_wp2_with (first | ((with_reducible refine gate_callee (f := 56) rfl ?_); refine gl_ (some 14) Tryz.func56 #[.agg #[.bool x406000_1, .string x406001_1, .int .i64 x406002_1], .agg #[.bool a0_0, .string a0_1, .int .i64 a0_2]] ?_; (with_reducible refine (dec_Add.calls k1 x406000_1 x406001_1 x406002_1 a0_0 a0_1 a0_2 t406 t407 t408 _ A12.out).mono ?_); rintro e w18 ⟨rfl, hb⟩; refine ⟨_, rfl, ?_⟩; replace BK403 := bb_ BK403 hb; replace BK404 := bb_ BK404 hb; replace BK405 := bb_ BK405 hb; replace HB := Aside0.mk (below_step (bl_ HB).out hb); (try clear hb); (try clear hb2); (try clear hk); (try clear hi); obtain ⟨hcz19_0, hcz19_1, hcz19_2, hfz19_0, hfz19_1, hfz19_2⟩ := bo3_ BK405))
        go_roundg k1
        case measure => have := HK1.out; omega
        case rel => exact ⟨(wrap64 (x6_1 + 1)), (t406), (t407), (t408), eq_, H', ⟨by have := HK1.out; omega⟩, ⟨by (with_reducible repeat (first | refine blk_drewN ?_ _ | refine blk_drew ?_ | refine blk_alloc ?_ _)); refine blk_far ?_ NB403_405.out _; (with_reducible repeat (first | refine blk_drewN ?_ _ | refine blk_drew ?_ | refine blk_alloc ?_ _)); refine blk_far ?_ NB403_405.out _; (with_reducible repeat (first | refine blk_drewN ?_ _ | refine blk_drew ?_ | refine blk_alloc ?_ _)); refine blk_far ?_ NB403_405.out _; (with_reducible repeat (first | refine blk_drewN ?_ _ | refine blk_drew ?_ | refine blk_alloc ?_ _)); exact BK403.out⟩, ⟨by (with_reducible repeat (first | refine blk_drewN ?_ _ | refine blk_drew ?_ | refine blk_alloc ?_ _)); refine blk_far ?_ NB404_405.out _; (with_reducible repeat (first | refine blk_drewN ?_ _ | refine blk_drew ?_ | refine blk_alloc ?_ _)); refine blk_far ?_ NB404_405.out _; (with_reducible repeat (first | refine blk_drewN ?_ _ | refine blk_drew ?_ | refine blk_alloc ?_ _)); refine blk_far ?_ NB404_405.out _; (with_reducible repeat (first | refine blk_drewN ?_ _ | refine blk_drew ?_ | refine blk_alloc ?_ _)); exact BK404.out⟩, ⟨by (with_reducible repeat (first | refine blk_drewN ?_ _ | refine blk_drew ?_ | refine blk_alloc ?_ _)); refine blk_put (cs := #[.bool t406, .string t407, .int .i64 x406002_1]) ?_ 2 _ rfl; (with_reducible repeat (first | refine blk_drewN ?_ _ | refine blk_drew ?_ | refine blk_alloc ?_ _)); refine blk_put (cs := #[.bool t406, .string x406001_1, .int .i64 x406002_1]) ?_ 1 _ rfl; (with_reducible repeat (first | refine blk_drewN ?_ _ | refine blk_drew ?_ | refine blk_alloc ?_ _)); refine blk_put (cs := #[.bool x406000_1, .string x406001_1, .int .i64 x406002_1]) ?_ 0 _ rfl; (with_reducible repeat (first | refine blk_drewN ?_ _ | refine blk_drew ?_ | refine blk_alloc ?_ _)); exact BK405.out⟩, (bl_ HB)⟩
      · rw [if_neg c11] at H
        have c11b0 : decide (x6_1 < 4) = false := decide_eq_false c11
        clear c11
        replace H := Option.bind_eq_some_iff.mp H
        obtain ⟨⟨t409, t410, t411⟩, A200, H⟩ := H
        replace H : ((florinlaw03_multiple.f k1 t409 t410 t411 a1_0 a1_1 a1_2).bind fun t412 => (some t412)) = some r := H
        have A20 := Aside0.mk A200
        clear A200
        replace H := Option.bind_eq_some_iff.mp H
        obtain ⟨t412, A210, H⟩ := H
        replace H : (some t412) = some r := H
        have A21 := Aside0.mk A210
        clear A210
        obtain rfl := Option.some.inj H
        have hnb22 := NB405_403.out
        have hnc22 := NB403_405.out
        have hnb23 := NB405_404.out
        have hnc23 := NB404_405.out
        obtain ⟨hcz24_0, hcz24_1, hcz24_2, hfz24_0, hfz24_1, hfz24_2⟩ := bo3_ BK405
        go_wp2_with (first | ((with_reducible refine gate_callee (f := 58) rfl ?_); refine gl_ (some 16) Tryz.func58 #[.agg #[.bool x406000_1, .string x406001_1, .int .i64 x406002_1], .int .i64 (-1)] ?_; (with_reducible refine (dec_Dec_Scale.calls k1 x406000_1 x406001_1 x406002_1 (-1) t409 t410 t411 _ A20.out).mono ?_); rintro e w25 ⟨rfl, hb⟩; refine ⟨_, rfl, ?_⟩; replace BK403 := bb_ BK403 hb; replace BK404 := bb_ BK404 hb; replace BK405 := bb_ BK405 hb; replace HB := Aside0.mk (below_step (bl_ HB).out hb); (try clear hb); (try clear hb2); (try clear hk); (try clear hi); obtain ⟨hcz26_0, hcz26_1, hcz26_2, hfz26_0, hfz26_1, hfz26_2⟩ := bo3_ BK405; have hnb27 := NB404_403.out; have hnc27 := NB403_404.out; obtain ⟨hcz28_0, hcz28_1, hcz28_2, hfz28_0, hfz28_1, hfz28_2⟩ := bo3_ BK404) | ((with_reducible refine gate_callee (f := 31) rfl ?_); refine gl_ (some 19) Tryz.func31 #[.agg #[.bool t409, .string t410, .int .i64 t411], .agg #[.bool a1_0, .string a1_1, .int .i64 a1_2]] ?_; (with_reducible refine (florinlaw03_multiple.calls k1 t409 t410 t411 a1_0 a1_1 a1_2 t412 _ A21.out).mono ?_); rintro e w29 ⟨rfl, hb⟩; refine ⟨_, rfl, ?_⟩; have n0_ := Aside0.mk (blk_below (g := gb403) (o := .cells #[.bool a0_0, .string a0_1, .int .i64 a0_2] 31 (0, 0)) (by (with_reducible repeat (first | refine blk_drewN ?_ _ | refine blk_drew ?_ | refine blk_alloc ?_ _)); refine blk_far ?_ NB403_405.out _; (with_reducible repeat (first | refine blk_drewN ?_ _ | refine blk_drew ?_ | refine blk_alloc ?_ _)); refine blk_far ?_ NB403_405.out _; (with_reducible repeat (first | refine blk_drewN ?_ _ | refine blk_drew ?_ | refine blk_alloc ?_ _)); refine blk_far ?_ NB403_405.out _; (with_reducible repeat (first | refine blk_drewN ?_ _ | refine blk_drew ?_ | refine blk_alloc ?_ _)); exact BK403.out) hb); have n1_ := Aside0.mk (blk_below (g := gb404) (o := .cells #[.bool a1_0, .string a1_1, .int .i64 a1_2] 31 (0, 0)) (by (with_reducible repeat (first | refine blk_drewN ?_ _ | refine blk_drew ?_ | refine blk_alloc ?_ _)); refine blk_far ?_ NB404_405.out _; (with_reducible repeat (first | refine blk_drewN ?_ _ | refine blk_drew ?_ | refine blk_alloc ?_ _)); refine blk_far ?_ NB404_405.out _; (with_reducible repeat (first | refine blk_drewN ?_ _ | refine blk_drew ?_ | refine blk_alloc ?_ _)); refine blk_far ?_ NB404_405.out _; (with_reducible repeat (first | refine blk_drewN ?_ _ | refine blk_drew ?_ | refine blk_alloc ?_ _)); exact BK404.out) hb); have n2_ := Aside0.mk (blk_below (g := gb405) (o := .cells #[.bool t409, .string t410, .int .i64 t411] 31 (0, 0)) (by (with_reducible repeat (first | refine blk_drewN ?_ _ | refine blk_drew ?_ | refine blk_alloc ?_ _)); refine blk_put (cs := #[.bool t409, .string t410, .int .i64 x406002_1]) ?_ 2 _ rfl; (with_reducible repeat (first | refine blk_drewN ?_ _ | refine blk_drew ?_ | refine blk_alloc ?_ _)); refine blk_put (cs := #[.bool t409, .string x406001_1, .int .i64 x406002_1]) ?_ 1 _ rfl; (with_reducible repeat (first | refine blk_drewN ?_ _ | refine blk_drew ?_ | refine blk_alloc ?_ _)); refine blk_put (cs := #[.bool x406000_1, .string x406001_1, .int .i64 x406002_1]) ?_ 0 _ rfl; (with_reducible repeat (first | refine blk_drewN ?_ _ | refine blk_drew ?_ | refine blk_alloc ?_ _)); exact BK405.out) hb); have n3_ := Aside0.mk (below_step (bl_ HB).out hb); clear BK403; clear BK404; clear BK405; clear HB; have BK403 := n0_; have BK404 := n1_; have BK405 := n2_; have HB := n3_; clear n0_ n1_ n2_ n3_; (try clear hb); (try clear hb2); (try clear hk); (try clear hi)))
        go_ret
        exact ⟨ew_, (bl_ HB).out⟩

end Go.Proofs.YthkpmiajcmihjaaGreatDoor.P
