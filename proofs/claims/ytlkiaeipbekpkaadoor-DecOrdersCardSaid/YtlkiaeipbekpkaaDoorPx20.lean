-- written by a program of this session (wip/p2)
import Derived.Test.YtlkiaeipbekpkaaDoorPx0
namespace Go.Proofs.YtlkiaeipbekpkaaDoor.P
open Go.RowKit Go.Proofs.YtlkiaeipbekpkaaDoorW.PrintWords Go.Proofs.YtlkiaeipbekpkaaDoorW.PrintLast Go.Proofs.YtlkiaeipbekpkaaDoorW.PrintMore
attribute [local go_sem] max2_int min2_int max_two min_two max_three min_three max_four min_four   -- for this text's walks alone
set_option linter.unusedVariables false
set_option linter.unusedSimpArgs false

/-! ### florinlaw02_Places: function 31 -/
def florinlaw02_Places.l0 : Nat → ByteArray → Int → Bool → ByteArray → Int → Option (ByteArray)
  | 0, _, _, _, _, _ => none
  | k + 1, x5, x6, x382000, x382001, x382002 => if x6 < x382002 then (if x5.size + 1 ≤ 9223372036854775807 then (florinlaw02_Places.l0 k (x5 ++ (⟨#[48]⟩ : ByteArray)) (wrap64 (x6 + 1)) x382000 x382001 x382002) else (none)) else (some x5)
def florinlaw02_Places.f (k : Nat) (a0_0 : Bool) (a0_1 : ByteArray) (a0_2 : Int) (a1 : Int) : Option (ByteArray) := florinlaw02_Places.l0 k a0_1 (wrap64 (-a1)) a0_0 a0_1 a0_2
theorem florinlaw02_Places.mono_l : ∀ k, (∀ y0 y1 y2 y3 y4, LeO (florinlaw02_Places.l0 k y0 y1 y2 y3 y4) (florinlaw02_Places.l0 (k + 1) y0 y1 y2 y3 y4))
  | 0 => fun _ _ _ _ _ r h => by simp [florinlaw02_Places.l0] at h
  | k + 1 => by
    have ih0 := florinlaw02_Places.mono_l k
    · intro y0 y1 y2 y3 y4
      unfold florinlaw02_Places.l0
      repeat' first
      | (with_reducible exact ih0 _ _ _ _ _)
      | (with_reducible exact LeO.refl _)
      | (with_reducible exact LeO.none _)
      | (with_reducible refine LeO.ite ?_ ?_)
      | (with_reducible refine LeO.bind ?_ (fun _ => ?_))
      | exact ih0 _ _ _ _ _
      | exact LeO.none _
      | refine LeO.ite ?_ ?_
      | refine LeO.bind ?_ (fun _ => ?_)
theorem florinlaw02_Places.mono : ∀ a0 a1 a2 a3 k, LeO (florinlaw02_Places.f k a0 a1 a2 a3) (florinlaw02_Places.f (k + 1) a0 a1 a2 a3) := by
  intro a0 a1 a2 a3 k
  have ih0 := florinlaw02_Places.mono_l k
  unfold florinlaw02_Places.f
  repeat' first
      | (with_reducible exact ih0 _ _ _ _ _)
      | (with_reducible exact LeO.refl _)
      | (with_reducible exact LeO.none _)
      | (with_reducible refine LeO.ite ?_ ?_)
      | (with_reducible refine LeO.bind ?_ (fun _ => ?_))
      | exact ih0 _ _ _ _ _
      | exact LeO.none _
      | refine LeO.ite ?_ ?_
      | refine LeO.bind ?_ (fun _ => ?_)
set_option maxHeartbeats 8000000 in
set_option maxRecDepth 100000 in
theorem florinlaw02_Places.calls (k : Nat) (a0_0 : Bool) (a0_1 : ByteArray) (a0_2 : Int) (a1 : Int) (r : ByteArray) (w : World) (h : florinlaw02_Places.f k a0_0 a0_1 a0_2 a1 = some r) :
    Calls Tryd.prog 31 #[.agg #[.bool a0_0, .string a0_1, .int .i64 a0_2], .int .i64 a1] w fun e w' => e = .returned (.string r) ∧ Below w.heap.size w w' := by
  have hu24 := Tryd.underlying24
  have HB := Aside0.mk (Below.refl w.heap.size w)
  have H : (florinlaw02_Places.l0 k a0_1 (wrap64 (-a1)) a0_0 a0_1 a0_2) = some r := h
  clear h
  have H' := Aside0.mk H
  clear H
  go_enter Tryd.func31, Tryd.ntmps31
  go_wp2_with (first | ((with_reducible refine gate_dst (N := 2) rfl ?_); refine box_event ?hg (N := 2) ?hd (cs := #[.bool a0_0, .string a0_1, .int .i64 a0_2]) (t := 24) ?hr ?_; (case hd => rfl); (case hg => rfl); (case hr => first | (go_simp; done) | (go_simp; rfl)); intro gb381 hg w3 hbox hb; have n0_ := Aside0.mk (below_step (bl_ HB).out hb); have n1_ := Aside0.mk (hbox); have n2_ := Aside0.mk ((by rw [hg]; exact (below_size (bl_ HB).out) : w.heap.size ≤ gb381)); have n3_ := Aside0.mk ((by rw [hg]; exact (below_size (bl_ HB).out) : w.heap.size ≤ gb381)); clear HB; have HB := n0_; have BK381 := n1_; have GW381 := n2_; have GE381 := n3_; clear n0_ n1_ n2_ n3_; clear hb hbox hg; have hcz4_0 : w3.cell? ⟨gb381, 0, none⟩ = some (.bool a0_0) := (blk_cell BK381.out 0).trans rfl; have hcz4_1 : w3.cell? ⟨gb381, 1, none⟩ = some (.string a0_1) := (blk_cell BK381.out 1).trans rfl; have hcz4_2 : w3.cell? ⟨gb381, 2, none⟩ = some (.int .i64 a0_2) := (blk_cell BK381.out 2).trans rfl; have hfz4_0 := blk_frozen BK381.out 0; have hfz4_1 := blk_frozen BK381.out 1; have hfz4_2 := blk_frozen BK381.out 2))
  go_loopg [5, 6] k (fun kq v5 v6 w' => ∃ (x5_1 : ByteArray) (x6_1 : Int), v5 = .string x5_1 ∧ v6 = .int .i64 x6_1 ∧ Aside0 (florinlaw02_Places.l0 kq x5_1 x6_1 a0_0 a0_1 a0_2 = some r) ∧ Aside0 (kq ≤ k) ∧ Aside0 (w'.heap[gb381]? = some (.cells #[.bool a0_0, .string a0_1, .int .i64 a0_2] 24 (0, 0))) ∧ Aside0 (Below w.heap.size w w'))
  case atStart => exact ⟨(a0_1), (wrap64 (-a1)), eq_, eq_, H', ⟨Nat.le_refl _⟩, (bk_ BK381), (bl_ HB)⟩
  case round =>
    clear H'
    try clear p2
    try clear c3
    try clear hcz4_0
    try clear hcz4_1
    try clear hcz4_2
    try clear hfz4_0
    try clear hfz4_1
    try clear hfz4_2
    obtain ⟨x5_1, x6_1, rfl, rfl, HA, HK1, BK381, HB⟩ := hrel
    cases gk with
    | zero => exact absurd HA.out (by simp [florinlaw02_Places.l0])
    | succ k1 =>
      have H := HA.out
      clear HA
      simp only [florinlaw02_Places.l0] at H
      by_cases c5 : x6_1 < a0_2
      · rw [if_pos c5] at H
        have c5b0 : decide (x6_1 < a0_2) = true := decide_eq_true c5
        clear c5
        by_cases c6 : x5_1.size + 1 ≤ 9223372036854775807
        · rw [if_pos c6] at H
          have c6b0 := eq_true c6
          have c6b1 : decide (x5_1.size + 1 ≤ 9223372036854775807) = true := decide_eq_true c6
          try have c6b2 : (9223372036854775807 < x5_1.size + 1) = False := eq_false (Nat.not_lt.2 c6)
          have H' := Aside0.mk H
          clear H
          have hcz7_0 : wr.cell? ⟨gb381, 0, none⟩ = some (.bool a0_0) := (blk_cell BK381.out 0).trans rfl
          have hcz7_1 : wr.cell? ⟨gb381, 1, none⟩ = some (.string a0_1) := (blk_cell BK381.out 1).trans rfl
          have hcz7_2 : wr.cell? ⟨gb381, 2, none⟩ = some (.int .i64 a0_2) := (blk_cell BK381.out 2).trans rfl
          have hfz7_0 := blk_frozen BK381.out 0
          have hfz7_1 := blk_frozen BK381.out 1
          have hfz7_2 := blk_frozen BK381.out 2
          go_wp2
          go_roundg k1
          case measure => have := HK1.out; omega
          case rel => exact ⟨(x5_1 ++ (⟨#[48]⟩ : ByteArray)), (wrap64 (x6_1 + 1)), eq_, eq_, H', ⟨by have := HK1.out; omega⟩, (bk_ BK381), (bl_ HB)⟩
        · rw [if_neg c6] at H
          exact absurd H (by simp)
      · rw [if_neg c5] at H
        have c5b0 : decide (x6_1 < a0_2) = false := decide_eq_false c5
        clear c5
        obtain rfl := Option.some.inj H
        have hcz8_0 : wr.cell? ⟨gb381, 0, none⟩ = some (.bool a0_0) := (blk_cell BK381.out 0).trans rfl
        have hcz8_1 : wr.cell? ⟨gb381, 1, none⟩ = some (.string a0_1) := (blk_cell BK381.out 1).trans rfl
        have hcz8_2 : wr.cell? ⟨gb381, 2, none⟩ = some (.int .i64 a0_2) := (blk_cell BK381.out 2).trans rfl
        have hfz8_0 := blk_frozen BK381.out 0
        have hfz8_1 := blk_frozen BK381.out 1
        have hfz8_2 := blk_frozen BK381.out 2
        go_wp2
        go_ret
        exact ⟨by first | rfl | (simp [errW_none, errW_some] <;> rfl) | (simp [*, errW_none, errW_some] <;> first | rfl | exact given_isEmpty _ | exact (given_isEmpty _).symm), by repeat (first | (with_reducible first | exact HB.out | apply below_alloc | apply pw_below_drewN | apply below_drew1 | refine below_set ?_ GE381.out) | exact HB.out)⟩

end Go.Proofs.YtlkiaeipbekpkaaDoor.P
