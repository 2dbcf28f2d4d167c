-- written by a program of this session (wip/p2)
import Derived.Test.YtlkiaeipbekpkaaDoorPx0
import Derived.Test.YtlkiaeipbekpkaaDoorPx10
import Derived.Test.YtlkiaeipbekpkaaDoorPx15
namespace Go.Proofs.YtlkiaeipbekpkaaDoor.P
open Go.RowKit Go.Proofs.YtlkiaeipbekpkaaDoorW.PrintWords Go.Proofs.YtlkiaeipbekpkaaDoorW.PrintLast Go.Proofs.YtlkiaeipbekpkaaDoorW.PrintMore
attribute [local go_sem] max2_int min2_int max_two min_two max_three min_three max_four min_four   -- for this text's walks alone
set_option linter.unusedVariables false
set_option linter.unusedSimpArgs false

/-! ### florinlaw02_Text_Write: function 26 -/
mutual
def florinlaw02_Text_Write.j0 : Nat → ByteArray → Bool → List Int → List Int → Bool → Int → Int → Int → Bool → Option (ByteArray)
  | 0, _, _, _, _, _, _, _, _, _ => none
  | k + 1, x3, x327000, x327001, x327002, x327003, x327004, x327005, x327006, x327007 => (florinlaw01_Digits.f k x327001).bind fun t327 => (if x3.size + t327.size ≤ 9223372036854775807 then (if x327003 = true then (if (x3 ++ t327).size + 1 ≤ 9223372036854775807 then ((florinlaw01_Digits.f k x327002).bind fun t328 => (if ((x3 ++ t327) ++ (⟨#[46]⟩ : ByteArray)).size + t328.size ≤ 9223372036854775807 then (florinlaw02_Text_Write.j1 k (((x3 ++ t327) ++ (⟨#[46]⟩ : ByteArray)) ++ t328) x327000 x327001 x327002 x327003 x327004 x327005 x327006 x327007) else (none))) else (none)) else (florinlaw02_Text_Write.j1 k (x3 ++ t327) x327000 x327001 x327002 x327003 x327004 x327005 x327006 x327007)) else (none))
def florinlaw02_Text_Write.j1 : Nat → ByteArray → Bool → List Int → List Int → Bool → Int → Int → Int → Bool → Option (ByteArray)
  | 0, _, _, _, _, _, _, _, _, _ => none
  | k + 1, x3, x327000, x327001, x327002, x327003, x327004, x327005, x327006, x327007 => if x327007 = true then ((some (([(⟨#[101]⟩ : ByteArray), (⟨#[69]⟩ : ByteArray)] : List ByteArray) : List ByteArray)).bind fun y329 => (if 0 ≤ (Go.bits .and .i64 x327006 1) then (if (Go.bits .and .i64 x327006 1) < (y329.length : Int) then (if x3.size + (rdOf ByteArray.empty y329 (Go.bits .and .i64 x327006 1)).size ≤ 9223372036854775807 then (if x327004 < 0 then (if (x3 ++ (rdOf ByteArray.empty y329 (Go.bits .and .i64 x327006 1))).size + 1 ≤ 9223372036854775807 then (florinlaw02_Text_Write.j2 k ((x3 ++ (rdOf ByteArray.empty y329 (Go.bits .and .i64 x327006 1))) ++ (⟨#[45]⟩ : ByteArray)) (wrap64 (-x327004)) x327000 x327001 x327002 x327003 x327004 x327005 x327006 x327007) else (none)) else (if (Go.bits .and .i64 x327005 1) = 1 then (if (x3 ++ (rdOf ByteArray.empty y329 (Go.bits .and .i64 x327006 1))).size + 1 ≤ 9223372036854775807 then (florinlaw02_Text_Write.j2 k ((x3 ++ (rdOf ByteArray.empty y329 (Go.bits .and .i64 x327006 1))) ++ (⟨#[43]⟩ : ByteArray)) x327004 x327000 x327001 x327002 x327003 x327004 x327005 x327006 x327007) else (none)) else (florinlaw02_Text_Write.j2 k (x3 ++ (rdOf ByteArray.empty y329 (Go.bits .and .i64 x327006 1))) x327004 x327000 x327001 x327002 x327003 x327004 x327005 x327006 x327007))) else (none)) else (none)) else (none))) else (some x3)
def florinlaw02_Text_Write.j2 : Nat → ByteArray → Int → Bool → List Int → List Int → Bool → Int → Int → Int → Bool → Option (ByteArray)
  | 0, _, _, _, _, _, _, _, _, _, _ => none
  | k + 1, x3, x4, x327000, x327001, x327002, x327003, x327004, x327005, x327006, x327007 => florinlaw02_Text_Write.l0 k x3 x4 0 x327000 x327001 x327002 x327003 x327004 x327005 x327006 x327007
def florinlaw02_Text_Write.l0 : Nat → ByteArray → Int → Int → Bool → List Int → List Int → Bool → Int → Int → Int → Bool → Option (ByteArray)
  | 0, _, _, _, _, _, _, _, _, _, _, _ => none
  | k + 1, x3, x4, x5, x327000, x327001, x327002, x327003, x327004, x327005, x327006, x327007 => if x5 < (Go.bits .and .i64 (x327006 / 2) 3) then (if x3.size + 1 ≤ 9223372036854775807 then (florinlaw02_Text_Write.l0 k (x3 ++ (⟨#[48]⟩ : ByteArray)) x4 (wrap64 (x5 + 1)) x327000 x327001 x327002 x327003 x327004 x327005 x327006 x327007) else (none)) else ((num_Of.f k x4).bind fun t333 => (if t333.toList = ([] : List UInt8) then (if x3.size + 1 ≤ 9223372036854775807 then (some (x3 ++ (⟨#[48]⟩ : ByteArray))) else (none)) else (if x3.size + t333.size ≤ 9223372036854775807 then (some (x3 ++ t333)) else (none))))
end
def florinlaw02_Text_Write.f (k : Nat) (a0_0 : Bool) (l0_1 : List Int) (l0_2 : List Int) (a0_3 : Bool) (a0_4 : Int) (a0_5 : Int) (a0_6 : Int) (a0_7 : Bool) : Option (ByteArray) := if a0_0 = true then (florinlaw02_Text_Write.j0 k (⟨#[45]⟩ : ByteArray) a0_0 l0_1 l0_2 a0_3 a0_4 a0_5 a0_6 a0_7) else (florinlaw02_Text_Write.j0 k (⟨#[]⟩ : ByteArray) a0_0 l0_1 l0_2 a0_3 a0_4 a0_5 a0_6 a0_7)
theorem florinlaw02_Text_Write.mono_l : ∀ k, (∀ y0 y1 y2 y3 y4 y5 y6 y7 y8, LeO (florinlaw02_Text_Write.j0 k y0 y1 y2 y3 y4 y5 y6 y7 y8) (florinlaw02_Text_Write.j0 (k + 1) y0 y1 y2 y3 y4 y5 y6 y7 y8)) ∧ (∀ y0 y1 y2 y3 y4 y5 y6 y7 y8, LeO (florinlaw02_Text_Write.j1 k y0 y1 y2 y3 y4 y5 y6 y7 y8) (florinlaw02_Text_Write.j1 (k + 1) y0 y1 y2 y3 y4 y5 y6 y7 y8)) ∧ (∀ y0 y1 y2 y3 y4 y5 y6 y7 y8 y9, LeO (florinlaw02_Text_Write.j2 k y0 y1 y2 y3 y4 y5 y6 y7 y8 y9) (florinlaw02_Text_Write.j2 (k + 1) y0 y1 y2 y3 y4 y5 y6 y7 y8 y9)) ∧ (∀ y0 y1 y2 y3 y4 y5 y6 y7 y8 y9 y10, LeO (florinlaw02_Text_Write.l0 k y0 y1 y2 y3 y4 y5 y6 y7 y8 y9 y10) (florinlaw02_Text_Write.l0 (k + 1) y0 y1 y2 y3 y4 y5 y6 y7 y8 y9 y10))
  | 0 => ⟨fun _ _ _ _ _ _ _ _ _ r h => by simp [florinlaw02_Text_Write.j0] at h, fun _ _ _ _ _ _ _ _ _ r h => by simp [florinlaw02_Text_Write.j1] at h, fun _ _ _ _ _ _ _ _ _ _ r h => by simp [florinlaw02_Text_Write.j2] at h, fun _ _ _ _ _ _ _ _ _ _ _ r h => by simp [florinlaw02_Text_Write.l0] at h⟩
  | k + 1 => by
    obtain ⟨ih0, ih1, ih2, ih3⟩ := florinlaw02_Text_Write.mono_l k
    refine ⟨?_, ?_, ?_, ?_⟩
    · intro y0 y1 y2 y3 y4 y5 y6 y7 y8
      unfold florinlaw02_Text_Write.j0
      repeat' first
      | (with_reducible exact ih0 _ _ _ _ _ _ _ _ _)
      | (with_reducible exact ih1 _ _ _ _ _ _ _ _ _)
      | (with_reducible exact ih2 _ _ _ _ _ _ _ _ _ _)
      | (with_reducible exact ih3 _ _ _ _ _ _ _ _ _ _ _)
      | (with_reducible exact florinlaw01_Digits.mono _ _)
      | (with_reducible exact num_Of.mono _ _)
      | (with_reducible exact LeO.refl _)
      | (with_reducible exact LeO.none _)
      | (with_reducible refine LeO.ite ?_ ?_)
      | (with_reducible refine LeO.bind ?_ (fun _ => ?_))
      | exact ih0 _ _ _ _ _ _ _ _ _
      | exact ih1 _ _ _ _ _ _ _ _ _
      | exact ih2 _ _ _ _ _ _ _ _ _ _
      | exact ih3 _ _ _ _ _ _ _ _ _ _ _
      | exact florinlaw01_Digits.mono _ _
      | exact num_Of.mono _ _
      | exact LeO.none _
      | refine LeO.ite ?_ ?_
      | refine LeO.bind ?_ (fun _ => ?_)
    · intro y0 y1 y2 y3 y4 y5 y6 y7 y8
      unfold florinlaw02_Text_Write.j1
      repeat' first
      | (with_reducible exact ih0 _ _ _ _ _ _ _ _ _)
      | (with_reducible exact ih1 _ _ _ _ _ _ _ _ _)
      | (with_reducible exact ih2 _ _ _ _ _ _ _ _ _ _)
      | (with_reducible exact ih3 _ _ _ _ _ _ _ _ _ _ _)
      | (with_reducible exact florinlaw01_Digits.mono _ _)
      | (with_reducible exact num_Of.mono _ _)
      | (with_reducible exact LeO.refl _)
      | (with_reducible exact LeO.none _)
      | (with_reducible refine LeO.ite ?_ ?_)
      | (with_reducible refine LeO.bind ?_ (fun _ => ?_))
      | exact ih0 _ _ _ _ _ _ _ _ _
      | exact ih1 _ _ _ _ _ _ _ _ _
      | exact ih2 _ _ _ _ _ _ _ _ _ _
      | exact ih3 _ _ _ _ _ _ _ _ _ _ _
      | exact florinlaw01_Digits.mono _ _
      | exact num_Of.mono _ _
      | exact LeO.none _
      | refine LeO.ite ?_ ?_
      | refine LeO.bind ?_ (fun _ => ?_)
    · intro y0 y1 y2 y3 y4 y5 y6 y7 y8 y9
      unfold florinlaw02_Text_Write.j2
      repeat' first
      | (with_reducible exact ih0 _ _ _ _ _ _ _ _ _)
      | (with_reducible exact ih1 _ _ _ _ _ _ _ _ _)
      | (with_reducible exact ih2 _ _ _ _ _ _ _ _ _ _)
      | (with_reducible exact ih3 _ _ _ _ _ _ _ _ _ _ _)
      | (with_reducible exact florinlaw01_Digits.mono _ _)
      | (with_reducible exact num_Of.mono _ _)
      | (with_reducible exact LeO.refl _)
      | (with_reducible exact LeO.none _)
      | (with_reducible refine LeO.ite ?_ ?_)
      | (with_reducible refine LeO.bind ?_ (fun _ => ?_))
      | exact ih0 _ _ _ _ _ _ _ _ _
      | exact ih1 _ _ _ _ _ _ _ _ _
      | exact ih2 _ _ _ _ _ _ _ _ _ _
      | exact ih3 _ _ _ _ _ _ _ _ _ _ _
      | exact florinlaw01_Digits.mono _ _
      | exact num_Of.mono _ _
      | exact LeO.none _
      | refine LeO.ite ?_ ?_
      | refine LeO.bind ?_ (fun _ => ?_)
    · intro y0 y1 y2 y3 y4 y5 y6 y7 y8 y9 y10
      unfold florinlaw02_Text_Write.l0
      repeat' first
      | (with_reducible exact ih0 _ _ _ _ _ _ _ _ _)
      | (with_reducible exact ih1 _ _ _ _ _ _ _ _ _)
      | (with_reducible exact ih2 _ _ _ _ _ _ _ _ _ _)
      | (with_reducible exact ih3 _ _ _ _ _ _ _ _ _ _ _)
      | (with_reducible exact florinlaw01_Digits.mono _ _)
      | (with_reducible exact num_Of.mono _ _)
      | (with_reducible exact LeO.refl _)
      | (with_reducible exact LeO.none _)
      | (with_reducible refine LeO.ite ?_ ?_)
      | (with_reducible refine LeO.bind ?_ (fun _ => ?_))
      | exact ih0 _ _ _ _ _ _ _ _ _
      | exact ih1 _ _ _ _ _ _ _ _ _
      | exact ih2 _ _ _ _ _ _ _ _ _ _
      | exact ih3 _ _ _ _ _ _ _ _ _ _ _
      | exact florinlaw01_Digits.mono _ _
      | exact num_Of.mono _ _
      | exact LeO.none _
      | refine LeO.ite ?_ ?_
      | refine LeO.bind ?_ (fun _ => ?_)
theorem florinlaw02_Text_Write.mono : ∀ a0 a1 a2 a3 a4 a5 a6 a7 k, LeO (florinlaw02_Text_Write.f k a0 a1 a2 a3 a4 a5 a6 a7) (florinlaw02_Text_Write.f (k + 1) a0 a1 a2 a3 a4 a5 a6 a7) := by
  intro a0 a1 a2 a3 a4 a5 a6 a7 k
  obtain ⟨ih0, ih1, ih2, ih3⟩ := florinlaw02_Text_Write.mono_l k
  unfold florinlaw02_Text_Write.f
  repeat' first
      | (with_reducible exact ih0 _ _ _ _ _ _ _ _ _)
      | (with_reducible exact ih1 _ _ _ _ _ _ _ _ _)
      | (with_reducible exact ih2 _ _ _ _ _ _ _ _ _ _)
      | (with_reducible exact ih3 _ _ _ _ _ _ _ _ _ _ _)
      | (with_reducible exact florinlaw01_Digits.mono _ _)
      | (with_reducible exact num_Of.mono _ _)
      | (with_reducible exact LeO.refl _)
      | (with_reducible exact LeO.none _)
      | (with_reducible refine LeO.ite ?_ ?_)
      | (with_reducible refine LeO.bind ?_ (fun _ => ?_))
      | exact ih0 _ _ _ _ _ _ _ _ _
      | exact ih1 _ _ _ _ _ _ _ _ _
      | exact ih2 _ _ _ _ _ _ _ _ _ _
      | exact ih3 _ _ _ _ _ _ _ _ _ _ _
      | exact florinlaw01_Digits.mono _ _
      | exact num_Of.mono _ _
      | exact LeO.none _
      | refine LeO.ite ?_ ?_
      | refine LeO.bind ?_ (fun _ => ?_)
set_option maxHeartbeats 8000000 in
set_option maxRecDepth 100000 in
theorem florinlaw02_Text_Write.calls (k : Nat) (a0_0 : Bool) (A0_1 : Option Addr) (c0_1 : Nat) (l0_1 : List Int) (A0_2 : Option Addr) (c0_2 : Nat) (l0_2 : List Int) (a0_3 : Bool) (a0_4 : Int) (a0_5 : Int) (a0_6 : Int) (a0_7 : Bool) (r : ByteArray) (w : World) (hr0_1 : Kd.C (Kd.int .u8) w A0_1 l0_1.length l0_1) (hc0_1 : l0_1.length ≤ c0_1) (hr0_2 : Kd.C (Kd.int .u8) w A0_2 l0_2.length l0_2) (hc0_2 : l0_2.length ≤ c0_2) (h : florinlaw02_Text_Write.f k a0_0 l0_1 l0_2 a0_3 a0_4 a0_5 a0_6 a0_7 = some r) :
    Calls Tryd.prog 26 #[.agg #[.bool a0_0, .slice A0_1 l0_1.length c0_1, .slice A0_2 l0_2.length c0_2, .bool a0_3, .int .i64 a0_4, .int .i64 a0_5, .int .i64 a0_6, .bool a0_7]] w fun e w' => e = .returned (.string r) ∧ Below w.heap.size w w' := by
  have hu46 := Tryd.underlying46
  have HR0_1 := Aside0.mk hr0_1
  have HC0_1 := Aside0.mk hc0_1
  clear hr0_1 hc0_1
  have HR0_2 := Aside0.mk hr0_2
  have HC0_2 := Aside0.mk hc0_2
  clear hr0_2 hc0_2
  have HB := Aside0.mk (Below.refl w.heap.size w)
  have H : (if a0_0 = true then (florinlaw02_Text_Write.j0 k (⟨#[45]⟩ : ByteArray) a0_0 l0_1 l0_2 a0_3 a0_4 a0_5 a0_6 a0_7) else (florinlaw02_Text_Write.j0 k (⟨#[]⟩ : ByteArray) a0_0 l0_1 l0_2 a0_3 a0_4 a0_5 a0_6 a0_7)) = some r := h
  clear h
  have HC2 := Aside0.mk H
  clear H
  go_enter Tryd.func26, Tryd.ntmps26
  go_upto_if 8 with (first | ((with_reducible refine gate_dst (N := 1) rfl ?_); refine box_event ?hg (N := 1) ?hd (cs := #[.bool a0_0, .slice A0_1 l0_1.length c0_1, .slice A0_2 l0_2.length c0_2, .bool a0_3, .int .i64 a0_4, .int .i64 a0_5, .int .i64 a0_6, .bool a0_7]) (t := 46) ?hr ?_; (case hd => rfl); (case hg => rfl); (case hr => first | (go_simp; done) | (go_simp; rfl)); intro gb326 hg w3 hbox hb; have n0_ := Aside0.mk (below_step (by repeat (first | (with_reducible first | exact HB.out | apply below_alloc | apply pw_below_drewN | apply below_drew1) | exact HB.out)) hb); have n1_ := Aside0.mk (hbox); have n2_ := Aside0.mk ((by rw [hg]; exact (below_size (by repeat (first | (with_reducible first | exact HB.out | apply below_alloc | apply pw_below_drewN | apply below_drew1) | exact HB.out))) : w.heap.size ≤ gb326)); have n3_ := Aside0.mk ((by rw [hg]; exact (below_size (by repeat (first | (with_reducible first | exact HB.out | apply below_alloc | apply pw_below_drewN | apply below_drew1) | exact HB.out))) : w.heap.size ≤ gb326)); clear HB; have HB := n0_; have BK326 := n1_; have GW326 := n2_; have GE326 := n3_; clear n0_ n1_ n2_ n3_; clear hb hbox hg; have hcz4_0 : w3.cell? ⟨gb326, 0, none⟩ = some (.bool a0_0) := (blk_cell BK326.out 0).trans rfl; have hcz4_1 : w3.cell? ⟨gb326, 1, none⟩ = some (.slice A0_1 l0_1.length c0_1) := (blk_cell BK326.out 1).trans rfl; have hcz4_2 : w3.cell? ⟨gb326, 2, none⟩ = some (.slice A0_2 l0_2.length c0_2) := (blk_cell BK326.out 2).trans rfl; have hcz4_3 : w3.cell? ⟨gb326, 3, none⟩ = some (.bool a0_3) := (blk_cell BK326.out 3).trans rfl; have hcz4_4 : w3.cell? ⟨gb326, 4, none⟩ = some (.int .i64 a0_4) := (blk_cell BK326.out 4).trans rfl; have hcz4_5 : w3.cell? ⟨gb326, 5, none⟩ = some (.int .i64 a0_5) := (blk_cell BK326.out 5).trans rfl; have hcz4_6 : w3.cell? ⟨gb326, 6, none⟩ = some (.int .i64 a0_6) := (blk_cell BK326.out 6).trans rfl; have hcz4_7 : w3.cell? ⟨gb326, 7, none⟩ = some (.bool a0_7) := (blk_cell BK326.out 7).trans rfl; have hfz4_0 := blk_frozen BK326.out 0; have hfz4_1 := blk_frozen BK326.out 1; have hfz4_2 := blk_frozen BK326.out 2; have hfz4_3 := blk_frozen BK326.out 3; have hfz4_4 := blk_frozen BK326.out 4; have hfz4_5 := blk_frozen BK326.out 5; have hfz4_6 := blk_frozen BK326.out 6; have hfz4_7 := blk_frozen BK326.out 7))
  (try simp only [Act.put, List.setIfInBounds_toArray, List.set_cons_zero, List.set_cons_succ])
  go_cut [3] (fun v3 wc => ∃ (kq : Nat) (x3_1 : ByteArray), v3 = .string x3_1 ∧ Aside0 (florinlaw02_Text_Write.j0 kq x3_1 a0_0 l0_1 l0_2 a0_3 a0_4 a0_5 a0_6 a0_7 = some r) ∧ Aside0 (kq ≤ k) ∧ Aside0 (wc.heap[gb326]? = some (.cells #[.bool a0_0, (.slice A0_1 l0_1.length c0_1), (.slice A0_2 l0_2.length c0_2), .bool a0_3, .int .i64 a0_4, .int .i64 a0_5, .int .i64 a0_6, .bool a0_7] 46 (0, 0))) ∧ Aside0 (Below w.heap.size w wc))
  case first =>
    have H := HC2.out
    clear HC2
    by_cases c5 : a0_0 = true
    · subst c5
      have H1 : (florinlaw02_Text_Write.j0 k (⟨#[45]⟩ : ByteArray) true l0_1 l0_2 a0_3 a0_4 a0_5 a0_6 a0_7) = some r := by rw [if_pos rfl] at H; exact H
      clear H
      have H := H1
      clear H1
      have H' := Aside0.mk H
      clear H
      go_wp2
      go_meet
      case rel => exact ⟨_, ((⟨#[45]⟩ : ByteArray)), (by first | rfl | (simp; done) | (simp [*]; done) | (simp; first | exact given_isEmpty _ | exact (given_isEmpty _).symm) | (unfold wrap64; omega) | (congr 1; unfold wrap64; omega)), H', ⟨by first | omega | exact Nat.le_refl _⟩, ⟨by (with_reducible repeat (first | refine blk_drewN ?_ _ | refine blk_drew ?_ | refine blk_alloc ?_ _)); exact BK326.out⟩, ⟨by repeat (first | (with_reducible first | exact HB.out | apply below_alloc | apply pw_below_drewN | apply below_drew1 | refine below_set ?_ GE326.out) | exact HB.out)⟩⟩
    · replace c5 := Bool.eq_false_iff.mpr c5
      subst c5
      have H1 : (florinlaw02_Text_Write.j0 k (⟨#[]⟩ : ByteArray) false l0_1 l0_2 a0_3 a0_4 a0_5 a0_6 a0_7) = some r := by rw [if_neg (show ¬ (false = true) by decide)] at H; exact H
      clear H
      have H := H1
      clear H1
      have H' := Aside0.mk H
      clear H
      go_wp2
      go_meet
      case rel => exact ⟨_, ((⟨#[]⟩ : ByteArray)), (by first | rfl | (simp; done) | (simp [*]; done) | (simp; first | exact given_isEmpty _ | exact (given_isEmpty _).symm) | (unfold wrap64; omega) | (congr 1; unfold wrap64; omega)), H', ⟨by first | omega | exact Nat.le_refl _⟩, ⟨by (with_reducible repeat (first | refine blk_drewN ?_ _ | refine blk_drew ?_ | refine blk_alloc ?_ _)); exact BK326.out⟩, ⟨by repeat (first | (with_reducible first | exact HB.out | apply below_alloc | apply pw_below_drewN | apply below_drew1 | refine below_set ?_ GE326.out) | exact HB.out)⟩⟩
  case rest =>
    clear HC2
    try clear c2
    try clear p2
    try clear c5
    try clear hcz4_0
    try clear hcz4_1
    try clear hcz4_2
    try clear hcz4_3
    try clear hcz4_4
    try clear hcz4_5
    try clear hcz4_6
    try clear hcz4_7
    try clear hfz4_0
    try clear hfz4_1
    try clear hfz4_2
    try clear hfz4_3
    try clear hfz4_4
    try clear hfz4_5
    try clear hfz4_6
    try clear hfz4_7
    obtain ⟨kq, x3_1, rfl, HA, HJ1, BK326, HB⟩ := hcut
    cases kq with
    | zero => exact absurd HA.out (by simp [florinlaw02_Text_Write.j0])
    | succ kj1 =>
      have H := HA.out
      clear HA
      simp only [florinlaw02_Text_Write.j0] at H
      replace H := Option.bind_eq_some_iff.mp H
      obtain ⟨t327, A60, H⟩ := H
      replace H : (if x3_1.size + t327.size ≤ 9223372036854775807 then (if a0_3 = true then (if (x3_1 ++ t327).size + 1 ≤ 9223372036854775807 then ((florinlaw01_Digits.f kj1 l0_2).bind fun t328 => (if ((x3_1 ++ t327) ++ (⟨#[46]⟩ : ByteArray)).size + t328.size ≤ 9223372036854775807 then (florinlaw02_Text_Write.j1 kj1 (((x3_1 ++ t327) ++ (⟨#[46]⟩ : ByteArray)) ++ t328) a0_0 l0_1 l0_2 a0_3 a0_4 a0_5 a0_6 a0_7) else (none))) else (none)) else (florinlaw02_Text_Write.j1 kj1 (x3_1 ++ t327) a0_0 l0_1 l0_2 a0_3 a0_4 a0_5 a0_6 a0_7)) else (none)) = some r := H
      have A6 := Aside0.mk A60
      clear A60
      by_cases c7 : x3_1.size + t327.size ≤ 9223372036854775807
      · rw [if_pos c7] at H
        have c7b0 := eq_true c7
        have c7b1 : decide (x3_1.size + t327.size ≤ 9223372036854775807) = true := decide_eq_true c7
        try have c7b2 : (9223372036854775807 < x3_1.size + t327.size) = False := eq_false (Nat.not_lt.2 c7)
        have HC8 := Aside0.mk H
        clear H
        have hcz9_0 : wc.cell? ⟨gb326, 0, none⟩ = some (.bool a0_0) := (blk_cell BK326.out 0).trans rfl
        have hcz9_1 : wc.cell? ⟨gb326, 1, none⟩ = some (.slice A0_1 l0_1.length c0_1) := (blk_cell BK326.out 1).trans rfl
        have hcz9_2 : wc.cell? ⟨gb326, 2, none⟩ = some (.slice A0_2 l0_2.length c0_2) := (blk_cell BK326.out 2).trans rfl
        have hcz9_3 : wc.cell? ⟨gb326, 3, none⟩ = some (.bool a0_3) := (blk_cell BK326.out 3).trans rfl
        have hcz9_4 : wc.cell? ⟨gb326, 4, none⟩ = some (.int .i64 a0_4) := (blk_cell BK326.out 4).trans rfl
        have hcz9_5 : wc.cell? ⟨gb326, 5, none⟩ = some (.int .i64 a0_5) := (blk_cell BK326.out 5).trans rfl
        have hcz9_6 : wc.cell? ⟨gb326, 6, none⟩ = some (.int .i64 a0_6) := (blk_cell BK326.out 6).trans rfl
        have hcz9_7 : wc.cell? ⟨gb326, 7, none⟩ = some (.bool a0_7) := (blk_cell BK326.out 7).trans rfl
        have hfz9_0 := blk_frozen BK326.out 0
        have hfz9_1 := blk_frozen BK326.out 1
        have hfz9_2 := blk_frozen BK326.out 2
        have hfz9_3 := blk_frozen BK326.out 3
        have hfz9_4 := blk_frozen BK326.out 4
        have hfz9_5 := blk_frozen BK326.out 5
        have hfz9_6 := blk_frozen BK326.out 6
        have hfz9_7 := blk_frozen BK326.out 7
        go_upto_if 15 with (first | ((with_reducible refine gate_callee (f := 27) rfl ?_); refine goesL_ (some 12) rfl rfl Tryd.func27 (by kernel_rfl) rfl #[.slice A0_1 l0_1.length c0_1] rfl (by (try simp only [List.map_toArray, List.map_cons, List.map_nil]); first | done | rfl | (simp only [List.length_drop, List.length_take]; rfl) | (have z_ : ∀ s_ : ByteArray, s_.size ≤ 9223372036854775807 → -(s_.size : Int) = wrap64 (-(s_.size : Int)) := (fun s_ h_ => by unfold wrap64; omega); rw [← z_ _ (by omega)]; rfl)) ?_; (with_reducible refine (florinlaw01_Digits.calls kj1 _ _ l0_1 t327 _ ?side1 ?side2 A6.out).mono ?_); (case side1 => repeat (first | exact (Kd.C_below HR0_1.out HB.out) | (with_reducible refine Kd.C_alloc ?_ _) | (with_reducible refine Kd.C_drewN ?_ _) | (with_reducible refine Kd.C_drew ?_))); (case side2 => exact HC0_1.out); rintro e w10 ⟨rfl, hb⟩; refine ⟨_, rfl, ?_⟩; have n0_ := bb_ BK326 hb; have n1_ := Aside0.mk (below_step (by repeat (first | (with_reducible first | exact HB.out | apply below_alloc | apply pw_below_drewN | apply below_drew1 | refine below_set ?_ GE326.out) | exact HB.out)) hb); clear BK326; clear HB; have BK326 := n0_; have HB := n1_; clear n0_ n1_; (try clear hb); (try clear hb2); (try clear hk); (try clear hi); have hcz11_0 : w10.cell? ⟨gb326, 0, none⟩ = some (.bool a0_0) := (blk_cell BK326.out 0).trans rfl; have hcz11_1 : w10.cell? ⟨gb326, 1, none⟩ = some (.slice A0_1 l0_1.length c0_1) := (blk_cell BK326.out 1).trans rfl; have hcz11_2 : w10.cell? ⟨gb326, 2, none⟩ = some (.slice A0_2 l0_2.length c0_2) := (blk_cell BK326.out 2).trans rfl; have hcz11_3 : w10.cell? ⟨gb326, 3, none⟩ = some (.bool a0_3) := (blk_cell BK326.out 3).trans rfl; have hcz11_4 : w10.cell? ⟨gb326, 4, none⟩ = some (.int .i64 a0_4) := (blk_cell BK326.out 4).trans rfl; have hcz11_5 : w10.cell? ⟨gb326, 5, none⟩ = some (.int .i64 a0_5) := (blk_cell BK326.out 5).trans rfl; have hcz11_6 : w10.cell? ⟨gb326, 6, none⟩ = some (.int .i64 a0_6) := (blk_cell BK326.out 6).trans rfl; have hcz11_7 : w10.cell? ⟨gb326, 7, none⟩ = some (.bool a0_7) := (blk_cell BK326.out 7).trans rfl; have hfz11_0 := blk_frozen BK326.out 0; have hfz11_1 := blk_frozen BK326.out 1; have hfz11_2 := blk_frozen BK326.out 2; have hfz11_3 := blk_frozen BK326.out 3; have hfz11_4 := blk_frozen BK326.out 4; have hfz11_5 := blk_frozen BK326.out 5; have hfz11_6 := blk_frozen BK326.out 6; have hfz11_7 := blk_frozen BK326.out 7))
        (try simp only [Act.put, List.setIfInBounds_toArray, List.set_cons_zero, List.set_cons_succ])
        go_cut [3] (fun v3 wc => ∃ (kq : Nat) (x3_7 : ByteArray), v3 = .string x3_7 ∧ Aside0 (florinlaw02_Text_Write.j1 kq x3_7 a0_0 l0_1 l0_2 a0_3 a0_4 a0_5 a0_6 a0_7 = some r) ∧ Aside0 (kq ≤ kj1) ∧ Aside0 (wc.heap[gb326]? = some (.cells #[.bool a0_0, (.slice A0_1 l0_1.length c0_1), (.slice A0_2 l0_2.length c0_2), .bool a0_3, .int .i64 a0_4, .int .i64 a0_5, .int .i64 a0_6, .bool a0_7] 46 (0, 0))) ∧ Aside0 (Below w.heap.size w wc))
        case first =>
          have H := HC8.out
          clear HC8
          by_cases c12 : a0_3 = true
          · subst c12
            have H1 : (if (x3_1 ++ t327).size + 1 ≤ 9223372036854775807 then ((florinlaw01_Digits.f kj1 l0_2).bind fun t328 => (if ((x3_1 ++ t327) ++ (⟨#[46]⟩ : ByteArray)).size + t328.size ≤ 9223372036854775807 then (florinlaw02_Text_Write.j1 kj1 (((x3_1 ++ t327) ++ (⟨#[46]⟩ : ByteArray)) ++ t328) a0_0 l0_1 l0_2 true a0_4 a0_5 a0_6 a0_7) else (none))) else (none)) = some r := by rw [if_pos rfl] at H; exact H
            clear H
            have H := H1
            clear H1
            by_cases c13 : (x3_1 ++ t327).size + 1 ≤ 9223372036854775807
            · rw [if_pos c13] at H
              have c13b0 := eq_true c13
              have c13b1 : decide ((x3_1 ++ t327).size + 1 ≤ 9223372036854775807) = true := decide_eq_true c13
              try (have c13b5 := c13b0; simp only [ByteArray.size_append, Int.natCast_add] at c13b5)
              try have c13b2 : (9223372036854775807 < (x3_1 ++ t327).size + 1) = False := eq_false (Nat.not_lt.2 c13)
              try have c13b3 : (9223372036854775807 < x3_1.size + t327.size + 1) = False := eq_false (Nat.not_lt.2 (by have h_ := c13; simp only [ByteArray.size_append] at h_; exact h_))
              try have c13b4 : (x3_1.size + t327.size + 1 ≤ 9223372036854775807) = True := eq_true (by have h_ := c13; simp only [ByteArray.size_append] at h_; exact h_)
              replace H := Option.bind_eq_some_iff.mp H
              obtain ⟨t328, A140, H⟩ := H
              replace H : (if ((x3_1 ++ t327) ++ (⟨#[46]⟩ : ByteArray)).size + t328.size ≤ 9223372036854775807 then (florinlaw02_Text_Write.j1 kj1 (((x3_1 ++ t327) ++ (⟨#[46]⟩ : ByteArray)) ++ t328) a0_0 l0_1 l0_2 true a0_4 a0_5 a0_6 a0_7) else (none)) = some r := H
              have A14 := Aside0.mk A140
              clear A140
              by_cases c15 : ((x3_1 ++ t327) ++ (⟨#[46]⟩ : ByteArray)).size + t328.size ≤ 9223372036854775807
              · rw [if_pos c15] at H
                have c15b0 := eq_true c15
                have c15b1 : decide (((x3_1 ++ t327) ++ (⟨#[46]⟩ : ByteArray)).size + t328.size ≤ 9223372036854775807) = true := decide_eq_true c15
                try (have c15b5 := c15b0; simp only [ByteArray.size_append, Int.natCast_add] at c15b5)
                try have c15b2 : (9223372036854775807 < ((x3_1 ++ t327) ++ (⟨#[46]⟩ : ByteArray)).size + t328.size) = False := eq_false (Nat.not_lt.2 c15)
                try have c15b3 : (9223372036854775807 < x3_1.size + t327.size + 1 + t328.size) = False := eq_false (Nat.not_lt.2 (by have h_ := c15; simp only [ByteArray.size_append] at h_; exact h_))
                try have c15b4 : (x3_1.size + t327.size + 1 + t328.size ≤ 9223372036854775807) = True := eq_true (by have h_ := c15; simp only [ByteArray.size_append] at h_; exact h_)
                have H' := Aside0.mk H
                clear H
                have hcz16_0 : w10.cell? ⟨gb326, 0, none⟩ = some (.bool a0_0) := (blk_cell BK326.out 0).trans rfl
                have hcz16_1 : w10.cell? ⟨gb326, 1, none⟩ = some (.slice A0_1 l0_1.length c0_1) := (blk_cell BK326.out 1).trans rfl
                have hcz16_2 : w10.cell? ⟨gb326, 2, none⟩ = some (.slice A0_2 l0_2.length c0_2) := (blk_cell BK326.out 2).trans rfl
                have hcz16_3 : w10.cell? ⟨gb326, 3, none⟩ = some (.bool true) := (blk_cell BK326.out 3).trans rfl
                have hcz16_4 : w10.cell? ⟨gb326, 4, none⟩ = some (.int .i64 a0_4) := (blk_cell BK326.out 4).trans rfl
                have hcz16_5 : w10.cell? ⟨gb326, 5, none⟩ = some (.int .i64 a0_5) := (blk_cell BK326.out 5).trans rfl
                have hcz16_6 : w10.cell? ⟨gb326, 6, none⟩ = some (.int .i64 a0_6) := (blk_cell BK326.out 6).trans rfl
                have hcz16_7 : w10.cell? ⟨gb326, 7, none⟩ = some (.bool a0_7) := (blk_cell BK326.out 7).trans rfl
                have hfz16_0 := blk_frozen BK326.out 0
                have hfz16_1 := blk_frozen BK326.out 1
                have hfz16_2 := blk_frozen BK326.out 2
                have hfz16_3 := blk_frozen BK326.out 3
                have hfz16_4 := blk_frozen BK326.out 4
                have hfz16_5 := blk_frozen BK326.out 5
                have hfz16_6 := blk_frozen BK326.out 6
                have hfz16_7 := blk_frozen BK326.out 7
                go_wp2_with (first | ((with_reducible refine gate_callee (f := 27) rfl ?_); refine goesL_ (some 20) rfl rfl Tryd.func27 (by kernel_rfl) rfl #[.slice A0_2 l0_2.length c0_2] rfl (by (try simp only [List.map_toArray, List.map_cons, List.map_nil]); first | done | rfl | (simp only [List.length_drop, List.length_take]; rfl) | (have z_ : ∀ s_ : ByteArray, s_.size ≤ 9223372036854775807 → -(s_.size : Int) = wrap64 (-(s_.size : Int)) := (fun s_ h_ => by unfold wrap64; omega); rw [← z_ _ (by omega)]; rfl)) ?_; (with_reducible refine (florinlaw01_Digits.calls kj1 _ _ l0_2 t328 _ ?side1 ?side2 A14.out).mono ?_); (case side1 => repeat (first | exact (Kd.C_below HR0_2.out HB.out) | (with_reducible refine Kd.C_alloc ?_ _) | (with_reducible refine Kd.C_drewN ?_ _) | (with_reducible refine Kd.C_drew ?_))); (case side2 => exact HC0_2.out); rintro e w17 ⟨rfl, hb⟩; refine ⟨_, rfl, ?_⟩; have n0_ := bb_ BK326 hb; have n1_ := Aside0.mk (below_step (by repeat (first | (with_reducible first | exact HB.out | apply below_alloc | apply pw_below_drewN | apply below_drew1 | refine below_set ?_ GE326.out) | exact HB.out)) hb); clear BK326; clear HB; have BK326 := n0_; have HB := n1_; clear n0_ n1_; (try clear hb); (try clear hb2); (try clear hk); (try clear hi)))
                go_meet
                case rel => exact ⟨_, (((x3_1 ++ t327) ++ (⟨#[46]⟩ : ByteArray)) ++ t328), (by first | rfl | (simp; done) | (simp [*]; done) | (simp; first | exact given_isEmpty _ | exact (given_isEmpty _).symm) | (unfold wrap64; omega) | (congr 1; unfold wrap64; omega)), H', ⟨by have := HJ1.out; first | omega | exact Nat.le_refl _⟩, ⟨by (with_reducible repeat (first | refine blk_drewN ?_ _ | refine blk_drew ?_ | refine blk_alloc ?_ _)); exact BK326.out⟩, ⟨by repeat (first | (with_reducible first | exact HB.out | apply below_alloc | apply pw_below_drewN | apply below_drew1 | refine below_set ?_ GE326.out) | exact HB.out)⟩⟩
              · rw [if_neg c15] at H
                exact absurd H (by simp)
            · rw [if_neg c13] at H
              exact absurd H (by simp)
          · replace c12 := Bool.eq_false_iff.mpr c12
            subst c12
            have H1 : (florinlaw02_Text_Write.j1 kj1 (x3_1 ++ t327) a0_0 l0_1 l0_2 false a0_4 a0_5 a0_6 a0_7) = some r := by rw [if_neg (show ¬ (false = true) by decide)] at H; exact H
            clear H
            have H := H1
            clear H1
            have H' := Aside0.mk H
            clear H
            go_wp2
            go_meet
            case rel => exact ⟨_, (x3_1 ++ t327), (by first | rfl | (simp; done) | (simp [*]; done) | (simp; first | exact given_isEmpty _ | exact (given_isEmpty _).symm) | (unfold wrap64; omega) | (congr 1; unfold wrap64; omega)), H', ⟨by have := HJ1.out; first | omega | exact Nat.le_refl _⟩, ⟨by (with_reducible repeat (first | refine blk_drewN ?_ _ | refine blk_drew ?_ | refine blk_alloc ?_ _)); exact BK326.out⟩, ⟨by repeat (first | (with_reducible first | exact HB.out | apply below_alloc | apply pw_below_drewN | apply below_drew1 | refine below_set ?_ GE326.out) | exact HB.out)⟩⟩
        case rest =>
          clear HC8
          try clear c1
          try clear c2
          try clear p2
          try clear c5
          try clear p6
          try clear c7
          try clear c7b0
          try clear c7b1
          try clear c7b2
          try clear c12
          try clear c13
          try clear c13b0
          try clear c13b1
          try clear c13b2
          try clear c15
          try clear c15b0
          try clear c15b1
          try clear c15b2
          try clear hcz11_0
          try clear hcz11_1
          try clear hcz11_2
          try clear hcz11_3
          try clear hcz11_4
          try clear hcz11_5
          try clear hcz11_6
          try clear hcz11_7
          try clear hcz16_0
          try clear hcz16_1
          try clear hcz16_2
          try clear hcz16_3
          try clear hcz16_4
          try clear hcz16_5
          try clear hcz16_6
          try clear hcz16_7
          try clear hcz4_0
          try clear hcz4_1
          try clear hcz4_2
          try clear hcz4_3
          try clear hcz4_4
          try clear hcz4_5
          try clear hcz4_6
          try clear hcz4_7
          try clear hcz9_0
          try clear hcz9_1
          try clear hcz9_2
          try clear hcz9_3
          try clear hcz9_4
          try clear hcz9_5
          try clear hcz9_6
          try clear hcz9_7
          try clear hfz11_0
          try clear hfz11_1
          try clear hfz11_2
          try clear hfz11_3
          try clear hfz11_4
          try clear hfz11_5
          try clear hfz11_6
          try clear hfz11_7
          try clear hfz16_0
          try clear hfz16_1
          try clear hfz16_2
          try clear hfz16_3
          try clear hfz16_4
          try clear hfz16_5
          try clear hfz16_6
          try clear hfz16_7
          try clear hfz4_0
          try clear hfz4_1
          try clear hfz4_2
          try clear hfz4_3
          try clear hfz4_4
          try clear hfz4_5
          try clear hfz4_6
          try clear hfz4_7
          try clear hfz9_0
          try clear hfz9_1
          try clear hfz9_2
          try clear hfz9_3
          try clear hfz9_4
          try clear hfz9_5
          try clear hfz9_6
          try clear hfz9_7
          try clear p2
          obtain ⟨kq, x3_7, rfl, HA, HJ7, BK326, HB⟩ := hcut
          cases kq with
          | zero => exact absurd HA.out (by simp [florinlaw02_Text_Write.j1])
          | succ kj7 =>
            have H := HA.out
            clear HA
            simp only [florinlaw02_Text_Write.j1] at H
            by_cases c18 : a0_7 = true
            · subst c18
              have H1 : ((some (([(⟨#[101]⟩ : ByteArray), (⟨#[69]⟩ : ByteArray)] : List ByteArray) : List ByteArray)).bind fun y329 => (if 0 ≤ (Go.bits .and .i64 a0_6 1) then (if (Go.bits .and .i64 a0_6 1) < (y329.length : Int) then (if x3_7.size + (rdOf ByteArray.empty y329 (Go.bits .and .i64 a0_6 1)).size ≤ 9223372036854775807 then (if a0_4 < 0 then (if (x3_7 ++ (rdOf ByteArray.empty y329 (Go.bits .and .i64 a0_6 1))).size + 1 ≤ 9223372036854775807 then (florinlaw02_Text_Write.j2 kj7 ((x3_7 ++ (rdOf ByteArray.empty y329 (Go.bits .and .i64 a0_6 1))) ++ (⟨#[45]⟩ : ByteArray)) (wrap64 (-a0_4)) a0_0 l0_1 l0_2 a0_3 a0_4 a0_5 a0_6 true) else (none)) else (if (Go.bits .and .i64 a0_5 1) = 1 then (if (x3_7 ++ (rdOf ByteArray.empty y329 (Go.bits .and .i64 a0_6 1))).size + 1 ≤ 9223372036854775807 then (florinlaw02_Text_Write.j2 kj7 ((x3_7 ++ (rdOf ByteArray.empty y329 (Go.bits .and .i64 a0_6 1))) ++ (⟨#[43]⟩ : ByteArray)) a0_4 a0_0 l0_1 l0_2 a0_3 a0_4 a0_5 a0_6 true) else (none)) else (florinlaw02_Text_Write.j2 kj7 (x3_7 ++ (rdOf ByteArray.empty y329 (Go.bits .and .i64 a0_6 1))) a0_4 a0_0 l0_1 l0_2 a0_3 a0_4 a0_5 a0_6 true))) else (none)) else (none)) else (none))) = some r := by rw [if_pos rfl] at H; exact H
              clear H
              have H := H1
              clear H1
              obtain ⟨y329, hy329⟩ : ∃ y_ : List ByteArray, y_ = (([(⟨#[101]⟩ : ByteArray), (⟨#[69]⟩ : ByteArray)] : List ByteArray)) := ⟨_, rfl⟩
              replace H : (if 0 ≤ (Go.bits .and .i64 a0_6 1) then (if (Go.bits .and .i64 a0_6 1) < (y329.length : Int) then (if x3_7.size + (rdOf ByteArray.empty y329 (Go.bits .and .i64 a0_6 1)).size ≤ 9223372036854775807 then (if a0_4 < 0 then (if (x3_7 ++ (rdOf ByteArray.empty y329 (Go.bits .and .i64 a0_6 1))).size + 1 ≤ 9223372036854775807 then (florinlaw02_Text_Write.j2 kj7 ((x3_7 ++ (rdOf ByteArray.empty y329 (Go.bits .and .i64 a0_6 1))) ++ (⟨#[45]⟩ : ByteArray)) (wrap64 (-a0_4)) a0_0 l0_1 l0_2 a0_3 a0_4 a0_5 a0_6 true) else (none)) else (if (Go.bits .and .i64 a0_5 1) = 1 then (if (x3_7 ++ (rdOf ByteArray.empty y329 (Go.bits .and .i64 a0_6 1))).size + 1 ≤ 9223372036854775807 then (florinlaw02_Text_Write.j2 kj7 ((x3_7 ++ (rdOf ByteArray.empty y329 (Go.bits .and .i64 a0_6 1))) ++ (⟨#[43]⟩ : ByteArray)) a0_4 a0_0 l0_1 l0_2 a0_3 a0_4 a0_5 a0_6 true) else (none)) else (florinlaw02_Text_Write.j2 kj7 (x3_7 ++ (rdOf ByteArray.empty y329 (Go.bits .and .i64 a0_6 1))) a0_4 a0_0 l0_1 l0_2 a0_3 a0_4 a0_5 a0_6 true))) else (none)) else (none)) else (none)) = some r := by first | (rw [hy329]; with_reducible exact H) | (have H2_ := (Option.bind_some _ _).symm.trans H; rw [hy329]; with_reducible exact H2_) | (have H2_ := (Option.bind_some _ _).symm.trans H; with_reducible exact H2_) | with_reducible exact H | (rw [hy329]; exact H) | exact H
              have Ny329 := Aside0.mk hy329
              clear hy329
              by_cases c19 : 0 ≤ (Go.bits .and .i64 a0_6 1)
              · rw [if_pos c19] at H
                have c19b0 : decide (0 ≤ (Go.bits .and .i64 a0_6 1)) = true := decide_eq_true c19
                clear c19
                by_cases c20 : (Go.bits .and .i64 a0_6 1) < (y329.length : Int)
                · rw [if_pos c20] at H
                  have c20b0 : decide ((Go.bits .and .i64 a0_6 1) < (y329.length : Int)) = true := decide_eq_true c20
                  clear c20
                  by_cases c21 : x3_7.size + (rdOf ByteArray.empty y329 (Go.bits .and .i64 a0_6 1)).size ≤ 9223372036854775807
                  · rw [if_pos c21] at H
                    have c21b0 := eq_true c21
                    have c21b1 : decide (x3_7.size + (rdOf ByteArray.empty y329 (Go.bits .and .i64 a0_6 1)).size ≤ 9223372036854775807) = true := decide_eq_true c21
                    try have c21b2 : (9223372036854775807 < x3_7.size + (rdOf ByteArray.empty y329 (Go.bits .and .i64 a0_6 1)).size) = False := eq_false (Nat.not_lt.2 c21)
                    have HC22 := Aside0.mk H
                    clear H
                    have hcz23_0 : wc.cell? ⟨gb326, 0, none⟩ = some (.bool a0_0) := (blk_cell BK326.out 0).trans rfl
                    have hcz23_1 : wc.cell? ⟨gb326, 1, none⟩ = some (.slice A0_1 l0_1.length c0_1) := (blk_cell BK326.out 1).trans rfl
                    have hcz23_2 : wc.cell? ⟨gb326, 2, none⟩ = some (.slice A0_2 l0_2.length c0_2) := (blk_cell BK326.out 2).trans rfl
                    have hcz23_3 : wc.cell? ⟨gb326, 3, none⟩ = some (.bool a0_3) := (blk_cell BK326.out 3).trans rfl
                    have hcz23_4 : wc.cell? ⟨gb326, 4, none⟩ = some (.int .i64 a0_4) := (blk_cell BK326.out 4).trans rfl
                    have hcz23_5 : wc.cell? ⟨gb326, 5, none⟩ = some (.int .i64 a0_5) := (blk_cell BK326.out 5).trans rfl
                    have hcz23_6 : wc.cell? ⟨gb326, 6, none⟩ = some (.int .i64 a0_6) := (blk_cell BK326.out 6).trans rfl
                    have hcz23_7 : wc.cell? ⟨gb326, 7, none⟩ = some (.bool true) := (blk_cell BK326.out 7).trans rfl
                    have hfz23_0 := blk_frozen BK326.out 0
                    have hfz23_1 := blk_frozen BK326.out 1
                    have hfz23_2 := blk_frozen BK326.out 2
                    have hfz23_3 := blk_frozen BK326.out 3
                    have hfz23_4 := blk_frozen BK326.out 4
                    have hfz23_5 := blk_frozen BK326.out 5
                    have hfz23_6 := blk_frozen BK326.out 6
                    have hfz23_7 := blk_frozen BK326.out 7
                    go_upto_block 0 with (first | ((with_reducible refine gate_dst (N := 25) rfl ?_); refine Kd.R_lit Kd.string _ 9 ?hg (N := 25) ?hd (xs := ([(⟨#[101]⟩ : ByteArray), (⟨#[69]⟩ : ByteArray)] : List ByteArray)) (inner := [.string (⟨#[101]⟩ : ByteArray), .string (⟨#[69]⟩ : ByteArray)]) (ok := fun _ => True) (okp := fun _ => True) ?hr ?hp (fun _ hk => hk) trivial (Below.refl _ _) (Nat.le_refl _) (by simp) ?_; (case hd => rfl); (case hg => rfl); (case hr => first | (go_simp; done) | (go_simp; rfl)); (case hp => exact (Reps.one (show Kd.M Kd.string _ _ _ (⟨#[101]⟩ : ByteArray) [.string (⟨#[101]⟩ : ByteArray)] from rfl) (Reps.one (show Kd.M Kd.string _ _ _ (⟨#[69]⟩ : ByteArray) [.string (⟨#[69]⟩ : ByteArray)] from rfl) (Reps.none _ _)))); intro v330 w24 ho25 hb hg_ hnew_; clear hg_ hnew_; (first | rw [← Ny329.out] at ho25 | (simp only [Int.reduceToNat] at ho25; rw [← Ny329.out] at ho25)); have n0_ := Aside0.mk (Kd.R_lower ho25 (below_size (by repeat (first | (with_reducible first | exact HB.out | apply below_alloc | apply pw_below_drewN | apply below_drew1 | refine below_set ?_ GE326.out) | exact HB.out)))); have n1_ := bb_ BK326 hb; have n2_ := Aside0.mk (below_step (by repeat (first | (with_reducible first | exact HB.out | apply below_alloc | apply pw_below_drewN | apply below_drew1 | refine below_set ?_ GE326.out) | exact HB.out)) hb); clear BK326; clear HB; have HO331 := n0_; have BK326 := n1_; have HB := n2_; clear n0_ n1_ n2_; clear hb ho25; have hcz26_0 : w24.cell? ⟨gb326, 0, none⟩ = some (.bool a0_0) := (blk_cell BK326.out 0).trans rfl; have hcz26_1 : w24.cell? ⟨gb326, 1, none⟩ = some (.slice A0_1 l0_1.length c0_1) := (blk_cell BK326.out 1).trans rfl; have hcz26_2 : w24.cell? ⟨gb326, 2, none⟩ = some (.slice A0_2 l0_2.length c0_2) := (blk_cell BK326.out 2).trans rfl; have hcz26_3 : w24.cell? ⟨gb326, 3, none⟩ = some (.bool a0_3) := (blk_cell BK326.out 3).trans rfl; have hcz26_4 : w24.cell? ⟨gb326, 4, none⟩ = some (.int .i64 a0_4) := (blk_cell BK326.out 4).trans rfl; have hcz26_5 : w24.cell? ⟨gb326, 5, none⟩ = some (.int .i64 a0_5) := (blk_cell BK326.out 5).trans rfl; have hcz26_6 : w24.cell? ⟨gb326, 6, none⟩ = some (.int .i64 a0_6) := (blk_cell BK326.out 6).trans rfl; have hcz26_7 : w24.cell? ⟨gb326, 7, none⟩ = some (.bool true) := (blk_cell BK326.out 7).trans rfl; have hfz26_0 := blk_frozen BK326.out 0; have hfz26_1 := blk_frozen BK326.out 1; have hfz26_2 := blk_frozen BK326.out 2; have hfz26_3 := blk_frozen BK326.out 3; have hfz26_4 := blk_frozen BK326.out 4; have hfz26_5 := blk_frozen BK326.out 5; have hfz26_6 := blk_frozen BK326.out 6; have hfz26_7 := blk_frozen BK326.out 7; obtain ⟨Ao27, co27, eo27⟩ := Kd.R_slice HO331.out; subst eo27; have p332 : 0 ≤ ((Go.bits .and .i64 a0_6 1) : Int) := of_decide_eq_true (by first | (with_reducible assumption) | assumption); have q332 : (Go.bits .and .i64 a0_6 1) < (y329.length : Int) := of_decide_eq_true (by first | (with_reducible assumption) | assumption); obtain ⟨ad332, e332, hx332_0⟩ := Kd.at_string (Kd.R_reads' HO331.out).2.2 (Go.bits .and .i64 a0_6 1) p332 q332; cases e332; replace p332 := eq_true p332; replace q332 := eq_true q332))
                    (try simp only [Act.put, List.setIfInBounds_toArray, List.set_cons_zero, List.set_cons_succ])
                    go_cut [3, 4] (fun v3 v4 wc => ∃ (kq : Nat) (x3_21 : ByteArray) (x4_21 : Int), v3 = .string x3_21 ∧ v4 = .int .i64 x4_21 ∧ Aside0 (florinlaw02_Text_Write.j2 kq x3_21 x4_21 a0_0 l0_1 l0_2 a0_3 a0_4 a0_5 a0_6 true = some r) ∧ Aside0 (kq ≤ kj7) ∧ Aside0 (wc.heap[gb326]? = some (.cells #[.bool a0_0, (.slice A0_1 l0_1.length c0_1), (.slice A0_2 l0_2.length c0_2), .bool a0_3, .int .i64 a0_4, .int .i64 a0_5, .int .i64 a0_6, .bool true] 46 (0, 0))) ∧ Aside0 (Below w.heap.size w wc))
                    case first =>
                      have H := HC22.out
                      clear HC22
                      by_cases c28 : a0_4 < 0
                      · rw [if_pos c28] at H
                        have c28b0 : decide (a0_4 < 0) = true := decide_eq_true c28
                        clear c28
                        (first | rw [c28b0] | (simp only [i64_w, i32_w]; rw [c28b0]) | skip)
                        by_cases c29 : (x3_7 ++ (rdOf ByteArray.empty y329 (Go.bits .and .i64 a0_6 1))).size + 1 ≤ 9223372036854775807
                        · rw [if_pos c29] at H
                          have c29b0 := eq_true c29
                          have c29b1 : decide ((x3_7 ++ (rdOf ByteArray.empty y329 (Go.bits .and .i64 a0_6 1))).size + 1 ≤ 9223372036854775807) = true := decide_eq_true c29
                          try (have c29b5 := c29b0; simp only [ByteArray.size_append, Int.natCast_add] at c29b5)
                          try have c29b2 : (9223372036854775807 < (x3_7 ++ (rdOf ByteArray.empty y329 (Go.bits .and .i64 a0_6 1))).size + 1) = False := eq_false (Nat.not_lt.2 c29)
                          try have c29b3 : (9223372036854775807 < x3_7.size + (rdOf ByteArray.empty y329 (Go.bits .and .i64 a0_6 1)).size + 1) = False := eq_false (Nat.not_lt.2 (by have h_ := c29; simp only [ByteArray.size_append] at h_; exact h_))
                          try have c29b4 : (x3_7.size + (rdOf ByteArray.empty y329 (Go.bits .and .i64 a0_6 1)).size + 1 ≤ 9223372036854775807) = True := eq_true (by have h_ := c29; simp only [ByteArray.size_append] at h_; exact h_)
                          have H' := Aside0.mk H
                          clear H
                          go_wp2
                          go_meet
                          case rel => exact ⟨_, ((x3_7 ++ (rdOf ByteArray.empty y329 (Go.bits .and .i64 a0_6 1))) ++ (⟨#[45]⟩ : ByteArray)), (wrap64 (-a0_4)), (by first | rfl | (simp; done) | (simp [*]; done) | (simp; first | exact given_isEmpty _ | exact (given_isEmpty _).symm) | (unfold wrap64; omega) | (congr 1; unfold wrap64; omega)), (by first | rfl | (simp; done) | (simp [*]; done) | (simp; first | exact given_isEmpty _ | exact (given_isEmpty _).symm) | (unfold wrap64; omega) | (congr 1; unfold wrap64; omega)), H', ⟨by have := HJ1.out; have := HJ7.out; first | omega | exact Nat.le_refl _⟩, ⟨by (with_reducible repeat (first | refine blk_drewN ?_ _ | refine blk_drew ?_ | refine blk_alloc ?_ _)); exact BK326.out⟩, ⟨by repeat (first | (with_reducible first | exact HB.out | apply below_alloc | apply pw_below_drewN | apply below_drew1 | refine below_set ?_ GE326.out) | exact HB.out)⟩⟩
                        · rw [if_neg c29] at H
                          exact absurd H (by simp)
                      · rw [if_neg c28] at H
                        have c28b0 : decide (a0_4 < 0) = false := decide_eq_false c28
                        clear c28
                        (first | rw [c28b0] | (simp only [i64_w, i32_w]; rw [c28b0]) | skip)
                        by_cases c30 : (Go.bits .and .i64 a0_5 1) = 1
                        · rw [if_pos c30] at H
                          have c30b0 : ((Go.bits .and .i64 a0_5 1) == 1) = true := beq_iff_eq.mpr c30
                          have c30b1 : ((Go.bits .and .i64 a0_5 1) != 1) = false := bne_eq_false_iff_eq.mpr c30
                          clear c30
                          by_cases c31 : (x3_7 ++ (rdOf ByteArray.empty y329 (Go.bits .and .i64 a0_6 1))).size + 1 ≤ 9223372036854775807
                          · rw [if_pos c31] at H
                            have c31b0 := eq_true c31
                            have c31b1 : decide ((x3_7 ++ (rdOf ByteArray.empty y329 (Go.bits .and .i64 a0_6 1))).size + 1 ≤ 9223372036854775807) = true := decide_eq_true c31
                            try (have c31b5 := c31b0; simp only [ByteArray.size_append, Int.natCast_add] at c31b5)
                            try have c31b2 : (9223372036854775807 < (x3_7 ++ (rdOf ByteArray.empty y329 (Go.bits .and .i64 a0_6 1))).size + 1) = False := eq_false (Nat.not_lt.2 c31)
                            try have c31b3 : (9223372036854775807 < x3_7.size + (rdOf ByteArray.empty y329 (Go.bits .and .i64 a0_6 1)).size + 1) = False := eq_false (Nat.not_lt.2 (by have h_ := c31; simp only [ByteArray.size_append] at h_; exact h_))
                            try have c31b4 : (x3_7.size + (rdOf ByteArray.empty y329 (Go.bits .and .i64 a0_6 1)).size + 1 ≤ 9223372036854775807) = True := eq_true (by have h_ := c31; simp only [ByteArray.size_append] at h_; exact h_)
                            have H' := Aside0.mk H
                            clear H
                            have hcz32_0 : w24.cell? ⟨gb326, 0, none⟩ = some (.bool a0_0) := (blk_cell BK326.out 0).trans rfl
                            have hcz32_1 : w24.cell? ⟨gb326, 1, none⟩ = some (.slice A0_1 l0_1.length c0_1) := (blk_cell BK326.out 1).trans rfl
                            have hcz32_2 : w24.cell? ⟨gb326, 2, none⟩ = some (.slice A0_2 l0_2.length c0_2) := (blk_cell BK326.out 2).trans rfl
                            have hcz32_3 : w24.cell? ⟨gb326, 3, none⟩ = some (.bool a0_3) := (blk_cell BK326.out 3).trans rfl
                            have hcz32_4 : w24.cell? ⟨gb326, 4, none⟩ = some (.int .i64 a0_4) := (blk_cell BK326.out 4).trans rfl
                            have hcz32_5 : w24.cell? ⟨gb326, 5, none⟩ = some (.int .i64 a0_5) := (blk_cell BK326.out 5).trans rfl
                            have hcz32_6 : w24.cell? ⟨gb326, 6, none⟩ = some (.int .i64 a0_6) := (blk_cell BK326.out 6).trans rfl
                            have hcz32_7 : w24.cell? ⟨gb326, 7, none⟩ = some (.bool true) := (blk_cell BK326.out 7).trans rfl
                            have hfz32_0 := blk_frozen BK326.out 0
                            have hfz32_1 := blk_frozen BK326.out 1
                            have hfz32_2 := blk_frozen BK326.out 2
                            have hfz32_3 := blk_frozen BK326.out 3
                            have hfz32_4 := blk_frozen BK326.out 4
                            have hfz32_5 := blk_frozen BK326.out 5
                            have hfz32_6 := blk_frozen BK326.out 6
                            have hfz32_7 := blk_frozen BK326.out 7
                            go_wp2
                            go_meet
                            case rel => exact ⟨_, ((x3_7 ++ (rdOf ByteArray.empty y329 (Go.bits .and .i64 a0_6 1))) ++ (⟨#[43]⟩ : ByteArray)), (a0_4), (by first | rfl | (simp; done) | (simp [*]; done) | (simp; first | exact given_isEmpty _ | exact (given_isEmpty _).symm) | (unfold wrap64; omega) | (congr 1; unfold wrap64; omega)), (by first | rfl | (simp; done) | (simp [*]; done) | (simp; first | exact given_isEmpty _ | exact (given_isEmpty _).symm) | (unfold wrap64; omega) | (congr 1; unfold wrap64; omega)), H', ⟨by have := HJ1.out; have := HJ7.out; first | omega | exact Nat.le_refl _⟩, ⟨by (with_reducible repeat (first | refine blk_drewN ?_ _ | refine blk_drew ?_ | refine blk_alloc ?_ _)); exact BK326.out⟩, ⟨by repeat (first | (with_reducible first | exact HB.out | apply below_alloc | apply pw_below_drewN | apply below_drew1 | refine below_set ?_ GE326.out) | exact HB.out)⟩⟩
                          · rw [if_neg c31] at H
                            exact absurd H (by simp)
                        · rw [if_neg c30] at H
                          have c30b0 : ((Go.bits .and .i64 a0_5 1) == 1) = false := beq_eq_false_iff_ne.mpr c30
                          have c30b1 : ((Go.bits .and .i64 a0_5 1) != 1) = true := bne_iff_ne.mpr c30
                          have H' := Aside0.mk H
                          clear H
                          have hcz33_0 : w24.cell? ⟨gb326, 0, none⟩ = some (.bool a0_0) := (blk_cell BK326.out 0).trans rfl
                          have hcz33_1 : w24.cell? ⟨gb326, 1, none⟩ = some (.slice A0_1 l0_1.length c0_1) := (blk_cell BK326.out 1).trans rfl
                          have hcz33_2 : w24.cell? ⟨gb326, 2, none⟩ = some (.slice A0_2 l0_2.length c0_2) := (blk_cell BK326.out 2).trans rfl
                          have hcz33_3 : w24.cell? ⟨gb326, 3, none⟩ = some (.bool a0_3) := (blk_cell BK326.out 3).trans rfl
                          have hcz33_4 : w24.cell? ⟨gb326, 4, none⟩ = some (.int .i64 a0_4) := (blk_cell BK326.out 4).trans rfl
                          have hcz33_5 : w24.cell? ⟨gb326, 5, none⟩ = some (.int .i64 a0_5) := (blk_cell BK326.out 5).trans rfl
                          have hcz33_6 : w24.cell? ⟨gb326, 6, none⟩ = some (.int .i64 a0_6) := (blk_cell BK326.out 6).trans rfl
                          have hcz33_7 : w24.cell? ⟨gb326, 7, none⟩ = some (.bool true) := (blk_cell BK326.out 7).trans rfl
                          have hfz33_0 := blk_frozen BK326.out 0
                          have hfz33_1 := blk_frozen BK326.out 1
                          have hfz33_2 := blk_frozen BK326.out 2
                          have hfz33_3 := blk_frozen BK326.out 3
                          have hfz33_4 := blk_frozen BK326.out 4
                          have hfz33_5 := blk_frozen BK326.out 5
                          have hfz33_6 := blk_frozen BK326.out 6
                          have hfz33_7 := blk_frozen BK326.out 7
                          go_wp2
                          go_meet
                          case rel => exact ⟨_, (x3_7 ++ (rdOf ByteArray.empty y329 (Go.bits .and .i64 a0_6 1))), (a0_4), (by first | rfl | (simp; done) | (simp [*]; done) | (simp; first | exact given_isEmpty _ | exact (given_isEmpty _).symm) | (unfold wrap64; omega) | (congr 1; unfold wrap64; omega)), (by first | rfl | (simp; done) | (simp [*]; done) | (simp; first | exact given_isEmpty _ | exact (given_isEmpty _).symm) | (unfold wrap64; omega) | (congr 1; unfold wrap64; omega)), H', ⟨by have := HJ1.out; have := HJ7.out; first | omega | exact Nat.le_refl _⟩, ⟨by (with_reducible repeat (first | refine blk_drewN ?_ _ | refine blk_drew ?_ | refine blk_alloc ?_ _)); exact BK326.out⟩, ⟨by repeat (first | (with_reducible first | exact HB.out | apply below_alloc | apply pw_below_drewN | apply below_drew1 | refine below_set ?_ GE326.out) | exact HB.out)⟩⟩
                    case rest =>
                      clear HC22
                      try clear c1
                      try clear c2
                      try clear p2
                      try clear c3
                      try clear p3
                      try clear q3
                      try clear hx3
                      try clear c5
                      try clear p6
                      try clear c7
                      try clear c7b0
                      try clear c7b1
                      try clear c7b2
                      try clear c12
                      try clear c13
                      try clear c13b0
                      try clear c13b1
                      try clear c13b2
                      try clear c15
                      try clear c15b0
                      try clear c15b1
                      try clear c15b2
                      try clear c18
                      try clear c19
                      try clear c19b0
                      try clear c20
                      try clear c20b0
                      try clear c21
                      try clear c21b0
                      try clear c21b1
                      try clear c21b2
                      try clear c26
                      try clear c27
                      try clear c28
                      try clear c28b0
                      try clear c29
                      try clear c29b0
                      try clear c29b1
                      try clear c29b2
                      try clear c30
                      try clear c30b0
                      try clear c30b1
                      try clear c31
                      try clear c31b0
                      try clear c31b1
                      try clear c31b2
                      try clear p33
                      try clear q33
                      try clear hx33
                      try clear hcz11_0
                      try clear hcz11_1
                      try clear hcz11_2
                      try clear hcz11_3
                      try clear hcz11_4
                      try clear hcz11_5
                      try clear hcz11_6
                      try clear hcz11_7
                      try clear hcz16_0
                      try clear hcz16_1
                      try clear hcz16_2
                      try clear hcz16_3
                      try clear hcz16_4
                      try clear hcz16_5
                      try clear hcz16_6
                      try clear hcz16_7
                      try clear hcz23_0
                      try clear hcz23_1
                      try clear hcz23_2
                      try clear hcz23_3
                      try clear hcz23_4
                      try clear hcz23_5
                      try clear hcz23_6
                      try clear hcz23_7
                      try clear hcz26_0
                      try clear hcz26_1
                      try clear hcz26_2
                      try clear hcz26_3
                      try clear hcz26_4
                      try clear hcz26_5
                      try clear hcz26_6
                      try clear hcz26_7
                      try clear hcz32_0
                      try clear hcz32_1
                      try clear hcz32_2
                      try clear hcz32_3
                      try clear hcz32_4
                      try clear hcz32_5
                      try clear hcz32_6
                      try clear hcz32_7
                      try clear hcz33_0
                      try clear hcz33_1
                      try clear hcz33_2
                      try clear hcz33_3
                      try clear hcz33_4
                      try clear hcz33_5
                      try clear hcz33_6
                      try clear hcz33_7
                      try clear hcz4_0
                      try clear hcz4_1
                      try clear hcz4_2
                      try clear hcz4_3
                      try clear hcz4_4
                      try clear hcz4_5
                      try clear hcz4_6
                      try clear hcz4_7
                      try clear hcz9_0
                      try clear hcz9_1
                      try clear hcz9_2
                      try clear hcz9_3
                      try clear hcz9_4
                      try clear hcz9_5
                      try clear hcz9_6
                      try clear hcz9_7
                      try clear hfz11_0
                      try clear hfz11_1
                      try clear hfz11_2
                      try clear hfz11_3
                      try clear hfz11_4
                      try clear hfz11_5
                      try clear hfz11_6
                      try clear hfz11_7
                      try clear hfz16_0
                      try clear hfz16_1
                      try clear hfz16_2
                      try clear hfz16_3
                      try clear hfz16_4
                      try clear hfz16_5
                      try clear hfz16_6
                      try clear hfz16_7
                      try clear hfz23_0
                      try clear hfz23_1
                      try clear hfz23_2
                      try clear hfz23_3
                      try clear hfz23_4
                      try clear hfz23_5
                      try clear hfz23_6
                      try clear hfz23_7
                      try clear hfz26_0
                      try clear hfz26_1
                      try clear hfz26_2
                      try clear hfz26_3
                      try clear hfz26_4
                      try clear hfz26_5
                      try clear hfz26_6
                      try clear hfz26_7
                      try clear hfz32_0
                      try clear hfz32_1
                      try clear hfz32_2
                      try clear hfz32_3
                      try clear hfz32_4
                      try clear hfz32_5
                      try clear hfz32_6
                      try clear hfz32_7
                      try clear hfz33_0
                      try clear hfz33_1
                      try clear hfz33_2
                      try clear hfz33_3
                      try clear hfz33_4
                      try clear hfz33_5
                      try clear hfz33_6
                      try clear hfz33_7
                      try clear hfz4_0
                      try clear hfz4_1
                      try clear hfz4_2
                      try clear hfz4_3
                      try clear hfz4_4
                      try clear hfz4_5
                      try clear hfz4_6
                      try clear hfz4_7
                      try clear hfz9_0
                      try clear hfz9_1
                      try clear hfz9_2
                      try clear hfz9_3
                      try clear hfz9_4
                      try clear hfz9_5
                      try clear hfz9_6
                      try clear hfz9_7
                      try clear hx332_0
                      try clear p2
                      try clear p332
                      try clear p6
                      try clear q332
                      obtain ⟨kq, x3_21, x4_21, rfl, rfl, HA, HJ21, BK326, HB⟩ := hcut
                      cases kq with
                      | zero => exact absurd HA.out (by simp [florinlaw02_Text_Write.j2])
                      | succ kj21 =>
                        have H := HA.out
                        clear HA
                        simp only [florinlaw02_Text_Write.j2] at H
                        have H' := Aside0.mk H
                        clear H
                        go_wp2
                        go_loopg [3, 5] kj21 (fun kq v3 v5 w' => ∃ (x3_4 : ByteArray) (x5_4 : Int), v3 = .string x3_4 ∧ v5 = .int .i64 x5_4 ∧ Aside0 (florinlaw02_Text_Write.l0 kq x3_4 x4_21 x5_4 a0_0 l0_1 l0_2 a0_3 a0_4 a0_5 a0_6 true = some r) ∧ Aside0 (kq ≤ kj21) ∧ Aside0 (w'.heap[gb326]? = some (.cells #[.bool a0_0, (.slice A0_1 l0_1.length c0_1), (.slice A0_2 l0_2.length c0_2), .bool a0_3, .int .i64 a0_4, .int .i64 a0_5, .int .i64 a0_6, .bool true] 46 (0, 0))) ∧ Aside0 (Below w.heap.size w w'))
                        case atStart => exact ⟨(x3_21), (0), (by first | rfl | (simp; done) | (simp [*]; done) | (simp; first | exact given_isEmpty _ | exact (given_isEmpty _).symm) | (unfold wrap64; omega) | (congr 1; unfold wrap64; omega)), (by first | rfl | (simp; done) | (simp [*]; done) | (simp; first | exact given_isEmpty _ | exact (given_isEmpty _).symm) | (unfold wrap64; omega) | (congr 1; unfold wrap64; omega)), H', ⟨Nat.le_refl _⟩, ⟨by (with_reducible repeat (first | refine blk_drewN ?_ _ | refine blk_drew ?_ | refine blk_alloc ?_ _)); exact BK326.out⟩, ⟨by repeat (first | (with_reducible first | exact HB.out | apply below_alloc | apply pw_below_drewN | apply below_drew1 | refine below_set ?_ GE326.out) | exact HB.out)⟩⟩
                        case round =>
                          clear H'
                          try clear c1
                          try clear c2
                          try clear p2
                          try clear c3
                          try clear p3
                          try clear q3
                          try clear hx3
                          try clear c5
                          try clear p6
                          try clear c7
                          try clear c7b0
                          try clear c7b1
                          try clear c7b2
                          try clear c12
                          try clear c13
                          try clear c13b0
                          try clear c13b1
                          try clear c13b2
                          try clear c15
                          try clear c15b0
                          try clear c15b1
                          try clear c15b2
                          try clear c18
                          try clear c19
                          try clear c19b0
                          try clear c20
                          try clear c20b0
                          try clear c21
                          try clear c21b0
                          try clear c21b1
                          try clear c21b2
                          try clear c26
                          try clear c27
                          try clear c28
                          try clear c28b0
                          try clear c29
                          try clear c29b0
                          try clear c29b1
                          try clear c29b2
                          try clear c30
                          try clear c30b0
                          try clear c30b1
                          try clear c31
                          try clear c31b0
                          try clear c31b1
                          try clear c31b2
                          try clear p33
                          try clear q33
                          try clear hx33
                          try clear hcz11_0
                          try clear hcz11_1
                          try clear hcz11_2
                          try clear hcz11_3
                          try clear hcz11_4
                          try clear hcz11_5
                          try clear hcz11_6
                          try clear hcz11_7
                          try clear hcz16_0
                          try clear hcz16_1
                          try clear hcz16_2
                          try clear hcz16_3
                          try clear hcz16_4
                          try clear hcz16_5
                          try clear hcz16_6
                          try clear hcz16_7
                          try clear hcz23_0
                          try clear hcz23_1
                          try clear hcz23_2
                          try clear hcz23_3
                          try clear hcz23_4
                          try clear hcz23_5
                          try clear hcz23_6
                          try clear hcz23_7
                          try clear hcz26_0
                          try clear hcz26_1
                          try clear hcz26_2
                          try clear hcz26_3
                          try clear hcz26_4
                          try clear hcz26_5
                          try clear hcz26_6
                          try clear hcz26_7
                          try clear hcz32_0
                          try clear hcz32_1
                          try clear hcz32_2
                          try clear hcz32_3
                          try clear hcz32_4
                          try clear hcz32_5
                          try clear hcz32_6
                          try clear hcz32_7
                          try clear hcz33_0
                          try clear hcz33_1
                          try clear hcz33_2
                          try clear hcz33_3
                          try clear hcz33_4
                          try clear hcz33_5
                          try clear hcz33_6
                          try clear hcz33_7
                          try clear hcz4_0
                          try clear hcz4_1
                          try clear hcz4_2
                          try clear hcz4_3
                          try clear hcz4_4
                          try clear hcz4_5
                          try clear hcz4_6
                          try clear hcz4_7
                          try clear hcz9_0
                          try clear hcz9_1
                          try clear hcz9_2
                          try clear hcz9_3
                          try clear hcz9_4
                          try clear hcz9_5
                          try clear hcz9_6
                          try clear hcz9_7
                          try clear hfz11_0
                          try clear hfz11_1
                          try clear hfz11_2
                          try clear hfz11_3
                          try clear hfz11_4
                          try clear hfz11_5
                          try clear hfz11_6
                          try clear hfz11_7
                          try clear hfz16_0
                          try clear hfz16_1
                          try clear hfz16_2
                          try clear hfz16_3
                          try clear hfz16_4
                          try clear hfz16_5
                          try clear hfz16_6
                          try clear hfz16_7
                          try clear hfz23_0
                          try clear hfz23_1
                          try clear hfz23_2
                          try clear hfz23_3
                          try clear hfz23_4
                          try clear hfz23_5
                          try clear hfz23_6
                          try clear hfz23_7
                          try clear hfz26_0
                          try clear hfz26_1
                          try clear hfz26_2
                          try clear hfz26_3
                          try clear hfz26_4
                          try clear hfz26_5
                          try clear hfz26_6
                          try clear hfz26_7
                          try clear hfz32_0
                          try clear hfz32_1
                          try clear hfz32_2
                          try clear hfz32_3
                          try clear hfz32_4
                          try clear hfz32_5
                          try clear hfz32_6
                          try clear hfz32_7
                          try clear hfz33_0
                          try clear hfz33_1
                          try clear hfz33_2
                          try clear hfz33_3
                          try clear hfz33_4
                          try clear hfz33_5
                          try clear hfz33_6
                          try clear hfz33_7
                          try clear hfz4_0
                          try clear hfz4_1
                          try clear hfz4_2
                          try clear hfz4_3
                          try clear hfz4_4
                          try clear hfz4_5
                          try clear hfz4_6
                          try clear hfz4_7
                          try clear hfz9_0
                          try clear hfz9_1
                          try clear hfz9_2
                          try clear hfz9_3
                          try clear hfz9_4
                          try clear hfz9_5
                          try clear hfz9_6
                          try clear hfz9_7
                          try clear hx332_0
                          try clear p2
                          try clear p3
                          try clear p33
                          try clear p332
                          try clear p6
                          try clear q3
                          try clear q33
                          try clear q332
                          obtain ⟨x3_4, x5_4, rfl, rfl, HA, HK4, BK326, HB⟩ := hrel
                          cases gk with
                          | zero => exact absurd HA.out (by simp [florinlaw02_Text_Write.l0])
                          | succ k4 =>
                            have H := HA.out
                            clear HA
                            simp only [florinlaw02_Text_Write.l0] at H
                            by_cases c34 : x5_4 < (Go.bits .and .i64 (a0_6 / 2) 3)
                            · rw [if_pos c34] at H
                              have c34b0 : decide (x5_4 < (Go.bits .and .i64 (a0_6 / 2) 3)) = true := decide_eq_true c34
                              clear c34
                              by_cases c35 : x3_4.size + 1 ≤ 9223372036854775807
                              · rw [if_pos c35] at H
                                have c35b0 := eq_true c35
                                have c35b1 : decide (x3_4.size + 1 ≤ 9223372036854775807) = true := decide_eq_true c35
                                try have c35b2 : (9223372036854775807 < x3_4.size + 1) = False := eq_false (Nat.not_lt.2 c35)
                                have H' := Aside0.mk H
                                clear H
                                have hcz36_0 : wr.cell? ⟨gb326, 0, none⟩ = some (.bool a0_0) := (blk_cell BK326.out 0).trans rfl
                                have hcz36_1 : wr.cell? ⟨gb326, 1, none⟩ = some (.slice A0_1 l0_1.length c0_1) := (blk_cell BK326.out 1).trans rfl
                                have hcz36_2 : wr.cell? ⟨gb326, 2, none⟩ = some (.slice A0_2 l0_2.length c0_2) := (blk_cell BK326.out 2).trans rfl
                                have hcz36_3 : wr.cell? ⟨gb326, 3, none⟩ = some (.bool a0_3) := (blk_cell BK326.out 3).trans rfl
                                have hcz36_4 : wr.cell? ⟨gb326, 4, none⟩ = some (.int .i64 a0_4) := (blk_cell BK326.out 4).trans rfl
                                have hcz36_5 : wr.cell? ⟨gb326, 5, none⟩ = some (.int .i64 a0_5) := (blk_cell BK326.out 5).trans rfl
                                have hcz36_6 : wr.cell? ⟨gb326, 6, none⟩ = some (.int .i64 a0_6) := (blk_cell BK326.out 6).trans rfl
                                have hcz36_7 : wr.cell? ⟨gb326, 7, none⟩ = some (.bool true) := (blk_cell BK326.out 7).trans rfl
                                have hfz36_0 := blk_frozen BK326.out 0
                                have hfz36_1 := blk_frozen BK326.out 1
                                have hfz36_2 := blk_frozen BK326.out 2
                                have hfz36_3 := blk_frozen BK326.out 3
                                have hfz36_4 := blk_frozen BK326.out 4
                                have hfz36_5 := blk_frozen BK326.out 5
                                have hfz36_6 := blk_frozen BK326.out 6
                                have hfz36_7 := blk_frozen BK326.out 7
                                go_wp2
                                go_roundg k4
                                case measure => have := HJ1.out; have := HJ7.out; have := HJ21.out; have := HK4.out; omega
                                case rel => exact ⟨(x3_4 ++ (⟨#[48]⟩ : ByteArray)), (wrap64 (x5_4 + 1)), (by first | rfl | (simp; done) | (simp [*]; done) | (simp; first | exact given_isEmpty _ | exact (given_isEmpty _).symm) | (unfold wrap64; omega) | (congr 1; unfold wrap64; omega)), (by first | rfl | (simp; done) | (simp [*]; done) | (simp; first | exact given_isEmpty _ | exact (given_isEmpty _).symm) | (unfold wrap64; omega) | (congr 1; unfold wrap64; omega)), H', ⟨by have := HJ1.out; have := HJ7.out; have := HJ21.out; have := HK4.out; omega⟩, ⟨by (with_reducible repeat (first | refine blk_drewN ?_ _ | refine blk_drew ?_ | refine blk_alloc ?_ _)); exact BK326.out⟩, ⟨by repeat (first | (with_reducible first | exact HB.out | apply below_alloc | apply pw_below_drewN | apply below_drew1 | refine below_set ?_ GE326.out) | exact HB.out)⟩⟩
                              · rw [if_neg c35] at H
                                exact absurd H (by simp)
                            · rw [if_neg c34] at H
                              have c34b0 : decide (x5_4 < (Go.bits .and .i64 (a0_6 / 2) 3)) = false := decide_eq_false c34
                              clear c34
                              replace H := Option.bind_eq_some_iff.mp H
                              obtain ⟨t333, A370, H⟩ := H
                              replace H : (if t333.toList = ([] : List UInt8) then (if x3_4.size + 1 ≤ 9223372036854775807 then (some (x3_4 ++ (⟨#[48]⟩ : ByteArray))) else (none)) else (if x3_4.size + t333.size ≤ 9223372036854775807 then (some (x3_4 ++ t333)) else (none))) = some r := H
                              have A37 := Aside0.mk A370
                              clear A370
                              by_cases c38 : t333.toList = ([] : List UInt8)
                              · rw [if_pos c38] at H
                                have c38b0 : (t333.toList == ([] : List UInt8)) = true := beq_iff_eq.mpr c38
                                have c38b1 : (t333.toList != ([] : List UInt8)) = false := bne_eq_false_iff_eq.mpr c38
                                have c38b2 : (t333.toList.isEmpty) = true := by rw [c38]; rfl
                                clear c38
                                by_cases c39 : x3_4.size + 1 ≤ 9223372036854775807
                                · rw [if_pos c39] at H
                                  have c39b0 := eq_true c39
                                  have c39b1 : decide (x3_4.size + 1 ≤ 9223372036854775807) = true := decide_eq_true c39
                                  try have c39b2 : (9223372036854775807 < x3_4.size + 1) = False := eq_false (Nat.not_lt.2 c39)
                                  obtain rfl := Option.some.inj H
                                  have hcz40_0 : wr.cell? ⟨gb326, 0, none⟩ = some (.bool a0_0) := (blk_cell BK326.out 0).trans rfl
                                  have hcz40_1 : wr.cell? ⟨gb326, 1, none⟩ = some (.slice A0_1 l0_1.length c0_1) := (blk_cell BK326.out 1).trans rfl
                                  have hcz40_2 : wr.cell? ⟨gb326, 2, none⟩ = some (.slice A0_2 l0_2.length c0_2) := (blk_cell BK326.out 2).trans rfl
                                  have hcz40_3 : wr.cell? ⟨gb326, 3, none⟩ = some (.bool a0_3) := (blk_cell BK326.out 3).trans rfl
                                  have hcz40_4 : wr.cell? ⟨gb326, 4, none⟩ = some (.int .i64 a0_4) := (blk_cell BK326.out 4).trans rfl
                                  have hcz40_5 : wr.cell? ⟨gb326, 5, none⟩ = some (.int .i64 a0_5) := (blk_cell BK326.out 5).trans rfl
                                  have hcz40_6 : wr.cell? ⟨gb326, 6, none⟩ = some (.int .i64 a0_6) := (blk_cell BK326.out 6).trans rfl
                                  have hcz40_7 : wr.cell? ⟨gb326, 7, none⟩ = some (.bool true) := (blk_cell BK326.out 7).trans rfl
                                  have hfz40_0 := blk_frozen BK326.out 0
                                  have hfz40_1 := blk_frozen BK326.out 1
                                  have hfz40_2 := blk_frozen BK326.out 2
                                  have hfz40_3 := blk_frozen BK326.out 3
                                  have hfz40_4 := blk_frozen BK326.out 4
                                  have hfz40_5 := blk_frozen BK326.out 5
                                  have hfz40_6 := blk_frozen BK326.out 6
                                  have hfz40_7 := blk_frozen BK326.out 7
                                  go_wp2_with (first | ((with_reducible refine gate_callee (f := 28) rfl ?_); refine goesL_ (some 59) rfl rfl Tryd.func28 (by kernel_rfl) rfl #[.int .i64 x4_21] rfl (by (try simp only [List.map_toArray, List.map_cons, List.map_nil]); first | done | rfl | (simp only [List.length_drop, List.length_take]; rfl) | (have z_ : ∀ s_ : ByteArray, s_.size ≤ 9223372036854775807 → -(s_.size : Int) = wrap64 (-(s_.size : Int)) := (fun s_ h_ => by unfold wrap64; omega); rw [← z_ _ (by omega)]; rfl)) ?_; (with_reducible refine (num_Of.calls k4 x4_21 t333 _ A37.out).mono ?_); rintro e w41 ⟨rfl, hb⟩; refine ⟨_, rfl, ?_⟩; have n0_ := bb_ BK326 hb; have n1_ := Aside0.mk (below_step (by repeat (first | (with_reducible first | exact HB.out | apply below_alloc | apply pw_below_drewN | apply below_drew1 | refine below_set ?_ GE326.out) | exact HB.out)) hb); clear BK326; clear HB; have BK326 := n0_; have HB := n1_; clear n0_ n1_; (try clear hb); (try clear hb2); (try clear hk); (try clear hi)))
                                  go_ret
                                  exact ⟨by first | rfl | (simp [errW_none, errW_some] <;> rfl) | (simp [*, errW_none, errW_some] <;> first | rfl | exact given_isEmpty _ | exact (given_isEmpty _).symm), by repeat (first | (with_reducible first | exact HB.out | apply below_alloc | apply pw_below_drewN | apply below_drew1 | refine below_set ?_ GE326.out) | exact HB.out)⟩
                                · rw [if_neg c39] at H
                                  exact absurd H (by simp)
                              · rw [if_neg c38] at H
                                have c38b0 : (t333.toList == ([] : List UInt8)) = false := beq_eq_false_iff_ne.mpr c38
                                have c38b1 : (t333.toList != ([] : List UInt8)) = true := bne_iff_ne.mpr c38
                                have c38b2 : (t333.toList.isEmpty) = false := by rw [given_isEmpty, bne_iff_ne.mpr c38]; rfl
                                by_cases c42 : x3_4.size + t333.size ≤ 9223372036854775807
                                · rw [if_pos c42] at H
                                  have c42b0 := eq_true c42
                                  have c42b1 : decide (x3_4.size + t333.size ≤ 9223372036854775807) = true := decide_eq_true c42
                                  try have c42b2 : (9223372036854775807 < x3_4.size + t333.size) = False := eq_false (Nat.not_lt.2 c42)
                                  obtain rfl := Option.some.inj H
                                  have hcz43_0 : wr.cell? ⟨gb326, 0, none⟩ = some (.bool a0_0) := (blk_cell BK326.out 0).trans rfl
                                  have hcz43_1 : wr.cell? ⟨gb326, 1, none⟩ = some (.slice A0_1 l0_1.length c0_1) := (blk_cell BK326.out 1).trans rfl
                                  have hcz43_2 : wr.cell? ⟨gb326, 2, none⟩ = some (.slice A0_2 l0_2.length c0_2) := (blk_cell BK326.out 2).trans rfl
                                  have hcz43_3 : wr.cell? ⟨gb326, 3, none⟩ = some (.bool a0_3) := (blk_cell BK326.out 3).trans rfl
                                  have hcz43_4 : wr.cell? ⟨gb326, 4, none⟩ = some (.int .i64 a0_4) := (blk_cell BK326.out 4).trans rfl
                                  have hcz43_5 : wr.cell? ⟨gb326, 5, none⟩ = some (.int .i64 a0_5) := (blk_cell BK326.out 5).trans rfl
                                  have hcz43_6 : wr.cell? ⟨gb326, 6, none⟩ = some (.int .i64 a0_6) := (blk_cell BK326.out 6).trans rfl
                                  have hcz43_7 : wr.cell? ⟨gb326, 7, none⟩ = some (.bool true) := (blk_cell BK326.out 7).trans rfl
                                  have hfz43_0 := blk_frozen BK326.out 0
                                  have hfz43_1 := blk_frozen BK326.out 1
                                  have hfz43_2 := blk_frozen BK326.out 2
                                  have hfz43_3 := blk_frozen BK326.out 3
                                  have hfz43_4 := blk_frozen BK326.out 4
                                  have hfz43_5 := blk_frozen BK326.out 5
                                  have hfz43_6 := blk_frozen BK326.out 6
                                  have hfz43_7 := blk_frozen BK326.out 7
                                  go_wp2_with (first | ((with_reducible refine gate_callee (f := 28) rfl ?_); refine goesL_ (some 59) rfl rfl Tryd.func28 (by kernel_rfl) rfl #[.int .i64 x4_21] rfl (by (try simp only [List.map_toArray, List.map_cons, List.map_nil]); first | done | rfl | (simp only [List.length_drop, List.length_take]; rfl) | (have z_ : ∀ s_ : ByteArray, s_.size ≤ 9223372036854775807 → -(s_.size : Int) = wrap64 (-(s_.size : Int)) := (fun s_ h_ => by unfold wrap64; omega); rw [← z_ _ (by omega)]; rfl)) ?_; (with_reducible refine (num_Of.calls k4 x4_21 t333 _ A37.out).mono ?_); rintro e w44 ⟨rfl, hb⟩; refine ⟨_, rfl, ?_⟩; have n0_ := bb_ BK326 hb; have n1_ := Aside0.mk (below_step (by repeat (first | (with_reducible first | exact HB.out | apply below_alloc | apply pw_below_drewN | apply below_drew1 | refine below_set ?_ GE326.out) | exact HB.out)) hb); clear BK326; clear HB; have BK326 := n0_; have HB := n1_; clear n0_ n1_; (try clear hb); (try clear hb2); (try clear hk); (try clear hi)))
                                  go_ret
                                  exact ⟨by first | rfl | (simp [errW_none, errW_some] <;> rfl) | (simp [*, errW_none, errW_some] <;> first | rfl | exact given_isEmpty _ | exact (given_isEmpty _).symm), by repeat (first | (with_reducible first | exact HB.out | apply below_alloc | apply pw_below_drewN | apply below_drew1 | refine below_set ?_ GE326.out) | exact HB.out)⟩
                                · rw [if_neg c42] at H
                                  exact absurd H (by simp)
                  · rw [if_neg c21] at H
                    exact absurd H (by simp)
                · rw [if_neg c20] at H
                  exact absurd H (by simp)
              · rw [if_neg c19] at H
                exact absurd H (by simp)
            · replace c18 := Bool.eq_false_iff.mpr c18
              subst c18
              have H1 : (some x3_7) = some r := by rw [if_neg (show ¬ (false = true) by decide)] at H; exact H
              clear H
              have H := H1
              clear H1
              obtain rfl := Option.some.inj H
              have hcz45_0 : wc.cell? ⟨gb326, 0, none⟩ = some (.bool a0_0) := (blk_cell BK326.out 0).trans rfl
              have hcz45_1 : wc.cell? ⟨gb326, 1, none⟩ = some (.slice A0_1 l0_1.length c0_1) := (blk_cell BK326.out 1).trans rfl
              have hcz45_2 : wc.cell? ⟨gb326, 2, none⟩ = some (.slice A0_2 l0_2.length c0_2) := (blk_cell BK326.out 2).trans rfl
              have hcz45_3 : wc.cell? ⟨gb326, 3, none⟩ = some (.bool a0_3) := (blk_cell BK326.out 3).trans rfl
              have hcz45_4 : wc.cell? ⟨gb326, 4, none⟩ = some (.int .i64 a0_4) := (blk_cell BK326.out 4).trans rfl
              have hcz45_5 : wc.cell? ⟨gb326, 5, none⟩ = some (.int .i64 a0_5) := (blk_cell BK326.out 5).trans rfl
              have hcz45_6 : wc.cell? ⟨gb326, 6, none⟩ = some (.int .i64 a0_6) := (blk_cell BK326.out 6).trans rfl
              have hcz45_7 : wc.cell? ⟨gb326, 7, none⟩ = some (.bool false) := (blk_cell BK326.out 7).trans rfl
              have hfz45_0 := blk_frozen BK326.out 0
              have hfz45_1 := blk_frozen BK326.out 1
              have hfz45_2 := blk_frozen BK326.out 2
              have hfz45_3 := blk_frozen BK326.out 3
              have hfz45_4 := blk_frozen BK326.out 4
              have hfz45_5 := blk_frozen BK326.out 5
              have hfz45_6 := blk_frozen BK326.out 6
              have hfz45_7 := blk_frozen BK326.out 7
              go_wp2
              go_ret
              exact ⟨by first | rfl | (simp [errW_none, errW_some] <;> rfl) | (simp [*, errW_none, errW_some] <;> first | rfl | exact given_isEmpty _ | exact (given_isEmpty _).symm), by repeat (first | (with_reducible first | exact HB.out | apply below_alloc | apply pw_below_drewN | apply below_drew1 | refine below_set ?_ GE326.out) | exact HB.out)⟩
      · rw [if_neg c7] at H
        exact absurd H (by simp)

end Go.Proofs.YtlkiaeipbekpkaaDoor.P
