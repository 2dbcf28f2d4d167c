-- written by a program of this session (wip/p2)
import Derived.Test.YtlkiaeipbekpkaaDoorPx0
import Derived.Test.YtlkiaeipbekpkaaDoorPx3
import Derived.Test.YtlkiaeipbekpkaaDoorPx4
import Derived.Test.YtlkiaeipbekpkaaDoorPx9
import Derived.Test.YtlkiaeipbekpkaaDoorPx11
import Derived.Test.YtlkiaeipbekpkaaDoorPx15
namespace Go.Proofs.YtlkiaeipbekpkaaDoor.P
open Go.RowKit Go.Proofs.YtlkiaeipbekpkaaDoorW.PrintWords Go.Proofs.YtlkiaeipbekpkaaDoorW.PrintLast Go.Proofs.YtlkiaeipbekpkaaDoorW.PrintMore
attribute [local go_sem] max2_int min2_int max_two min_two max_three min_three max_four min_four   -- for this text's walks alone
set_option linter.unusedVariables false
set_option linter.unusedSimpArgs false

/-! ### florinlaw02_DecTexts: function 7 -/
mutual
def florinlaw02_DecTexts.j0 : Nat → ByteArray → Bool → List Int → Int → Bool → ByteArray → Int → Option (Bool)
  | 0, _, _, _, _, _, _, _ => none
  | k + 1, x4, x351000, x351001, x351002, x360000, x360001, x360002 => if x360000 = true then (if 1 + x4.size ≤ 9223372036854775807 then (florinlaw02_DecTexts.j1 k ((⟨#[45]⟩ : ByteArray) ++ x4) x351000 x351001 x351002 x360000 x360001 x360002) else (none)) else (florinlaw02_DecTexts.j1 k x4 x351000 x351001 x351002 x360000 x360001 x360002)
def florinlaw02_DecTexts.j1 : Nat → ByteArray → Bool → List Int → Int → Bool → ByteArray → Int → Option (Bool)
  | 0, _, _, _, _, _, _, _ => none
  | k + 1, x4, x351000, x351001, x351002, x360000, x360001, x360002 => if x360002 > 0 then (if x4.size + 1 ≤ 9223372036854775807 then ((num_Of.f k x360002).bind fun t361 => (if (x4 ++ (⟨#[101]⟩ : ByteArray)).size + t361.size ≤ 9223372036854775807 then (florinlaw02_DecTexts.j2 k ((x4 ++ (⟨#[101]⟩ : ByteArray)) ++ t361) x351000 x351001 x351002 x360000 x360001 x360002) else (none))) else (none)) else (florinlaw02_DecTexts.j2 k x4 x351000 x351001 x351002 x360000 x360001 x360002)
def florinlaw02_DecTexts.j2 : Nat → ByteArray → Bool → List Int → Int → Bool → ByteArray → Int → Option (Bool)
  | 0, _, _, _, _, _, _, _ => none
  | k + 1, x4, x351000, x351001, x351002, x360000, x360001, x360002 => if x360002 < 0 then (if x4.size + 2 ≤ 9223372036854775807 then ((num_Of.f k (wrap64 (-x360002))).bind fun t362 => (if (x4 ++ (⟨#[101, 45]⟩ : ByteArray)).size + t362.size ≤ 9223372036854775807 then ((florinlaw02_Raw_Make.f k x351000 x351001 x351002).bind fun bt363 => ((dec_Dec_String.f k bt363.1 bt363.2.1 bt363.2.2).bind fun t366 => (some (t366.toList == ((x4 ++ (⟨#[101, 45]⟩ : ByteArray)) ++ t362).toList)))) else (none))) else (none)) else ((florinlaw02_Raw_Make.f k x351000 x351001 x351002).bind fun bt367 => ((dec_Dec_String.f k bt367.1 bt367.2.1 bt367.2.2).bind fun t370 => (some (t370.toList == x4.toList))))
end
def florinlaw02_DecTexts.f (k : Nat) (a0_0 : Bool) (l0_1 : List Int) (a0_2 : Int) : Option (Bool) := (florinlaw02_head.f k).bind fun t351 => (if t351 = true then ((florinlaw02_Raw_Few.f a0_0 l0_1 a0_2 60).bind fun t352 => (if t352 = true then ((florinlaw02_Raw_Make.f k a0_0 l0_1 a0_2).bind fun bt353 => ((dec_Dec_Norm.f k bt353.1 bt353.2.1 bt353.2.2).bind fun bt356 => ((dec_Dec_Zero.f k bt356.1 bt356.2.1 bt356.2.2).bind fun t360 => (if t360 = true then (florinlaw02_DecTexts.j0 k (⟨#[48]⟩ : ByteArray) a0_0 l0_1 a0_2 bt356.1 bt356.2.1 bt356.2.2) else (florinlaw02_DecTexts.j0 k bt356.2.1 a0_0 l0_1 a0_2 bt356.1 bt356.2.1 bt356.2.2))))) else (some true))) else (some false))
theorem florinlaw02_DecTexts.mono_l : ∀ k, (∀ y0 y1 y2 y3 y4 y5 y6, LeO (florinlaw02_DecTexts.j0 k y0 y1 y2 y3 y4 y5 y6) (florinlaw02_DecTexts.j0 (k + 1) y0 y1 y2 y3 y4 y5 y6)) ∧ (∀ y0 y1 y2 y3 y4 y5 y6, LeO (florinlaw02_DecTexts.j1 k y0 y1 y2 y3 y4 y5 y6) (florinlaw02_DecTexts.j1 (k + 1) y0 y1 y2 y3 y4 y5 y6)) ∧ (∀ y0 y1 y2 y3 y4 y5 y6, LeO (florinlaw02_DecTexts.j2 k y0 y1 y2 y3 y4 y5 y6) (florinlaw02_DecTexts.j2 (k + 1) y0 y1 y2 y3 y4 y5 y6))
  | 0 => ⟨fun _ _ _ _ _ _ _ r h => by simp [florinlaw02_DecTexts.j0] at h, fun _ _ _ _ _ _ _ r h => by simp [florinlaw02_DecTexts.j1] at h, fun _ _ _ _ _ _ _ r h => by simp [florinlaw02_DecTexts.j2] at h⟩
  | k + 1 => by
    obtain ⟨ih0, ih1, ih2⟩ := florinlaw02_DecTexts.mono_l k
    refine ⟨?_, ?_, ?_⟩
    · intro y0 y1 y2 y3 y4 y5 y6
      unfold florinlaw02_DecTexts.j0
      repeat' first
      | (with_reducible exact ih0 _ _ _ _ _ _ _)
      | (with_reducible exact ih1 _ _ _ _ _ _ _)
      | (with_reducible exact ih2 _ _ _ _ _ _ _)
      | (with_reducible exact dec_Dec_Norm.mono _ _ _ _)
      | (with_reducible exact dec_Dec_String.mono _ _ _ _)
      | (with_reducible exact dec_Dec_Zero.mono _ _ _ _)
      | (with_reducible exact florinlaw02_Raw_Make.mono _ _ _ _)
      | (with_reducible exact florinlaw02_head.mono _)
      | (with_reducible exact num_Of.mono _ _)
      | (with_reducible exact LeO.refl _)
      | (with_reducible exact LeO.none _)
      | (with_reducible refine LeO.ite ?_ ?_)
      | (with_reducible refine LeO.bind ?_ (fun _ => ?_))
      | exact ih0 _ _ _ _ _ _ _
      | exact ih1 _ _ _ _ _ _ _
      | exact ih2 _ _ _ _ _ _ _
      | exact dec_Dec_Norm.mono _ _ _ _
      | exact dec_Dec_String.mono _ _ _ _
      | exact dec_Dec_Zero.mono _ _ _ _
      | exact florinlaw02_Raw_Make.mono _ _ _ _
      | exact florinlaw02_head.mono _
      | exact num_Of.mono _ _
      | exact LeO.none _
      | refine LeO.ite ?_ ?_
      | refine LeO.bind ?_ (fun _ => ?_)
    · intro y0 y1 y2 y3 y4 y5 y6
      unfold florinlaw02_DecTexts.j1
      repeat' first
      | (with_reducible exact ih0 _ _ _ _ _ _ _)
      | (with_reducible exact ih1 _ _ _ _ _ _ _)
      | (with_reducible exact ih2 _ _ _ _ _ _ _)
      | (with_reducible exact dec_Dec_Norm.mono _ _ _ _)
      | (with_reducible exact dec_Dec_String.mono _ _ _ _)
      | (with_reducible exact dec_Dec_Zero.mono _ _ _ _)
      | (with_reducible exact florinlaw02_Raw_Make.mono _ _ _ _)
      | (with_reducible exact florinlaw02_head.mono _)
      | (with_reducible exact num_Of.mono _ _)
      | (with_reducible exact LeO.refl _)
      | (with_reducible exact LeO.none _)
      | (with_reducible refine LeO.ite ?_ ?_)
      | (with_reducible refine LeO.bind ?_ (fun _ => ?_))
      | exact ih0 _ _ _ _ _ _ _
      | exact ih1 _ _ _ _ _ _ _
      | exact ih2 _ _ _ _ _ _ _
      | exact dec_Dec_Norm.mono _ _ _ _
      | exact dec_Dec_String.mono _ _ _ _
      | exact dec_Dec_Zero.mono _ _ _ _
      | exact florinlaw02_Raw_Make.mono _ _ _ _
      | exact florinlaw02_head.mono _
      | exact num_Of.mono _ _
      | exact LeO.none _
      | refine LeO.ite ?_ ?_
      | refine LeO.bind ?_ (fun _ => ?_)
    · intro y0 y1 y2 y3 y4 y5 y6
      unfold florinlaw02_DecTexts.j2
      repeat' first
      | (with_reducible exact ih0 _ _ _ _ _ _ _)
      | (with_reducible exact ih1 _ _ _ _ _ _ _)
      | (with_reducible exact ih2 _ _ _ _ _ _ _)
      | (with_reducible exact dec_Dec_Norm.mono _ _ _ _)
      | (with_reducible exact dec_Dec_String.mono _ _ _ _)
      | (with_reducible exact dec_Dec_Zero.mono _ _ _ _)
      | (with_reducible exact florinlaw02_Raw_Make.mono _ _ _ _)
      | (with_reducible exact florinlaw02_head.mono _)
      | (with_reducible exact num_Of.mono _ _)
      | (with_reducible exact LeO.refl _)
      | (with_reducible exact LeO.none _)
      | (with_reducible refine LeO.ite ?_ ?_)
      | (with_reducible refine LeO.bind ?_ (fun _ => ?_))
      | exact ih0 _ _ _ _ _ _ _
      | exact ih1 _ _ _ _ _ _ _
      | exact ih2 _ _ _ _ _ _ _
      | exact dec_Dec_Norm.mono _ _ _ _
      | exact dec_Dec_String.mono _ _ _ _
      | exact dec_Dec_Zero.mono _ _ _ _
      | exact florinlaw02_Raw_Make.mono _ _ _ _
      | exact florinlaw02_head.mono _
      | exact num_Of.mono _ _
      | exact LeO.none _
      | refine LeO.ite ?_ ?_
      | refine LeO.bind ?_ (fun _ => ?_)
theorem florinlaw02_DecTexts.mono : ∀ a0 a1 a2 k, LeO (florinlaw02_DecTexts.f k a0 a1 a2) (florinlaw02_DecTexts.f (k + 1) a0 a1 a2) := by
  intro a0 a1 a2 k
  obtain ⟨ih0, ih1, ih2⟩ := florinlaw02_DecTexts.mono_l k
  unfold florinlaw02_DecTexts.f
  repeat' first
      | (with_reducible exact ih0 _ _ _ _ _ _ _)
      | (with_reducible exact ih1 _ _ _ _ _ _ _)
      | (with_reducible exact ih2 _ _ _ _ _ _ _)
      | (with_reducible exact dec_Dec_Norm.mono _ _ _ _)
      | (with_reducible exact dec_Dec_String.mono _ _ _ _)
      | (with_reducible exact dec_Dec_Zero.mono _ _ _ _)
      | (with_reducible exact florinlaw02_Raw_Make.mono _ _ _ _)
      | (with_reducible exact florinlaw02_head.mono _)
      | (with_reducible exact num_Of.mono _ _)
      | (with_reducible exact LeO.refl _)
      | (with_reducible exact LeO.none _)
      | (with_reducible refine LeO.ite ?_ ?_)
      | (with_reducible refine LeO.bind ?_ (fun _ => ?_))
      | exact ih0 _ _ _ _ _ _ _
      | exact ih1 _ _ _ _ _ _ _
      | exact ih2 _ _ _ _ _ _ _
      | exact dec_Dec_Norm.mono _ _ _ _
      | exact dec_Dec_String.mono _ _ _ _
      | exact dec_Dec_Zero.mono _ _ _ _
      | exact florinlaw02_Raw_Make.mono _ _ _ _
      | exact florinlaw02_head.mono _
      | exact num_Of.mono _ _
      | exact LeO.none _
      | refine LeO.ite ?_ ?_
      | refine LeO.bind ?_ (fun _ => ?_)
set_option maxHeartbeats 8000000 in
set_option maxRecDepth 100000 in
theorem florinlaw02_DecTexts.calls (k : Nat) (a0_0 : Bool) (A0_1 : Option Addr) (c0_1 : Nat) (l0_1 : List Int) (a0_2 : Int) (r : Bool) (w : World) (hr0_1 : Kd.C (Kd.int .u8) w A0_1 l0_1.length l0_1) (hc0_1 : l0_1.length ≤ c0_1) (h : florinlaw02_DecTexts.f k a0_0 l0_1 a0_2 = some r) (ht : Lib.TabIs Tryd.prog w "internal/strconv.uint64pow10" .u64 Lib.pow10Tab := by first | assumption | exact tb_ (by assumption) (bl_ (by assumption)).out) :
    Calls Tryd.prog 7 #[.agg #[.bool a0_0, .slice A0_1 l0_1.length c0_1, .int .i64 a0_2]] w fun e w' => e = .returned (.bool r) ∧ Below w.heap.size w w' := by
  have hu33 := Tryd.underlying33
  have hu24 := Tryd.underlying24
  have HR0_1 := Aside0.mk hr0_1
  have HC0_1 := Aside0.mk hc0_1
  clear hr0_1 hc0_1
  have HB := Aside0.mk (Below.refl w.heap.size w)
  have H : ((florinlaw02_head.f k).bind fun t351 => (if t351 = true then ((florinlaw02_Raw_Few.f a0_0 l0_1 a0_2 60).bind fun t352 => (if t352 = true then ((florinlaw02_Raw_Make.f k a0_0 l0_1 a0_2).bind fun bt353 => ((dec_Dec_Norm.f k bt353.1 bt353.2.1 bt353.2.2).bind fun bt356 => ((dec_Dec_Zero.f k bt356.1 bt356.2.1 bt356.2.2).bind fun t360 => (if t360 = true then (florinlaw02_DecTexts.j0 k (⟨#[48]⟩ : ByteArray) a0_0 l0_1 a0_2 bt356.1 bt356.2.1 bt356.2.2) else (florinlaw02_DecTexts.j0 k bt356.2.1 a0_0 l0_1 a0_2 bt356.1 bt356.2.1 bt356.2.2))))) else (some true))) else (some false))) = some r := h
  clear h
  replace H := Option.bind_eq_some_iff.mp H
  obtain ⟨t351, A20, H⟩ := H
  replace H : (if t351 = true then ((florinlaw02_Raw_Few.f a0_0 l0_1 a0_2 60).bind fun t352 => (if t352 = true then ((florinlaw02_Raw_Make.f k a0_0 l0_1 a0_2).bind fun bt353 => ((dec_Dec_Norm.f k bt353.1 bt353.2.1 bt353.2.2).bind fun bt356 => ((dec_Dec_Zero.f k bt356.1 bt356.2.1 bt356.2.2).bind fun t360 => (if t360 = true then (florinlaw02_DecTexts.j0 k (⟨#[48]⟩ : ByteArray) a0_0 l0_1 a0_2 bt356.1 bt356.2.1 bt356.2.2) else (florinlaw02_DecTexts.j0 k bt356.2.1 a0_0 l0_1 a0_2 bt356.1 bt356.2.1 bt356.2.2))))) else (some true))) else (some false)) = some r := H
  have A2 := Aside0.mk A20
  clear A20
  by_cases c3 : t351 = true
  · subst c3
    have H1 : ((florinlaw02_Raw_Few.f a0_0 l0_1 a0_2 60).bind fun t352 => (if t352 = true then ((florinlaw02_Raw_Make.f k a0_0 l0_1 a0_2).bind fun bt353 => ((dec_Dec_Norm.f k bt353.1 bt353.2.1 bt353.2.2).bind fun bt356 => ((dec_Dec_Zero.f k bt356.1 bt356.2.1 bt356.2.2).bind fun t360 => (if t360 = true then (florinlaw02_DecTexts.j0 k (⟨#[48]⟩ : ByteArray) a0_0 l0_1 a0_2 bt356.1 bt356.2.1 bt356.2.2) else (florinlaw02_DecTexts.j0 k bt356.2.1 a0_0 l0_1 a0_2 bt356.1 bt356.2.1 bt356.2.2))))) else (some true))) = some r := by rw [if_pos rfl] at H; exact H
    clear H
    have H := H1
    clear H1
    replace H := Option.bind_eq_some_iff.mp H
    obtain ⟨t352, A40, H⟩ := H
    replace H : (if t352 = true then ((florinlaw02_Raw_Make.f k a0_0 l0_1 a0_2).bind fun bt353 => ((dec_Dec_Norm.f k bt353.1 bt353.2.1 bt353.2.2).bind fun bt356 => ((dec_Dec_Zero.f k bt356.1 bt356.2.1 bt356.2.2).bind fun t360 => (if t360 = true then (florinlaw02_DecTexts.j0 k (⟨#[48]⟩ : ByteArray) a0_0 l0_1 a0_2 bt356.1 bt356.2.1 bt356.2.2) else (florinlaw02_DecTexts.j0 k bt356.2.1 a0_0 l0_1 a0_2 bt356.1 bt356.2.1 bt356.2.2))))) else (some true)) = some r := H
    have A4 := Aside0.mk A40
    clear A40
    by_cases c5 : t352 = true
    · subst c5
      have H1 : ((florinlaw02_Raw_Make.f k a0_0 l0_1 a0_2).bind fun bt353 => ((dec_Dec_Norm.f k bt353.1 bt353.2.1 bt353.2.2).bind fun bt356 => ((dec_Dec_Zero.f k bt356.1 bt356.2.1 bt356.2.2).bind fun t360 => (if t360 = true then (florinlaw02_DecTexts.j0 k (⟨#[48]⟩ : ByteArray) a0_0 l0_1 a0_2 bt356.1 bt356.2.1 bt356.2.2) else (florinlaw02_DecTexts.j0 k bt356.2.1 a0_0 l0_1 a0_2 bt356.1 bt356.2.1 bt356.2.2))))) = some r := by rw [if_pos rfl] at H; exact H
      clear H
      have H := H1
      clear H1
      replace H := Option.bind_eq_some_iff.mp H
      obtain ⟨⟨t353, t354, t355⟩, A60, H⟩ := H
      replace H : ((dec_Dec_Norm.f k t353 t354 t355).bind fun bt356 => ((dec_Dec_Zero.f k bt356.1 bt356.2.1 bt356.2.2).bind fun t360 => (if t360 = true then (florinlaw02_DecTexts.j0 k (⟨#[48]⟩ : ByteArray) a0_0 l0_1 a0_2 bt356.1 bt356.2.1 bt356.2.2) else (florinlaw02_DecTexts.j0 k bt356.2.1 a0_0 l0_1 a0_2 bt356.1 bt356.2.1 bt356.2.2)))) = some r := H
      have A6 := Aside0.mk A60
      clear A60
      replace H := Option.bind_eq_some_iff.mp H
      obtain ⟨⟨t356, t357, t358⟩, A70, H⟩ := H
      replace H : ((dec_Dec_Zero.f k t356 t357 t358).bind fun t360 => (if t360 = true then (florinlaw02_DecTexts.j0 k (⟨#[48]⟩ : ByteArray) a0_0 l0_1 a0_2 t356 t357 t358) else (florinlaw02_DecTexts.j0 k t357 a0_0 l0_1 a0_2 t356 t357 t358))) = some r := H
      have A7 := Aside0.mk A70
      clear A70
      replace H := Option.bind_eq_some_iff.mp H
      obtain ⟨t360, A80, H⟩ := H
      replace H : (if t360 = true then (florinlaw02_DecTexts.j0 k (⟨#[48]⟩ : ByteArray) a0_0 l0_1 a0_2 t356 t357 t358) else (florinlaw02_DecTexts.j0 k t357 a0_0 l0_1 a0_2 t356 t357 t358)) = some r := H
      have A8 := Aside0.mk A80
      clear A80
      have HC9 := Aside0.mk H
      clear H
      go_enter Tryd.func7, Tryd.ntmps7
      go_upto_if 16 with (first | ((with_reducible refine gate_dst (N := 1) rfl ?_); refine box_event ?hg (N := 1) ?hd (cs := #[.bool a0_0, .slice A0_1 l0_1.length c0_1, .int .i64 a0_2]) (t := 33) ?hr ?_; (case hd => rfl); (case hg => rfl); (case hr => first | (go_simp; done) | (go_simp; rfl)); intro gb350 hg w10 hbox hb; have n0_ := Aside0.mk (below_step (bl_ HB).out hb); have n1_ := Aside0.mk (hbox); have n2_ := Aside0.mk ((by rw [hg]; exact (below_size (bl_ HB).out) : w.heap.size ≤ gb350)); have n3_ := Aside0.mk ((by rw [hg]; exact (below_size (bl_ HB).out) : w.heap.size ≤ gb350)); clear HB; have HB := n0_; have BK350 := n1_; have GW350 := n2_; have GE350 := n3_; clear n0_ n1_ n2_ n3_; clear hb hbox hg) | ((with_reducible refine gate_callee (f := 11) rfl ?_); refine goesL_ (some 5) rfl rfl Tryd.func11 (by kernel_rfl) rfl #[] rfl (by (try simp only [List.map_toArray, List.map_cons, List.map_nil]); first | done | rfl | (simp only [List.length_drop, List.length_take]; rfl) | (have z_ : ∀ s_ : ByteArray, s_.size ≤ 9223372036854775807 → -(s_.size : Int) = wrap64 (-(s_.size : Int)) := (fun s_ h_ => by unfold wrap64; omega); rw [← z_ _ (by omega)]; rfl)) ?_; (with_reducible refine (florinlaw02_head.calls k  true _ A2.out).mono ?_); rintro e w11 ⟨rfl, hb⟩; refine ⟨_, rfl, ?_⟩; have n0_ := bb_ BK350 hb; have n1_ := Aside0.mk (below_step (bl_ HB).out hb); clear BK350; clear HB; have BK350 := n0_; have HB := n1_; clear n0_ n1_; (try clear hb); (try clear hb2); (try clear hk); (try clear hi); have hcz12_0 : w11.cell? ⟨gb350, 0, none⟩ = some (.bool a0_0) := (blk_cell BK350.out 0).trans rfl; have hcz12_1 : w11.cell? ⟨gb350, 1, none⟩ = some (.slice A0_1 l0_1.length c0_1) := (blk_cell BK350.out 1).trans rfl; have hcz12_2 : w11.cell? ⟨gb350, 2, none⟩ = some (.int .i64 a0_2) := (blk_cell BK350.out 2).trans rfl; have hfz12_0 := blk_frozen BK350.out 0; have hfz12_1 := blk_frozen BK350.out 1; have hfz12_2 := blk_frozen BK350.out 2) | ((with_reducible refine gate_callee (f := 17) rfl ?_); refine goesL_ (some 8) rfl rfl Tryd.func17 (by kernel_rfl) rfl #[.agg #[.bool a0_0, .slice A0_1 l0_1.length c0_1, .int .i64 a0_2], .int .i64 60] rfl (by (try simp only [List.map_toArray, List.map_cons, List.map_nil]); first | done | rfl | (simp only [List.length_drop, List.length_take]; rfl) | (have z_ : ∀ s_ : ByteArray, s_.size ≤ 9223372036854775807 → -(s_.size : Int) = wrap64 (-(s_.size : Int)) := (fun s_ h_ => by unfold wrap64; omega); rw [← z_ _ (by omega)]; rfl)) ?_; (with_reducible refine (florinlaw02_Raw_Few.calls a0_0 _ _ l0_1 a0_2 60 true _ ?side1 ?side2 A4.out).mono ?_); (case side1 => repeat (first | exact (Kd.C_below HR0_1.out HB.out) | (with_reducible refine Kd.C_alloc ?_ _) | (with_reducible refine Kd.C_drewN ?_ _) | (with_reducible refine Kd.C_drew ?_))); (case side2 => exact HC0_1.out); rintro e w13 ⟨rfl, hb⟩; refine ⟨_, rfl, ?_⟩; have n0_ := bb_ BK350 hb; have n1_ := Aside0.mk (below_step (bl_ HB).out hb); clear BK350; clear HB; have BK350 := n0_; have HB := n1_; clear n0_ n1_; (try clear hb); (try clear hb2); (try clear hk); (try clear hi); have hcz14_0 : w13.cell? ⟨gb350, 0, none⟩ = some (.bool a0_0) := (blk_cell BK350.out 0).trans rfl; have hcz14_1 : w13.cell? ⟨gb350, 1, none⟩ = some (.slice A0_1 l0_1.length c0_1) := (blk_cell BK350.out 1).trans rfl; have hcz14_2 : w13.cell? ⟨gb350, 2, none⟩ = some (.int .i64 a0_2) := (blk_cell BK350.out 2).trans rfl; have hfz14_0 := blk_frozen BK350.out 0; have hfz14_1 := blk_frozen BK350.out 1; have hfz14_2 := blk_frozen BK350.out 2) | ((with_reducible refine gate_callee (f := 18) rfl ?_); refine goesL_ (some 11) rfl rfl Tryd.func18 (by kernel_rfl) rfl #[.agg #[.bool a0_0, .slice A0_1 l0_1.length c0_1, .int .i64 a0_2]] rfl (by (try simp only [List.map_toArray, List.map_cons, List.map_nil]); first | done | rfl | (simp only [List.length_drop, List.length_take]; rfl) | (have z_ : ∀ s_ : ByteArray, s_.size ≤ 9223372036854775807 → -(s_.size : Int) = wrap64 (-(s_.size : Int)) := (fun s_ h_ => by unfold wrap64; omega); rw [← z_ _ (by omega)]; rfl)) ?_; (with_reducible refine (florinlaw02_Raw_Make.calls k a0_0 _ _ l0_1 a0_2 t353 t354 t355 _ ?side1 ?side2 A6.out).mono ?_); (case side1 => repeat (first | exact (Kd.C_below HR0_1.out HB.out) | (with_reducible refine Kd.C_alloc ?_ _) | (with_reducible refine Kd.C_drewN ?_ _) | (with_reducible refine Kd.C_drew ?_))); (case side2 => exact HC0_1.out); rintro e w15 ⟨rfl, hb⟩; refine ⟨_, rfl, ?_⟩; have n0_ := bb_ BK350 hb; have n1_ := Aside0.mk (below_step (bl_ HB).out hb); clear BK350; clear HB; have BK350 := n0_; have HB := n1_; clear n0_ n1_; (try clear hb); (try clear hb2); (try clear hk); (try clear hi)) | ((with_reducible refine gate_callee (f := 19) rfl ?_); refine goesL_ (some 12) rfl rfl Tryd.func19 (by kernel_rfl) rfl #[.agg #[.bool t353, .string t354, .int .i64 t355]] rfl (by (try simp only [List.map_toArray, List.map_cons, List.map_nil]); first | done | rfl | (simp only [List.length_drop, List.length_take]; rfl) | (have z_ : ∀ s_ : ByteArray, s_.size ≤ 9223372036854775807 → -(s_.size : Int) = wrap64 (-(s_.size : Int)) := (fun s_ h_ => by unfold wrap64; omega); rw [← z_ _ (by omega)]; rfl)) ?_; (with_reducible refine (dec_Dec_Norm.calls k t353 t354 t355 t356 t357 t358 _ A7.out).mono ?_); rintro e w16 ⟨rfl, hb⟩; refine ⟨_, rfl, ?_⟩; have n0_ := bb_ BK350 hb; have n1_ := Aside0.mk (below_step (bl_ HB).out hb); clear BK350; clear HB; have BK350 := n0_; have HB := n1_; clear n0_ n1_; (try clear hb); (try clear hb2); (try clear hk); (try clear hi)) | ((with_reducible refine gate_dst (N := 3) rfl ?_); refine box_event ?hg (N := 3) ?hd (cs := #[.bool false, .string (⟨#[]⟩ : ByteArray), .int .i64 0]) (t := 24) ?hr ?_; (case hd => rfl); (case hg => rfl); (case hr => first | (go_simp; done) | (go_simp; rfl)); intro gb359 hg w17 hbox hb; have n0_ := bb_ BK350 hb; have n1_ := Aside0.mk (below_step (bl_ HB).out hb); have n2_ := Aside0.mk (hbox); have n3_ := Aside0.mk ((by rw [hg]; exact (below_size (bl_ HB).out) : w.heap.size ≤ gb359)); have n4_ := Aside0.mk ((by rw [hg]; exact (below_size (bl_ HB).out) : w.heap.size ≤ gb359)); have n5_ := Aside0.mk ((by rw [hg]; exact Nat.ne_of_lt (blk_lt (g := gb350) (o := .cells #[.bool a0_0, .slice A0_1 l0_1.length c0_1, .int .i64 a0_2] 33 (0, 0)) (by (with_reducible repeat (first | refine blk_drewN ?_ _ | refine blk_drew ?_ | refine blk_alloc ?_ _)); exact BK350.out)) : gb350 ≠ gb359)); have n6_ := Aside0.mk ((by rw [hg]; exact Nat.ne_of_gt (blk_lt (g := gb350) (o := .cells #[.bool a0_0, .slice A0_1 l0_1.length c0_1, .int .i64 a0_2] 33 (0, 0)) (by (with_reducible repeat (first | refine blk_drewN ?_ _ | refine blk_drew ?_ | refine blk_alloc ?_ _)); exact BK350.out)) : gb359 ≠ gb350)); clear BK350; clear HB; have BK350 := n0_; have HB := n1_; have BK359 := n2_; have GW359 := n3_; have GE359 := n4_; have NB350_359 := n5_; have NB359_350 := n6_; clear n0_ n1_ n2_ n3_ n4_ n5_ n6_; clear hb hbox hg; have hnb18 := NB359_350.out; have hnc18 := NB350_359.out; have hcz19_0 : w17.cell? ⟨gb359, 0, none⟩ = some (.bool false) := (blk_cell BK359.out 0).trans rfl; have hcz19_1 : w17.cell? ⟨gb359, 1, none⟩ = some (.string (⟨#[]⟩ : ByteArray)) := (blk_cell BK359.out 1).trans rfl; have hcz19_2 : w17.cell? ⟨gb359, 2, none⟩ = some (.int .i64 0) := (blk_cell BK359.out 2).trans rfl; have hfz19_0 := blk_frozen BK359.out 0; have hfz19_1 := blk_frozen BK359.out 1; have hfz19_2 := blk_frozen BK359.out 2) | ((with_reducible refine gate_callee (f := 24) rfl ?_); refine goesL_ (some 16) rfl rfl Tryd.func24 (by kernel_rfl) rfl #[.agg #[.bool t356, .string t357, .int .i64 t358]] rfl (by (try simp only [List.map_toArray, List.map_cons, List.map_nil]); first | done | rfl | (simp only [List.length_drop, List.length_take]; rfl) | (have z_ : ∀ s_ : ByteArray, s_.size ≤ 9223372036854775807 → -(s_.size : Int) = wrap64 (-(s_.size : Int)) := (fun s_ h_ => by unfold wrap64; omega); rw [← z_ _ (by omega)]; rfl)) ?_; (with_reducible refine (dec_Dec_Zero.calls k t356 t357 t358 t360 _ A8.out).mono ?_); rintro e w20 ⟨rfl, hb⟩; refine ⟨_, rfl, ?_⟩; have n0_ := Aside0.mk (blk_below (g := gb350) (o := .cells #[.bool a0_0, .slice A0_1 l0_1.length c0_1, .int .i64 a0_2] 33 (0, 0)) (by (with_reducible repeat (first | refine blk_drewN ?_ _ | refine blk_drew ?_ | refine blk_alloc ?_ _)); refine blk_far ?_ NB350_359.out _; (with_reducible repeat (first | refine blk_drewN ?_ _ | refine blk_drew ?_ | refine blk_alloc ?_ _)); refine blk_far ?_ NB350_359.out _; (with_reducible repeat (first | refine blk_drewN ?_ _ | refine blk_drew ?_ | refine blk_alloc ?_ _)); refine blk_far ?_ NB350_359.out _; (with_reducible repeat (first | refine blk_drewN ?_ _ | refine blk_drew ?_ | refine blk_alloc ?_ _)); exact BK350.out) hb); have n1_ := Aside0.mk (blk_below (g := gb359) (o := .cells #[.bool t356, .string t357, .int .i64 t358] 24 (0, 0)) (by (with_reducible repeat (first | refine blk_drewN ?_ _ | refine blk_drew ?_ | refine blk_alloc ?_ _)); refine blk_put (cs := #[.bool t356, .string t357, .int .i64 0]) ?_ 2 _ rfl; (with_reducible repeat (first | refine blk_drewN ?_ _ | refine blk_drew ?_ | refine blk_alloc ?_ _)); refine blk_put (cs := #[.bool t356, .string (⟨#[]⟩ : ByteArray), .int .i64 0]) ?_ 1 _ rfl; (with_reducible repeat (first | refine blk_drewN ?_ _ | refine blk_drew ?_ | refine blk_alloc ?_ _)); refine blk_put (cs := #[.bool false, .string (⟨#[]⟩ : ByteArray), .int .i64 0]) ?_ 0 _ rfl; (with_reducible repeat (first | refine blk_drewN ?_ _ | refine blk_drew ?_ | refine blk_alloc ?_ _)); exact BK359.out) hb); have n2_ := Aside0.mk (below_step (bl_ HB).out hb); clear BK350; clear BK359; clear HB; have BK350 := n0_; have BK359 := n1_; have HB := n2_; clear n0_ n1_ n2_; (try clear hb); (try clear hb2); (try clear hk); (try clear hi)))
      (try simp only [Act.put, List.setIfInBounds_toArray, List.set_cons_zero, List.set_cons_succ])
      go_cut [4] (fun v4 wc => ∃ (kq : Nat) (x4_8 : ByteArray), v4 = .string x4_8 ∧ Aside0 (florinlaw02_DecTexts.j0 kq x4_8 a0_0 l0_1 a0_2 t356 t357 t358 = some r) ∧ Aside0 (kq ≤ k) ∧ Aside0 (wc.heap[gb350]? = some (.cells #[.bool a0_0, (.slice A0_1 l0_1.length c0_1), .int .i64 a0_2] 33 (0, 0))) ∧ Aside0 (wc.heap[gb359]? = some (.cells #[.bool t356, .string t357, .int .i64 t358] 24 (0, 0))) ∧ Aside0 (Below w.heap.size w wc))
      case first =>
        have H := HC9.out
        clear HC9
        by_cases c21 : t360 = true
        · subst c21
          have H1 : (florinlaw02_DecTexts.j0 k (⟨#[48]⟩ : ByteArray) a0_0 l0_1 a0_2 t356 t357 t358) = some r := by rw [if_pos rfl] at H; exact H
          clear H
          have H := H1
          clear H1
          have H' := Aside0.mk H
          clear H
          go_wp2
          go_meet
          case rel => exact ⟨_, ((⟨#[48]⟩ : ByteArray)), eq_, H', ⟨by first | omega | exact Nat.le_refl _⟩, (bk_ BK350), (bk_ BK359), (bl_ HB)⟩
        · replace c21 := Bool.eq_false_iff.mpr c21
          subst c21
          have H1 : (florinlaw02_DecTexts.j0 k t357 a0_0 l0_1 a0_2 t356 t357 t358) = some r := by rw [if_neg (show ¬ (false = true) by decide)] at H; exact H
          clear H
          have H := H1
          clear H1
          have H' := Aside0.mk H
          clear H
          go_wp2
          go_meet
          case rel => exact ⟨_, (t357), eq_, H', ⟨by first | omega | exact Nat.le_refl _⟩, (bk_ BK350), (bk_ BK359), (bl_ HB)⟩
      case rest =>
        clear HC9
        try clear c1
        try clear c2
        try clear p2
        try clear c3
        try clear c5
        try clear p6
        try clear c7
        try clear c11
        try clear c17
        try clear c18
        try clear c19
        try clear c21
        try clear hcz12_0
        try clear hcz12_1
        try clear hcz12_2
        try clear hcz14_0
        try clear hcz14_1
        try clear hcz14_2
        try clear hcz19_0
        try clear hcz19_1
        try clear hcz19_2
        try clear hfz12_0
        try clear hfz12_1
        try clear hfz12_2
        try clear hfz14_0
        try clear hfz14_1
        try clear hfz14_2
        try clear hfz19_0
        try clear hfz19_1
        try clear hfz19_2
        obtain ⟨kq, x4_8, rfl, HA, HJ8, BK350, BK359, HB⟩ := hcut
        cases kq with
        | zero => exact absurd HA.out (by simp [florinlaw02_DecTexts.j0])
        | succ kj8 =>
          have H := HA.out
          clear HA
          simp only [florinlaw02_DecTexts.j0] at H
          have HC22 := Aside0.mk H
          clear H
          have hnb23 := NB359_350.out
          have hnc23 := NB350_359.out
          have hcz24_0 : wc.cell? ⟨gb359, 0, none⟩ = some (.bool t356) := (blk_cell BK359.out 0).trans rfl
          have hcz24_1 : wc.cell? ⟨gb359, 1, none⟩ = some (.string t357) := (blk_cell BK359.out 1).trans rfl
          have hcz24_2 : wc.cell? ⟨gb359, 2, none⟩ = some (.int .i64 t358) := (blk_cell BK359.out 2).trans rfl
          have hfz24_0 := blk_frozen BK359.out 0
          have hfz24_1 := blk_frozen BK359.out 1
          have hfz24_2 := blk_frozen BK359.out 2
          go_upto_if 18 with (fail)
          go_cut [4] (fun v4 wc => ∃ (kq : Nat) (x4_21 : ByteArray), v4 = .string x4_21 ∧ Aside0 (florinlaw02_DecTexts.j1 kq x4_21 a0_0 l0_1 a0_2 t356 t357 t358 = some r) ∧ Aside0 (kq ≤ kj8) ∧ Aside0 (wc.heap[gb350]? = some (.cells #[.bool a0_0, (.slice A0_1 l0_1.length c0_1), .int .i64 a0_2] 33 (0, 0))) ∧ Aside0 (wc.heap[gb359]? = some (.cells #[.bool t356, .string t357, .int .i64 t358] 24 (0, 0))) ∧ Aside0 (Below w.heap.size w wc))
          case first =>
            have H := HC22.out
            clear HC22
            by_cases c25 : t356 = true
            · subst c25
              have H1 : (if 1 + x4_8.size ≤ 9223372036854775807 then (florinlaw02_DecTexts.j1 kj8 ((⟨#[45]⟩ : ByteArray) ++ x4_8) a0_0 l0_1 a0_2 true t357 t358) else (none)) = some r := by rw [if_pos rfl] at H; exact H
              clear H
              have H := H1
              clear H1
              by_cases c26 : 1 + x4_8.size ≤ 9223372036854775807
              · rw [if_pos c26] at H
                have c26b0 := eq_true c26
                have c26b1 : decide (1 + x4_8.size ≤ 9223372036854775807) = true := decide_eq_true c26
                try have c26b2 : (9223372036854775807 < 1 + x4_8.size) = False := eq_false (Nat.not_lt.2 c26)
                have H' := Aside0.mk H
                clear H
                go_wp2
                go_meet
                case rel => exact ⟨_, ((⟨#[45]⟩ : ByteArray) ++ x4_8), eq_, H', ⟨by have := HJ8.out; first | omega | exact Nat.le_refl _⟩, (bk_ BK350), (bk_ BK359), (bl_ HB)⟩
              · rw [if_neg c26] at H
                exact absurd H (by simp)
            · replace c25 := Bool.eq_false_iff.mpr c25
              subst c25
              have H1 : (florinlaw02_DecTexts.j1 kj8 x4_8 a0_0 l0_1 a0_2 false t357 t358) = some r := by rw [if_neg (show ¬ (false = true) by decide)] at H; exact H
              clear H
              have H := H1
              clear H1
              have H' := Aside0.mk H
              clear H
              go_wp2
              go_meet
              case rel => exact ⟨_, (x4_8), eq_, H', ⟨by have := HJ8.out; first | omega | exact Nat.le_refl _⟩, (bk_ BK350), (bk_ BK359), (bl_ HB)⟩
          case rest =>
            clear HC22
            try clear c1
            try clear c2
            try clear p2
            try clear c3
            try clear c5
            try clear p6
            try clear c7
            try clear c11
            try clear c17
            try clear c18
            try clear c19
            try clear c21
            try clear c23
            try clear c24
            try clear c25
            try clear c26
            try clear c26b0
            try clear c26b1
            try clear c26b2
            try clear hcz12_0
            try clear hcz12_1
            try clear hcz12_2
            try clear hcz14_0
            try clear hcz14_1
            try clear hcz14_2
            try clear hcz19_0
            try clear hcz19_1
            try clear hcz19_2
            try clear hcz24_0
            try clear hcz24_1
            try clear hcz24_2
            try clear hfz12_0
            try clear hfz12_1
            try clear hfz12_2
            try clear hfz14_0
            try clear hfz14_1
            try clear hfz14_2
            try clear hfz19_0
            try clear hfz19_1
            try clear hfz19_2
            try clear hfz24_0
            try clear hfz24_1
            try clear hfz24_2
            try clear p2
            try clear p6
            obtain ⟨kq, x4_21, rfl, HA, HJ21, BK350, BK359, HB⟩ := hcut
            cases kq with
            | zero => exact absurd HA.out (by simp [florinlaw02_DecTexts.j1])
            | succ kj21 =>
              have H := HA.out
              clear HA
              simp only [florinlaw02_DecTexts.j1] at H
              have HC27 := Aside0.mk H
              clear H
              have hnb28 := NB359_350.out
              have hnc28 := NB350_359.out
              have hcz29_0 : wc.cell? ⟨gb359, 0, none⟩ = some (.bool t356) := (blk_cell BK359.out 0).trans rfl
              have hcz29_1 : wc.cell? ⟨gb359, 1, none⟩ = some (.string t357) := (blk_cell BK359.out 1).trans rfl
              have hcz29_2 : wc.cell? ⟨gb359, 2, none⟩ = some (.int .i64 t358) := (blk_cell BK359.out 2).trans rfl
              have hfz29_0 := blk_frozen BK359.out 0
              have hfz29_1 := blk_frozen BK359.out 1
              have hfz29_2 := blk_frozen BK359.out 2
              go_upto_if 23 with (fail)
              go_cut [4] (fun v4 wc => ∃ (kq : Nat) (x4_26 : ByteArray), v4 = .string x4_26 ∧ Aside0 (florinlaw02_DecTexts.j2 kq x4_26 a0_0 l0_1 a0_2 t356 t357 t358 = some r) ∧ Aside0 (kq ≤ kj21) ∧ Aside0 (wc.heap[gb350]? = some (.cells #[.bool a0_0, (.slice A0_1 l0_1.length c0_1), .int .i64 a0_2] 33 (0, 0))) ∧ Aside0 (wc.heap[gb359]? = some (.cells #[.bool t356, .string t357, .int .i64 t358] 24 (0, 0))) ∧ Aside0 (Below w.heap.size w wc))
              case first =>
                have H := HC27.out
                clear HC27
                by_cases c30 : t358 > 0
                · rw [if_pos c30] at H
                  have c30b0 : decide (0 < t358) = true := decide_eq_true c30
                  clear c30
                  (first | rw [c30b0] | (simp only [i64_w, i32_w]; rw [c30b0]) | skip)
                  by_cases c31 : x4_21.size + 1 ≤ 9223372036854775807
                  · rw [if_pos c31] at H
                    have c31b0 := eq_true c31
                    have c31b1 : decide (x4_21.size + 1 ≤ 9223372036854775807) = true := decide_eq_true c31
                    try have c31b2 : (9223372036854775807 < x4_21.size + 1) = False := eq_false (Nat.not_lt.2 c31)
                    replace H := Option.bind_eq_some_iff.mp H
                    obtain ⟨t361, A320, H⟩ := H
                    replace H : (if (x4_21 ++ (⟨#[101]⟩ : ByteArray)).size + t361.size ≤ 9223372036854775807 then (florinlaw02_DecTexts.j2 kj21 ((x4_21 ++ (⟨#[101]⟩ : ByteArray)) ++ t361) a0_0 l0_1 a0_2 t356 t357 t358) else (none)) = some r := H
                    have A32 := Aside0.mk A320
                    clear A320
                    by_cases c33 : (x4_21 ++ (⟨#[101]⟩ : ByteArray)).size + t361.size ≤ 9223372036854775807
                    · rw [if_pos c33] at H
                      have c33b0 := eq_true c33
                      have c33b1 : decide ((x4_21 ++ (⟨#[101]⟩ : ByteArray)).size + t361.size ≤ 9223372036854775807) = true := decide_eq_true c33
                      try (have c33b5 := c33b0; simp only [ByteArray.size_append, Int.natCast_add] at c33b5)
                      try have c33b2 : (9223372036854775807 < (x4_21 ++ (⟨#[101]⟩ : ByteArray)).size + t361.size) = False := eq_false (Nat.not_lt.2 c33)
                      try have c33b3 : (9223372036854775807 < x4_21.size + 1 + t361.size) = False := eq_false (Nat.not_lt.2 (by have h_ := c33; simp only [ByteArray.size_append] at h_; exact h_))
                      try have c33b4 : (x4_21.size + 1 + t361.size ≤ 9223372036854775807) = True := eq_true (by have h_ := c33; simp only [ByteArray.size_append] at h_; exact h_)
                      have H' := Aside0.mk H
                      clear H
                      have hnb34 := NB359_350.out
                      have hnc34 := NB350_359.out
                      have hcz35_0 : wc.cell? ⟨gb359, 0, none⟩ = some (.bool t356) := (blk_cell BK359.out 0).trans rfl
                      have hcz35_1 : wc.cell? ⟨gb359, 1, none⟩ = some (.string t357) := (blk_cell BK359.out 1).trans rfl
                      have hcz35_2 : wc.cell? ⟨gb359, 2, none⟩ = some (.int .i64 t358) := (blk_cell BK359.out 2).trans rfl
                      have hfz35_0 := blk_frozen BK359.out 0
                      have hfz35_1 := blk_frozen BK359.out 1
                      have hfz35_2 := blk_frozen BK359.out 2
                      go_wp2_with (first | ((with_reducible refine gate_callee (f := 28) rfl ?_); refine goesL_ (some 28) rfl rfl Tryd.func28 (by kernel_rfl) rfl #[.int .i64 t358] rfl (by (try simp only [List.map_toArray, List.map_cons, List.map_nil]); first | done | rfl | (simp only [List.length_drop, List.length_take]; rfl) | (have z_ : ∀ s_ : ByteArray, s_.size ≤ 9223372036854775807 → -(s_.size : Int) = wrap64 (-(s_.size : Int)) := (fun s_ h_ => by unfold wrap64; omega); rw [← z_ _ (by omega)]; rfl)) ?_; (with_reducible refine (num_Of.calls kj21 t358 t361 _ A32.out).mono ?_); rintro e w36 ⟨rfl, hb⟩; refine ⟨_, rfl, ?_⟩; have n0_ := bb_ BK350 hb; have n1_ := bb_ BK359 hb; have n2_ := Aside0.mk (below_step (bl_ HB).out hb); clear BK350; clear BK359; clear HB; have BK350 := n0_; have BK359 := n1_; have HB := n2_; clear n0_ n1_ n2_; (try clear hb); (try clear hb2); (try clear hk); (try clear hi)))
                      go_meet
                      case rel => exact ⟨_, ((x4_21 ++ (⟨#[101]⟩ : ByteArray)) ++ t361), eq_, H', ⟨by have := HJ8.out; have := HJ21.out; first | omega | exact Nat.le_refl _⟩, (bk_ BK350), (bk_ BK359), (bl_ HB)⟩
                    · rw [if_neg c33] at H
                      exact absurd H (by simp)
                  · rw [if_neg c31] at H
                    exact absurd H (by simp)
                · rw [if_neg c30] at H
                  have c30b0 : decide (0 < t358) = false := decide_eq_false c30
                  clear c30
                  (first | rw [c30b0] | (simp only [i64_w, i32_w]; rw [c30b0]) | skip)
                  have H' := Aside0.mk H
                  clear H
                  go_wp2
                  go_meet
                  case rel => exact ⟨_, (x4_21), eq_, H', ⟨by have := HJ8.out; have := HJ21.out; first | omega | exact Nat.le_refl _⟩, (bk_ BK350), (bk_ BK359), (bl_ HB)⟩
              case rest =>
                clear HC27
                try clear c1
                try clear c2
                try clear p2
                try clear c3
                try clear c5
                try clear p6
                try clear c7
                try clear c11
                try clear c17
                try clear c18
                try clear c19
                try clear c21
                try clear c23
                try clear c24
                try clear c25
                try clear c26
                try clear c26b0
                try clear c26b1
                try clear c26b2
                try clear c28
                try clear c30
                try clear c30b0
                try clear c31
                try clear c31b0
                try clear c31b1
                try clear c31b2
                try clear c33
                try clear c33b0
                try clear c33b1
                try clear c33b2
                try clear c34
                try clear hcz12_0
                try clear hcz12_1
                try clear hcz12_2
                try clear hcz14_0
                try clear hcz14_1
                try clear hcz14_2
                try clear hcz19_0
                try clear hcz19_1
                try clear hcz19_2
                try clear hcz24_0
                try clear hcz24_1
                try clear hcz24_2
                try clear hcz29_0
                try clear hcz29_1
                try clear hcz29_2
                try clear hcz35_0
                try clear hcz35_1
                try clear hcz35_2
                try clear hfz12_0
                try clear hfz12_1
                try clear hfz12_2
                try clear hfz14_0
                try clear hfz14_1
                try clear hfz14_2
                try clear hfz19_0
                try clear hfz19_1
                try clear hfz19_2
                try clear hfz24_0
                try clear hfz24_1
                try clear hfz24_2
                try clear hfz29_0
                try clear hfz29_1
                try clear hfz29_2
                try clear hfz35_0
                try clear hfz35_1
                try clear hfz35_2
                try clear p2
                try clear p6
                obtain ⟨kq, x4_26, rfl, HA, HJ26, BK350, BK359, HB⟩ := hcut
                cases kq with
                | zero => exact absurd HA.out (by simp [florinlaw02_DecTexts.j2])
                | succ kj26 =>
                  have H := HA.out
                  clear HA
                  simp only [florinlaw02_DecTexts.j2] at H
                  by_cases c37 : t358 < 0
                  · rw [if_pos c37] at H
                    have c37b0 : decide (t358 < 0) = true := decide_eq_true c37
                    clear c37
                    by_cases c38 : x4_26.size + 2 ≤ 9223372036854775807
                    · rw [if_pos c38] at H
                      have c38b0 := eq_true c38
                      have c38b1 : decide (x4_26.size + 2 ≤ 9223372036854775807) = true := decide_eq_true c38
                      try have c38b2 : (9223372036854775807 < x4_26.size + 2) = False := eq_false (Nat.not_lt.2 c38)
                      replace H := Option.bind_eq_some_iff.mp H
                      obtain ⟨t362, A390, H⟩ := H
                      replace H : (if (x4_26 ++ (⟨#[101, 45]⟩ : ByteArray)).size + t362.size ≤ 9223372036854775807 then ((florinlaw02_Raw_Make.f kj26 a0_0 l0_1 a0_2).bind fun bt363 => ((dec_Dec_String.f kj26 bt363.1 bt363.2.1 bt363.2.2).bind fun t366 => (some (t366.toList == ((x4_26 ++ (⟨#[101, 45]⟩ : ByteArray)) ++ t362).toList)))) else (none)) = some r := H
                      have A39 := Aside0.mk A390
                      clear A390
                      by_cases c40 : (x4_26 ++ (⟨#[101, 45]⟩ : ByteArray)).size + t362.size ≤ 9223372036854775807
                      · rw [if_pos c40] at H
                        have c40b0 := eq_true c40
                        have c40b1 : decide ((x4_26 ++ (⟨#[101, 45]⟩ : ByteArray)).size + t362.size ≤ 9223372036854775807) = true := decide_eq_true c40
                        try (have c40b5 := c40b0; simp only [ByteArray.size_append, Int.natCast_add] at c40b5)
                        try have c40b2 : (9223372036854775807 < (x4_26 ++ (⟨#[101, 45]⟩ : ByteArray)).size + t362.size) = False := eq_false (Nat.not_lt.2 c40)
                        try have c40b3 : (9223372036854775807 < x4_26.size + 2 + t362.size) = False := eq_false (Nat.not_lt.2 (by have h_ := c40; simp only [ByteArray.size_append] at h_; exact h_))
                        try have c40b4 : (x4_26.size + 2 + t362.size ≤ 9223372036854775807) = True := eq_true (by have h_ := c40; simp only [ByteArray.size_append] at h_; exact h_)
                        replace H := Option.bind_eq_some_iff.mp H
                        obtain ⟨⟨t363, t364, t365⟩, A410, H⟩ := H
                        replace H : ((dec_Dec_String.f kj26 t363 t364 t365).bind fun t366 => (some (t366.toList == ((x4_26 ++ (⟨#[101, 45]⟩ : ByteArray)) ++ t362).toList))) = some r := H
                        have A41 := Aside0.mk A410
                        clear A410
                        replace H := Option.bind_eq_some_iff.mp H
                        obtain ⟨t366, A420, H⟩ := H
                        replace H : (some (t366.toList == ((x4_26 ++ (⟨#[101, 45]⟩ : ByteArray)) ++ t362).toList)) = some r := H
                        have A42 := Aside0.mk A420
                        clear A420
                        obtain rfl := Option.some.inj H
                        have hnb43 := NB359_350.out
                        have hnc43 := NB350_359.out
                        have hcz44_0 : wc.cell? ⟨gb359, 0, none⟩ = some (.bool t356) := (blk_cell BK359.out 0).trans rfl
                        have hcz44_1 : wc.cell? ⟨gb359, 1, none⟩ = some (.string t357) := (blk_cell BK359.out 1).trans rfl
                        have hcz44_2 : wc.cell? ⟨gb359, 2, none⟩ = some (.int .i64 t358) := (blk_cell BK359.out 2).trans rfl
                        have hfz44_0 := blk_frozen BK359.out 0
                        have hfz44_1 := blk_frozen BK359.out 1
                        have hfz44_2 := blk_frozen BK359.out 2
                        go_wp2_with (first | ((with_reducible refine gate_callee (f := 28) rfl ?_); refine goesL_ (some 38) rfl rfl Tryd.func28 (by kernel_rfl) rfl #[.int .i64 (wrap64 (-t358))] rfl (by (try simp only [List.map_toArray, List.map_cons, List.map_nil]); first | done | rfl | (simp only [List.length_drop, List.length_take]; rfl) | (have z_ : ∀ s_ : ByteArray, s_.size ≤ 9223372036854775807 → -(s_.size : Int) = wrap64 (-(s_.size : Int)) := (fun s_ h_ => by unfold wrap64; omega); rw [← z_ _ (by omega)]; rfl)) ?_; (with_reducible refine (num_Of.calls kj26 (wrap64 (-t358)) t362 _ A39.out).mono ?_); rintro e w45 ⟨rfl, hb⟩; refine ⟨_, rfl, ?_⟩; have n0_ := bb_ BK350 hb; have n1_ := bb_ BK359 hb; have n2_ := Aside0.mk (below_step (bl_ HB).out hb); clear BK350; clear BK359; clear HB; have BK350 := n0_; have BK359 := n1_; have HB := n2_; clear n0_ n1_ n2_; (try clear hb); (try clear hb2); (try clear hk); (try clear hi); have hcz46_0 : w45.cell? ⟨gb350, 0, none⟩ = some (.bool a0_0) := (blk_cell BK350.out 0).trans rfl; have hcz46_1 : w45.cell? ⟨gb350, 1, none⟩ = some (.slice A0_1 l0_1.length c0_1) := (blk_cell BK350.out 1).trans rfl; have hcz46_2 : w45.cell? ⟨gb350, 2, none⟩ = some (.int .i64 a0_2) := (blk_cell BK350.out 2).trans rfl; have hfz46_0 := blk_frozen BK350.out 0; have hfz46_1 := blk_frozen BK350.out 1; have hfz46_2 := blk_frozen BK350.out 2) | ((with_reducible refine gate_callee (f := 18) rfl ?_); refine goesL_ (some 41) rfl rfl Tryd.func18 (by kernel_rfl) rfl #[.agg #[.bool a0_0, .slice A0_1 l0_1.length c0_1, .int .i64 a0_2]] rfl (by (try simp only [List.map_toArray, List.map_cons, List.map_nil]); first | done | rfl | (simp only [List.length_drop, List.length_take]; rfl) | (have z_ : ∀ s_ : ByteArray, s_.size ≤ 9223372036854775807 → -(s_.size : Int) = wrap64 (-(s_.size : Int)) := (fun s_ h_ => by unfold wrap64; omega); rw [← z_ _ (by omega)]; rfl)) ?_; (with_reducible refine (florinlaw02_Raw_Make.calls kj26 a0_0 _ _ l0_1 a0_2 t363 t364 t365 _ ?side1 ?side2 A41.out).mono ?_); (case side1 => repeat (first | exact (Kd.C_below HR0_1.out HB.out) | (with_reducible refine Kd.C_alloc ?_ _) | (with_reducible refine Kd.C_drewN ?_ _) | (with_reducible refine Kd.C_drew ?_))); (case side2 => exact HC0_1.out); rintro e w47 ⟨rfl, hb⟩; refine ⟨_, rfl, ?_⟩; have n0_ := bb_ BK350 hb; have n1_ := bb_ BK359 hb; have n2_ := Aside0.mk (below_step (bl_ HB).out hb); clear BK350; clear BK359; clear HB; have BK350 := n0_; have BK359 := n1_; have HB := n2_; clear n0_ n1_ n2_; (try clear hb); (try clear hb2); (try clear hk); (try clear hi)) | ((with_reducible refine gate_callee (f := 15) rfl ?_); refine goesL_ (some 42) rfl rfl Tryd.func15 (by kernel_rfl) rfl #[.agg #[.bool t363, .string t364, .int .i64 t365]] rfl (by (try simp only [List.map_toArray, List.map_cons, List.map_nil]); first | done | rfl | (simp only [List.length_drop, List.length_take]; rfl) | (have z_ : ∀ s_ : ByteArray, s_.size ≤ 9223372036854775807 → -(s_.size : Int) = wrap64 (-(s_.size : Int)) := (fun s_ h_ => by unfold wrap64; omega); rw [← z_ _ (by omega)]; rfl)) ?_; (with_reducible refine (dec_Dec_String.calls kj26 t363 t364 t365 t366 _ A42.out).mono ?_); rintro e w48 ⟨rfl, hb⟩; refine ⟨_, rfl, ?_⟩; have n0_ := bb_ BK350 hb; have n1_ := bb_ BK359 hb; have n2_ := Aside0.mk (below_step (bl_ HB).out hb); clear BK350; clear BK359; clear HB; have BK350 := n0_; have BK359 := n1_; have HB := n2_; clear n0_ n1_ n2_; (try clear hb); (try clear hb2); (try clear hk); (try clear hi)))
                        go_ret
                        exact ⟨by first | rfl | (simp [errW_none, errW_some] <;> rfl) | (simp [*, errW_none, errW_some] <;> first | rfl | exact given_isEmpty _ | exact (given_isEmpty _).symm), by repeat (first | (with_reducible first | exact HB.out | apply below_alloc | apply pw_below_drewN | apply below_drew1 | refine below_set ?_ GE350.out | refine below_set ?_ GE359.out) | exact HB.out)⟩
                      · rw [if_neg c40] at H
                        exact absurd H (by simp)
                    · rw [if_neg c38] at H
                      exact absurd H (by simp)
                  · rw [if_neg c37] at H
                    have c37b0 : decide (t358 < 0) = false := decide_eq_false c37
                    clear c37
                    replace H := Option.bind_eq_some_iff.mp H
                    obtain ⟨⟨t367, t368, t369⟩, A490, H⟩ := H
                    replace H : ((dec_Dec_String.f kj26 t367 t368 t369).bind fun t370 => (some (t370.toList == x4_26.toList))) = some r := H
                    have A49 := Aside0.mk A490
                    clear A490
                    replace H := Option.bind_eq_some_iff.mp H
                    obtain ⟨t370, A500, H⟩ := H
                    replace H : (some (t370.toList == x4_26.toList)) = some r := H
                    have A50 := Aside0.mk A500
                    clear A500
                    obtain rfl := Option.some.inj H
                    have hnb51 := NB359_350.out
                    have hnc51 := NB350_359.out
                    have hcz52_0 : wc.cell? ⟨gb359, 0, none⟩ = some (.bool t356) := (blk_cell BK359.out 0).trans rfl
                    have hcz52_1 : wc.cell? ⟨gb359, 1, none⟩ = some (.string t357) := (blk_cell BK359.out 1).trans rfl
                    have hcz52_2 : wc.cell? ⟨gb359, 2, none⟩ = some (.int .i64 t358) := (blk_cell BK359.out 2).trans rfl
                    have hfz52_0 := blk_frozen BK359.out 0
                    have hfz52_1 := blk_frozen BK359.out 1
                    have hfz52_2 := blk_frozen BK359.out 2
                    have hcz53_0 : wc.cell? ⟨gb350, 0, none⟩ = some (.bool a0_0) := (blk_cell BK350.out 0).trans rfl
                    have hcz53_1 : wc.cell? ⟨gb350, 1, none⟩ = some (.slice A0_1 l0_1.length c0_1) := (blk_cell BK350.out 1).trans rfl
                    have hcz53_2 : wc.cell? ⟨gb350, 2, none⟩ = some (.int .i64 a0_2) := (blk_cell BK350.out 2).trans rfl
                    have hfz53_0 := blk_frozen BK350.out 0
                    have hfz53_1 := blk_frozen BK350.out 1
                    have hfz53_2 := blk_frozen BK350.out 2
                    go_wp2_with (first | ((with_reducible refine gate_callee (f := 18) rfl ?_); refine goesL_ (some 41) rfl rfl Tryd.func18 (by kernel_rfl) rfl #[.agg #[.bool a0_0, .slice A0_1 l0_1.length c0_1, .int .i64 a0_2]] rfl (by (try simp only [List.map_toArray, List.map_cons, List.map_nil]); first | done | rfl | (simp only [List.length_drop, List.length_take]; rfl) | (have z_ : ∀ s_ : ByteArray, s_.size ≤ 9223372036854775807 → -(s_.size : Int) = wrap64 (-(s_.size : Int)) := (fun s_ h_ => by unfold wrap64; omega); rw [← z_ _ (by omega)]; rfl)) ?_; (with_reducible refine (florinlaw02_Raw_Make.calls kj26 a0_0 _ _ l0_1 a0_2 t367 t368 t369 _ ?side1 ?side2 A49.out).mono ?_); (case side1 => repeat (first | exact (Kd.C_below HR0_1.out HB.out) | (with_reducible refine Kd.C_alloc ?_ _) | (with_reducible refine Kd.C_drewN ?_ _) | (with_reducible refine Kd.C_drew ?_))); (case side2 => exact HC0_1.out); rintro e w54 ⟨rfl, hb⟩; refine ⟨_, rfl, ?_⟩; have n0_ := bb_ BK350 hb; have n1_ := bb_ BK359 hb; have n2_ := Aside0.mk (below_step (bl_ HB).out hb); clear BK350; clear BK359; clear HB; have BK350 := n0_; have BK359 := n1_; have HB := n2_; clear n0_ n1_ n2_; (try clear hb); (try clear hb2); (try clear hk); (try clear hi)) | ((with_reducible refine gate_callee (f := 15) rfl ?_); refine goesL_ (some 42) rfl rfl Tryd.func15 (by kernel_rfl) rfl #[.agg #[.bool t367, .string t368, .int .i64 t369]] rfl (by (try simp only [List.map_toArray, List.map_cons, List.map_nil]); first | done | rfl | (simp only [List.length_drop, List.length_take]; rfl) | (have z_ : ∀ s_ : ByteArray, s_.size ≤ 9223372036854775807 → -(s_.size : Int) = wrap64 (-(s_.size : Int)) := (fun s_ h_ => by unfold wrap64; omega); rw [← z_ _ (by omega)]; rfl)) ?_; (with_reducible refine (dec_Dec_String.calls kj26 t367 t368 t369 t370 _ A50.out).mono ?_); rintro e w55 ⟨rfl, hb⟩; refine ⟨_, rfl, ?_⟩; have n0_ := bb_ BK350 hb; have n1_ := bb_ BK359 hb; have n2_ := Aside0.mk (below_step (bl_ HB).out hb); clear BK350; clear BK359; clear HB; have BK350 := n0_; have BK359 := n1_; have HB := n2_; clear n0_ n1_ n2_; (try clear hb); (try clear hb2); (try clear hk); (try clear hi)))
                    go_ret
                    exact ⟨by first | rfl | (simp [errW_none, errW_some] <;> rfl) | (simp [*, errW_none, errW_some] <;> first | rfl | exact given_isEmpty _ | exact (given_isEmpty _).symm), by repeat (first | (with_reducible first | exact HB.out | apply below_alloc | apply pw_below_drewN | apply below_drew1 | refine below_set ?_ GE350.out | refine below_set ?_ GE359.out) | exact HB.out)⟩
    · replace c5 := Bool.eq_false_iff.mpr c5
      subst c5
      have H1 : (some true) = some r := by rw [if_neg (show ¬ (false = true) by decide)] at H; exact H
      clear H
      have H := H1
      clear H1
      obtain rfl := Option.some.inj H
      go_enter Tryd.func7, Tryd.ntmps7
      go_wp2_with (first | ((with_reducible refine gate_dst (N := 1) rfl ?_); refine box_event ?hg (N := 1) ?hd (cs := #[.bool a0_0, .slice A0_1 l0_1.length c0_1, .int .i64 a0_2]) (t := 33) ?hr ?_; (case hd => rfl); (case hg => rfl); (case hr => first | (go_simp; done) | (go_simp; rfl)); intro gb350 hg w56 hbox hb; have n0_ := Aside0.mk (below_step (bl_ HB).out hb); have n1_ := Aside0.mk (hbox); have n2_ := Aside0.mk ((by rw [hg]; exact (below_size (bl_ HB).out) : w.heap.size ≤ gb350)); have n3_ := Aside0.mk ((by rw [hg]; exact (below_size (bl_ HB).out) : w.heap.size ≤ gb350)); clear HB; have HB := n0_; have BK350 := n1_; have GW350 := n2_; have GE350 := n3_; clear n0_ n1_ n2_ n3_; clear hb hbox hg) | ((with_reducible refine gate_callee (f := 11) rfl ?_); refine goesL_ (some 5) rfl rfl Tryd.func11 (by kernel_rfl) rfl #[] rfl (by (try simp only [List.map_toArray, List.map_cons, List.map_nil]); first | done | rfl | (simp only [List.length_drop, List.length_take]; rfl) | (have z_ : ∀ s_ : ByteArray, s_.size ≤ 9223372036854775807 → -(s_.size : Int) = wrap64 (-(s_.size : Int)) := (fun s_ h_ => by unfold wrap64; omega); rw [← z_ _ (by omega)]; rfl)) ?_; (with_reducible refine (florinlaw02_head.calls k  true _ A2.out).mono ?_); rintro e w57 ⟨rfl, hb⟩; refine ⟨_, rfl, ?_⟩; have n0_ := bb_ BK350 hb; have n1_ := Aside0.mk (below_step (bl_ HB).out hb); clear BK350; clear HB; have BK350 := n0_; have HB := n1_; clear n0_ n1_; (try clear hb); (try clear hb2); (try clear hk); (try clear hi); have hcz58_0 : w57.cell? ⟨gb350, 0, none⟩ = some (.bool a0_0) := (blk_cell BK350.out 0).trans rfl; have hcz58_1 : w57.cell? ⟨gb350, 1, none⟩ = some (.slice A0_1 l0_1.length c0_1) := (blk_cell BK350.out 1).trans rfl; have hcz58_2 : w57.cell? ⟨gb350, 2, none⟩ = some (.int .i64 a0_2) := (blk_cell BK350.out 2).trans rfl; have hfz58_0 := blk_frozen BK350.out 0; have hfz58_1 := blk_frozen BK350.out 1; have hfz58_2 := blk_frozen BK350.out 2) | ((with_reducible refine gate_callee (f := 17) rfl ?_); refine goesL_ (some 8) rfl rfl Tryd.func17 (by kernel_rfl) rfl #[.agg #[.bool a0_0, .slice A0_1 l0_1.length c0_1, .int .i64 a0_2], .int .i64 60] rfl (by (try simp only [List.map_toArray, List.map_cons, List.map_nil]); first | done | rfl | (simp only [List.length_drop, List.length_take]; rfl) | (have z_ : ∀ s_ : ByteArray, s_.size ≤ 9223372036854775807 → -(s_.size : Int) = wrap64 (-(s_.size : Int)) := (fun s_ h_ => by unfold wrap64; omega); rw [← z_ _ (by omega)]; rfl)) ?_; (with_reducible refine (florinlaw02_Raw_Few.calls a0_0 _ _ l0_1 a0_2 60 false _ ?side1 ?side2 A4.out).mono ?_); (case side1 => repeat (first | exact (Kd.C_below HR0_1.out HB.out) | (with_reducible refine Kd.C_alloc ?_ _) | (with_reducible refine Kd.C_drewN ?_ _) | (with_reducible refine Kd.C_drew ?_))); (case side2 => exact HC0_1.out); rintro e w59 ⟨rfl, hb⟩; refine ⟨_, rfl, ?_⟩; have n0_ := bb_ BK350 hb; have n1_ := Aside0.mk (below_step (bl_ HB).out hb); clear BK350; clear HB; have BK350 := n0_; have HB := n1_; clear n0_ n1_; (try clear hb); (try clear hb2); (try clear hk); (try clear hi)))
      go_ret
      exact ⟨by first | rfl | (simp [errW_none, errW_some] <;> rfl) | (simp [*, errW_none, errW_some] <;> first | rfl | exact given_isEmpty _ | exact (given_isEmpty _).symm), by repeat (first | (with_reducible first | exact HB.out | apply below_alloc | apply pw_below_drewN | apply below_drew1 | refine below_set ?_ GE350.out) | exact HB.out)⟩
  · replace c3 := Bool.eq_false_iff.mpr c3
    subst c3
    have H1 : (some false) = some r := by rw [if_neg (show ¬ (false = true) by decide)] at H; exact H
    clear H
    have H := H1
    clear H1
    obtain rfl := Option.some.inj H
    go_enter Tryd.func7, Tryd.ntmps7
    go_wp2_with (first | ((with_reducible refine gate_dst (N := 1) rfl ?_); refine box_event ?hg (N := 1) ?hd (cs := #[.bool a0_0, .slice A0_1 l0_1.length c0_1, .int .i64 a0_2]) (t := 33) ?hr ?_; (case hd => rfl); (case hg => rfl); (case hr => first | (go_simp; done) | (go_simp; rfl)); intro gb350 hg w60 hbox hb; have n0_ := Aside0.mk (below_step (bl_ HB).out hb); have n1_ := Aside0.mk (hbox); have n2_ := Aside0.mk ((by rw [hg]; exact (below_size (bl_ HB).out) : w.heap.size ≤ gb350)); have n3_ := Aside0.mk ((by rw [hg]; exact (below_size (bl_ HB).out) : w.heap.size ≤ gb350)); clear HB; have HB := n0_; have BK350 := n1_; have GW350 := n2_; have GE350 := n3_; clear n0_ n1_ n2_ n3_; clear hb hbox hg) | ((with_reducible refine gate_callee (f := 11) rfl ?_); refine goesL_ (some 5) rfl rfl Tryd.func11 (by kernel_rfl) rfl #[] rfl (by (try simp only [List.map_toArray, List.map_cons, List.map_nil]); first | done | rfl | (simp only [List.length_drop, List.length_take]; rfl) | (have z_ : ∀ s_ : ByteArray, s_.size ≤ 9223372036854775807 → -(s_.size : Int) = wrap64 (-(s_.size : Int)) := (fun s_ h_ => by unfold wrap64; omega); rw [← z_ _ (by omega)]; rfl)) ?_; (with_reducible refine (florinlaw02_head.calls k  false _ A2.out).mono ?_); rintro e w61 ⟨rfl, hb⟩; refine ⟨_, rfl, ?_⟩; have n0_ := bb_ BK350 hb; have n1_ := Aside0.mk (below_step (bl_ HB).out hb); clear BK350; clear HB; have BK350 := n0_; have HB := n1_; clear n0_ n1_; (try clear hb); (try clear hb2); (try clear hk); (try clear hi)))
    go_ret
    exact ⟨by first | rfl | (simp [errW_none, errW_some] <;> rfl) | (simp [*, errW_none, errW_some] <;> first | rfl | exact given_isEmpty _ | exact (given_isEmpty _).symm), by repeat (first | (with_reducible first | exact HB.out | apply below_alloc | apply pw_below_drewN | apply below_drew1 | refine below_set ?_ GE350.out) | exact HB.out)⟩

end Go.Proofs.YtlkiaeipbekpkaaDoor.P
