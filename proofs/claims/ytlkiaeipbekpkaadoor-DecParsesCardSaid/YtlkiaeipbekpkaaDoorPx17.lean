-- written by a program of this session (wip/p2)
import Derived.Test.YtlkiaeipbekpkaaDoorPx0
import Derived.Test.YtlkiaeipbekpkaaDoorPx1
import Derived.Test.YtlkiaeipbekpkaaDoorPx2
import Derived.Test.YtlkiaeipbekpkaaDoorPx3
import Derived.Test.YtlkiaeipbekpkaaDoorPx5
import Derived.Test.YtlkiaeipbekpkaaDoorPx10
import Derived.Test.YtlkiaeipbekpkaaDoorPx16
namespace Go.Proofs.YtlkiaeipbekpkaaDoor.P
open Go.RowKit Go.Proofs.YtlkiaeipbekpkaaDoorW.PrintWords Go.Proofs.YtlkiaeipbekpkaaDoorW.PrintLast Go.Proofs.YtlkiaeipbekpkaaDoorW.PrintMore
attribute [local go_sem] max2_int min2_int max_two min_two max_three min_three max_four min_four   -- for this text's walks alone
set_option linter.unusedVariables false
set_option linter.unusedSimpArgs false

attribute [local go_sem high] eqA24
/-! ### florinlaw02_DecParses: function 6 -/
mutual
def florinlaw02_DecParses.j0 : Nat → Bool → Bool → List Int → List Int → Bool → Int → Int → Int → Bool → Option (Bool)
  | 0, _, _, _, _, _, _, _, _, _ => none
  | k + 1, x44, x335000, x335001, x335002, x335003, x335004, x335005, x335006, x335007 => if x44 = true then (some true) else ((florinlaw02_Text_Write.f k x335000 x335001 x335002 x335003 x335004 x335005 x335006 x335007).bind fun t336 => ((dec_Parse.f k t336).bind fun bt337 => ((florinlaw01_Digits.f k x335001).bind fun t342 => (if x335003 = true then ((florinlaw01_Digits.f k x335002).bind fun t343 => (if t342.size + t343.size ≤ 9223372036854775807 then (florinlaw02_DecParses.j1 k bt337.2.2.2 (t342 ++ t343) (wrap64 (-(x335002.length : Int))) x335000 x335001 x335002 x335003 x335004 x335005 x335006 x335007 bt337.1 bt337.2.1 bt337.2.2.1) else (none))) else (florinlaw02_DecParses.j1 k bt337.2.2.2 t342 0 x335000 x335001 x335002 x335003 x335004 x335005 x335006 x335007 bt337.1 bt337.2.1 bt337.2.2.1)))))
def florinlaw02_DecParses.j1 : Nat → Int → ByteArray → Int → Bool → List Int → List Int → Bool → Int → Int → Int → Bool → Bool → ByteArray → Int → Option (Bool)
  | 0, _, _, _, _, _, _, _, _, _, _, _, _, _, _ => none
  | k + 1, x4, x5, x6, x335000, x335001, x335002, x335003, x335004, x335005, x335006, x335007, x342000, x342001, x342002 => if x335007 = true then (if (x5.size : Int) > 1000 then (if x4 = 2 then (some (!x342000 && (x342001.toList == ([] : List UInt8) && (x342002 == 0)))) else (some false)) else (if x335004 > 10000 then (if x4 = 2 then (some (!x342000 && (x342001.toList == ([] : List UInt8) && (x342002 == 0)))) else (some false)) else (if x335004 < (-10000) then (if x4 = 2 then (some (!x342000 && (x342001.toList == ([] : List UInt8) && (x342002 == 0)))) else (some false)) else (if x4 = 0 then ((dec_Made.f k x335000 x5 (wrap64 (x6 + x335004))).bind fun bt344 => (some (x342000 == bt344.1 && (x342001.toList == bt344.2.1.toList && (x342002 == bt344.2.2))))) else (some false))))) else (if (x5.size : Int) > 1000 then (if x4 = 2 then (some (!x342000 && (x342001.toList == ([] : List UInt8) && (x342002 == 0)))) else (some false)) else (if x4 = 0 then ((dec_Made.f k x335000 x5 x6).bind fun bt347 => (some (x342000 == bt347.1 && (x342001.toList == bt347.2.1.toList && (x342002 == bt347.2.2))))) else (some false)))
end
def florinlaw02_DecParses.f (k : Nat) (a0_0 : Bool) (l0_1 : List Int) (l0_2 : List Int) (a0_3 : Bool) (a0_4 : Int) (a0_5 : Int) (a0_6 : Int) (a0_7 : Bool) : Option (Bool) := (florinlaw02_head.f k).bind fun t335 => (if t335 = true then (if (l0_1.length : Int) > 1100 then (florinlaw02_DecParses.j0 k true a0_0 l0_1 l0_2 a0_3 a0_4 a0_5 a0_6 a0_7) else (if (l0_2.length : Int) > 1100 then (florinlaw02_DecParses.j0 k true a0_0 l0_1 l0_2 a0_3 a0_4 a0_5 a0_6 a0_7) else (if (l0_1.length : Int) = 0 then (florinlaw02_DecParses.j0 k true a0_0 l0_1 l0_2 a0_3 a0_4 a0_5 a0_6 a0_7) else (if a0_3 = true then (if (l0_2.length : Int) = 0 then (florinlaw02_DecParses.j0 k true a0_0 l0_1 l0_2 a0_3 a0_4 a0_5 a0_6 a0_7) else (if a0_4 < (-11000) then (florinlaw02_DecParses.j0 k true a0_0 l0_1 l0_2 a0_3 a0_4 a0_5 a0_6 a0_7) else (florinlaw02_DecParses.j0 k (decide (a0_4 > 11000)) a0_0 l0_1 l0_2 a0_3 a0_4 a0_5 a0_6 a0_7))) else (if a0_4 < (-11000) then (florinlaw02_DecParses.j0 k true a0_0 l0_1 l0_2 a0_3 a0_4 a0_5 a0_6 a0_7) else (florinlaw02_DecParses.j0 k (decide (a0_4 > 11000)) a0_0 l0_1 l0_2 a0_3 a0_4 a0_5 a0_6 a0_7)))))) else (some false))
theorem florinlaw02_DecParses.mono_l : ∀ k, (∀ y0 y1 y2 y3 y4 y5 y6 y7 y8, LeO (florinlaw02_DecParses.j0 k y0 y1 y2 y3 y4 y5 y6 y7 y8) (florinlaw02_DecParses.j0 (k + 1) y0 y1 y2 y3 y4 y5 y6 y7 y8)) ∧ (∀ y0 y1 y2 y3 y4 y5 y6 y7 y8 y9 y10 y11 y12 y13, LeO (florinlaw02_DecParses.j1 k y0 y1 y2 y3 y4 y5 y6 y7 y8 y9 y10 y11 y12 y13) (florinlaw02_DecParses.j1 (k + 1) y0 y1 y2 y3 y4 y5 y6 y7 y8 y9 y10 y11 y12 y13))
  | 0 => ⟨fun _ _ _ _ _ _ _ _ _ r h => by simp [florinlaw02_DecParses.j0] at h, fun _ _ _ _ _ _ _ _ _ _ _ _ _ _ r h => by simp [florinlaw02_DecParses.j1] at h⟩
  | k + 1 => by
    obtain ⟨ih0, ih1⟩ := florinlaw02_DecParses.mono_l k
    refine ⟨?_, ?_⟩
    · intro y0 y1 y2 y3 y4 y5 y6 y7 y8
      unfold florinlaw02_DecParses.j0
      repeat' first
      | (with_reducible exact ih0 _ _ _ _ _ _ _ _ _)
      | (with_reducible exact ih1 _ _ _ _ _ _ _ _ _ _ _ _ _ _)
      | (with_reducible exact dec_Made.mono _ _ _ _)
      | (with_reducible exact dec_Parse.mono _ _)
      | (with_reducible exact florinlaw01_Digits.mono _ _)
      | (with_reducible exact florinlaw02_Text_Write.mono _ _ _ _ _ _ _ _ _)
      | (with_reducible exact florinlaw02_head.mono _)
      | (with_reducible exact LeO.refl _)
      | (with_reducible exact LeO.none _)
      | (with_reducible refine LeO.ite ?_ ?_)
      | (with_reducible refine LeO.bind ?_ (fun _ => ?_))
      | exact ih0 _ _ _ _ _ _ _ _ _
      | exact ih1 _ _ _ _ _ _ _ _ _ _ _ _ _ _
      | exact dec_Made.mono _ _ _ _
      | exact dec_Parse.mono _ _
      | exact florinlaw01_Digits.mono _ _
      | exact florinlaw02_Text_Write.mono _ _ _ _ _ _ _ _ _
      | exact florinlaw02_head.mono _
      | exact LeO.none _
      | refine LeO.ite ?_ ?_
      | refine LeO.bind ?_ (fun _ => ?_)
    · intro y0 y1 y2 y3 y4 y5 y6 y7 y8 y9 y10 y11 y12 y13
      unfold florinlaw02_DecParses.j1
      repeat' first
      | (with_reducible exact ih0 _ _ _ _ _ _ _ _ _)
      | (with_reducible exact ih1 _ _ _ _ _ _ _ _ _ _ _ _ _ _)
      | (with_reducible exact dec_Made.mono _ _ _ _)
      | (with_reducible exact dec_Parse.mono _ _)
      | (with_reducible exact florinlaw01_Digits.mono _ _)
      | (with_reducible exact florinlaw02_Text_Write.mono _ _ _ _ _ _ _ _ _)
      | (with_reducible exact florinlaw02_head.mono _)
      | (with_reducible exact LeO.refl _)
      | (with_reducible exact LeO.none _)
      | (with_reducible refine LeO.ite ?_ ?_)
      | (with_reducible refine LeO.bind ?_ (fun _ => ?_))
      | exact ih0 _ _ _ _ _ _ _ _ _
      | exact ih1 _ _ _ _ _ _ _ _ _ _ _ _ _ _
      | exact dec_Made.mono _ _ _ _
      | exact dec_Parse.mono _ _
      | exact florinlaw01_Digits.mono _ _
      | exact florinlaw02_Text_Write.mono _ _ _ _ _ _ _ _ _
      | exact florinlaw02_head.mono _
      | exact LeO.none _
      | refine LeO.ite ?_ ?_
      | refine LeO.bind ?_ (fun _ => ?_)
theorem florinlaw02_DecParses.mono : ∀ a0 a1 a2 a3 a4 a5 a6 a7 k, LeO (florinlaw02_DecParses.f k a0 a1 a2 a3 a4 a5 a6 a7) (florinlaw02_DecParses.f (k + 1) a0 a1 a2 a3 a4 a5 a6 a7) := by
  intro a0 a1 a2 a3 a4 a5 a6 a7 k
  obtain ⟨ih0, ih1⟩ := florinlaw02_DecParses.mono_l k
  unfold florinlaw02_DecParses.f
  repeat' first
      | (with_reducible exact ih0 _ _ _ _ _ _ _ _ _)
      | (with_reducible exact ih1 _ _ _ _ _ _ _ _ _ _ _ _ _ _)
      | (with_reducible exact dec_Made.mono _ _ _ _)
      | (with_reducible exact dec_Parse.mono _ _)
      | (with_reducible exact florinlaw01_Digits.mono _ _)
      | (with_reducible exact florinlaw02_Text_Write.mono _ _ _ _ _ _ _ _ _)
      | (with_reducible exact florinlaw02_head.mono _)
      | (with_reducible exact LeO.refl _)
      | (with_reducible exact LeO.none _)
      | (with_reducible refine LeO.ite ?_ ?_)
      | (with_reducible refine LeO.bind ?_ (fun _ => ?_))
      | exact ih0 _ _ _ _ _ _ _ _ _
      | exact ih1 _ _ _ _ _ _ _ _ _ _ _ _ _ _
      | exact dec_Made.mono _ _ _ _
      | exact dec_Parse.mono _ _
      | exact florinlaw01_Digits.mono _ _
      | exact florinlaw02_Text_Write.mono _ _ _ _ _ _ _ _ _
      | exact florinlaw02_head.mono _
      | exact LeO.none _
      | refine LeO.ite ?_ ?_
      | refine LeO.bind ?_ (fun _ => ?_)
def florinlaw02_DecParses.T15 : Bool × List (List Nat × List Nat) := (true, [([], []), ([0], [0]), ([1], [1]), ([2], [2]), ([2], [2]), ([4, 2], [2, 4]), ([2], [2]), ([2], [2]), ([5, 6, 7, 2, 2], [2, 5, 6, 7]), ([3, 8, 2], [2, 3, 8]), ([2, 9], [2, 9]), ([10, 8, 0, 1, 2, 3, 4, 5, 6, 7, 8, 9, 10], [10])])
def florinlaw02_DecParses.B15 : List Nat := [0, 1, 3, 7, 7, 23, 7, 7, 247, 511, 1023, 2047]
theorem florinlaw02_DecParses.tab15 : rtab .any (opsOf Tryd.f6 15) = florinlaw02_DecParses.T15 := by kernel_rfl
theorem florinlaw02_DecParses.bits15 : waitsOk florinlaw02_DecParses.T15.2 florinlaw02_DecParses.B15 = true := by kernel_rfl
set_option maxHeartbeats 8000000 in
set_option maxRecDepth 100000 in
theorem florinlaw02_DecParses.calls (k : Nat) (a0_0 : Bool) (A0_1 : Option Addr) (c0_1 : Nat) (l0_1 : List Int) (A0_2 : Option Addr) (c0_2 : Nat) (l0_2 : List Int) (a0_3 : Bool) (a0_4 : Int) (a0_5 : Int) (a0_6 : Int) (a0_7 : Bool) (r : Bool) (w : World) (hr0_1 : Kd.C (Kd.int .u8) w A0_1 l0_1.length l0_1) (hc0_1 : l0_1.length ≤ c0_1) (hr0_2 : Kd.C (Kd.int .u8) w A0_2 l0_2.length l0_2) (hc0_2 : l0_2.length ≤ c0_2) (h : florinlaw02_DecParses.f k a0_0 l0_1 l0_2 a0_3 a0_4 a0_5 a0_6 a0_7 = some r) :
    Calls Tryd.prog 6 #[.agg #[.bool a0_0, .slice A0_1 l0_1.length c0_1, .slice A0_2 l0_2.length c0_2, .bool a0_3, .int .i64 a0_4, .int .i64 a0_5, .int .i64 a0_6, .bool a0_7]] w fun e w' => e = .returned (.bool r) ∧ Below w.heap.size w w' := by
  have hu46 := Tryd.underlying46
  have hu24 := Tryd.underlying24
  have HR0_1 := Aside0.mk hr0_1
  have HC0_1 := Aside0.mk hc0_1
  clear hr0_1 hc0_1
  have HR0_2 := Aside0.mk hr0_2
  have HC0_2 := Aside0.mk hc0_2
  clear hr0_2 hc0_2
  have HB := Aside0.mk (Below.refl w.heap.size w)
  have H : ((florinlaw02_head.f k).bind fun t335 => (if t335 = true then (if (l0_1.length : Int) > 1100 then (florinlaw02_DecParses.j0 k true a0_0 l0_1 l0_2 a0_3 a0_4 a0_5 a0_6 a0_7) else (if (l0_2.length : Int) > 1100 then (florinlaw02_DecParses.j0 k true a0_0 l0_1 l0_2 a0_3 a0_4 a0_5 a0_6 a0_7) else (if (l0_1.length : Int) = 0 then (florinlaw02_DecParses.j0 k true a0_0 l0_1 l0_2 a0_3 a0_4 a0_5 a0_6 a0_7) else (if a0_3 = true then (if (l0_2.length : Int) = 0 then (florinlaw02_DecParses.j0 k true a0_0 l0_1 l0_2 a0_3 a0_4 a0_5 a0_6 a0_7) else (if a0_4 < (-11000) then (florinlaw02_DecParses.j0 k true a0_0 l0_1 l0_2 a0_3 a0_4 a0_5 a0_6 a0_7) else (florinlaw02_DecParses.j0 k (decide (a0_4 > 11000)) a0_0 l0_1 l0_2 a0_3 a0_4 a0_5 a0_6 a0_7))) else (if a0_4 < (-11000) then (florinlaw02_DecParses.j0 k true a0_0 l0_1 l0_2 a0_3 a0_4 a0_5 a0_6 a0_7) else (florinlaw02_DecParses.j0 k (decide (a0_4 > 11000)) a0_0 l0_1 l0_2 a0_3 a0_4 a0_5 a0_6 a0_7)))))) else (some false))) = some r := h
  clear h
  replace H := Option.bind_eq_some_iff.mp H
  obtain ⟨t335, A20, H⟩ := H
  replace H : (if t335 = true then (if (l0_1.length : Int) > 1100 then (florinlaw02_DecParses.j0 k true a0_0 l0_1 l0_2 a0_3 a0_4 a0_5 a0_6 a0_7) else (if (l0_2.length : Int) > 1100 then (florinlaw02_DecParses.j0 k true a0_0 l0_1 l0_2 a0_3 a0_4 a0_5 a0_6 a0_7) else (if (l0_1.length : Int) = 0 then (florinlaw02_DecParses.j0 k true a0_0 l0_1 l0_2 a0_3 a0_4 a0_5 a0_6 a0_7) else (if a0_3 = true then (if (l0_2.length : Int) = 0 then (florinlaw02_DecParses.j0 k true a0_0 l0_1 l0_2 a0_3 a0_4 a0_5 a0_6 a0_7) else (if a0_4 < (-11000) then (florinlaw02_DecParses.j0 k true a0_0 l0_1 l0_2 a0_3 a0_4 a0_5 a0_6 a0_7) else (florinlaw02_DecParses.j0 k (decide (a0_4 > 11000)) a0_0 l0_1 l0_2 a0_3 a0_4 a0_5 a0_6 a0_7))) else (if a0_4 < (-11000) then (florinlaw02_DecParses.j0 k true a0_0 l0_1 l0_2 a0_3 a0_4 a0_5 a0_6 a0_7) else (florinlaw02_DecParses.j0 k (decide (a0_4 > 11000)) a0_0 l0_1 l0_2 a0_3 a0_4 a0_5 a0_6 a0_7)))))) else (some false)) = some r := H
  have A2 := Aside0.mk A20
  clear A20
  by_cases c3 : t335 = true
  · subst c3
    have H1 : (if (l0_1.length : Int) > 1100 then (florinlaw02_DecParses.j0 k true a0_0 l0_1 l0_2 a0_3 a0_4 a0_5 a0_6 a0_7) else (if (l0_2.length : Int) > 1100 then (florinlaw02_DecParses.j0 k true a0_0 l0_1 l0_2 a0_3 a0_4 a0_5 a0_6 a0_7) else (if (l0_1.length : Int) = 0 then (florinlaw02_DecParses.j0 k true a0_0 l0_1 l0_2 a0_3 a0_4 a0_5 a0_6 a0_7) else (if a0_3 = true then (if (l0_2.length : Int) = 0 then (florinlaw02_DecParses.j0 k true a0_0 l0_1 l0_2 a0_3 a0_4 a0_5 a0_6 a0_7) else (if a0_4 < (-11000) then (florinlaw02_DecParses.j0 k true a0_0 l0_1 l0_2 a0_3 a0_4 a0_5 a0_6 a0_7) else (florinlaw02_DecParses.j0 k (decide (a0_4 > 11000)) a0_0 l0_1 l0_2 a0_3 a0_4 a0_5 a0_6 a0_7))) else (if a0_4 < (-11000) then (florinlaw02_DecParses.j0 k true a0_0 l0_1 l0_2 a0_3 a0_4 a0_5 a0_6 a0_7) else (florinlaw02_DecParses.j0 k (decide (a0_4 > 11000)) a0_0 l0_1 l0_2 a0_3 a0_4 a0_5 a0_6 a0_7)))))) = some r := by rw [if_pos rfl] at H; exact H
    clear H
    have H := H1
    clear H1
    have HC4 := Aside0.mk H
    clear H
    go_enter Tryd.func6, Tryd.ntmps6
    go_upto_region 3 with (first | ((with_reducible refine gate_dst (N := 1) rfl ?_); (try (refine gate_guard (by rfl) ?_; dsimp only)); refine box_event ?hg (N := 1) ?hd (cs := #[.bool a0_0, .slice A0_1 l0_1.length c0_1, .slice A0_2 l0_2.length c0_2, .bool a0_3, .int .i64 a0_4, .int .i64 a0_5, .int .i64 a0_6, .bool a0_7]) (t := 46) ?hr ?_; (case hd => rfl); (case hg => rfl); (case hr => first | (go_simp; done) | (go_simp; rfl)); intro gb334 hg w5 hbox hb; have n0_ := Aside0.mk (below_step (by repeat (first | (with_reducible first | exact HB.out | apply below_alloc | apply pw_below_drewN | apply below_drew1) | exact HB.out)) hb); have n1_ := Aside0.mk (hbox); have n2_ := Aside0.mk ((by rw [hg]; exact (below_size (by repeat (first | (with_reducible first | exact HB.out | apply below_alloc | apply pw_below_drewN | apply below_drew1) | exact HB.out))) : w.heap.size ≤ gb334)); have n3_ := Aside0.mk ((by rw [hg]; exact (below_size (by repeat (first | (with_reducible first | exact HB.out | apply below_alloc | apply pw_below_drewN | apply below_drew1) | exact HB.out))) : w.heap.size ≤ gb334)); clear HB; have HB := n0_; have BK334 := n1_; have GW334 := n2_; have GE334 := n3_; clear n0_ n1_ n2_ n3_; clear hb hbox hg) | ((with_reducible refine gate_callee (f := 11) rfl ?_); refine goesL_ (some 7) rfl rfl Tryd.func11 (by kernel_rfl) rfl #[] rfl (by (try simp only [List.map_toArray, List.map_cons, List.map_nil]); first | done | rfl | (simp only [List.length_drop, List.length_take]; rfl) | (have z_ : ∀ s_ : ByteArray, s_.size ≤ 9223372036854775807 → -(s_.size : Int) = wrap64 (-(s_.size : Int)) := (fun s_ h_ => by unfold wrap64; omega); rw [← z_ _ (by omega)]; rfl)) ?_; (with_reducible refine (florinlaw02_head.calls k  true _ A2.out).mono ?_); rintro e w6 ⟨rfl, hb⟩; refine ⟨_, rfl, ?_⟩; have n0_ := bb_ BK334 hb; have n1_ := Aside0.mk (below_step (by repeat (first | (with_reducible first | exact HB.out | apply below_alloc | apply pw_below_drewN | apply below_drew1 | refine below_set ?_ GE334.out) | exact HB.out)) hb); clear BK334; clear HB; have BK334 := n0_; have HB := n1_; clear n0_ n1_; (try clear hb); (try clear hb2); (try clear hk); (try clear hi)))
    (try simp only [Act.put, List.setIfInBounds_toArray, List.set_cons_zero, List.set_cons_succ])
    go_cut [44] (fun v44 wc => ∃ (kq : Nat) (x44_3 : Bool), v44 = .bool x44_3 ∧ Aside0 (florinlaw02_DecParses.j0 kq x44_3 a0_0 l0_1 l0_2 a0_3 a0_4 a0_5 a0_6 a0_7 = some r) ∧ Aside0 (kq ≤ k) ∧ Aside0 (wc.heap[gb334]? = some (.cells #[.bool a0_0, (.slice A0_1 l0_1.length c0_1), (.slice A0_2 l0_2.length c0_2), .bool a0_3, .int .i64 a0_4, .int .i64 a0_5, .int .i64 a0_6, .bool a0_7] 46 (0, 0))) ∧ Aside0 (Below w.heap.size w wc))
    case first =>
      have H := HC4.out
      clear HC4
      by_cases c7 : (l0_1.length : Int) > 1100
      · rw [if_pos c7] at H
        have c7b0 : decide (1100 < (l0_1.length : Int)) = true := decide_eq_true c7
        have c7b1 : decide (1100 < l0_1.length) = true := decide_eq_true (by omega)
        clear c7
        (first | rw [c7b0] | (simp only [i64_w, i32_w]; rw [c7b0]) | skip)
        have H' := Aside0.mk H
        clear H
        have hcz8_0 : w6.cell? ⟨gb334, 0, none⟩ = some (.bool a0_0) := (blk_cell BK334.out 0).trans rfl
        have hcz8_1 : w6.cell? ⟨gb334, 1, none⟩ = some (.slice A0_1 l0_1.length c0_1) := (blk_cell BK334.out 1).trans rfl
        have hcz8_2 : w6.cell? ⟨gb334, 2, none⟩ = some (.slice A0_2 l0_2.length c0_2) := (blk_cell BK334.out 2).trans rfl
        have hcz8_3 : w6.cell? ⟨gb334, 3, none⟩ = some (.bool a0_3) := (blk_cell BK334.out 3).trans rfl
        have hcz8_4 : w6.cell? ⟨gb334, 4, none⟩ = some (.int .i64 a0_4) := (blk_cell BK334.out 4).trans rfl
        have hcz8_5 : w6.cell? ⟨gb334, 5, none⟩ = some (.int .i64 a0_5) := (blk_cell BK334.out 5).trans rfl
        have hcz8_6 : w6.cell? ⟨gb334, 6, none⟩ = some (.int .i64 a0_6) := (blk_cell BK334.out 6).trans rfl
        have hcz8_7 : w6.cell? ⟨gb334, 7, none⟩ = some (.bool a0_7) := (blk_cell BK334.out 7).trans rfl
        have hfz8_0 := blk_frozen BK334.out 0
        have hfz8_1 := blk_frozen BK334.out 1
        have hfz8_2 := blk_frozen BK334.out 2
        have hfz8_3 := blk_frozen BK334.out 3
        have hfz8_4 := blk_frozen BK334.out 4
        have hfz8_5 := blk_frozen BK334.out 5
        have hfz8_6 := blk_frozen BK334.out 6
        have hfz8_7 := blk_frozen BK334.out 7
        go_wp2
        go_meet
        case rel => exact ⟨_, (true), (by first | rfl | (simp; done) | (simp [*]; done) | (simp; first | exact given_isEmpty _ | exact (given_isEmpty _).symm) | (unfold wrap64; omega) | (congr 1; unfold wrap64; omega)), H', ⟨by first | omega | exact Nat.le_refl _⟩, ⟨by (with_reducible repeat (first | refine blk_drewN ?_ _ | refine blk_drew ?_ | refine blk_alloc ?_ _)); exact BK334.out⟩, ⟨by repeat (first | (with_reducible first | exact HB.out | apply below_alloc | apply pw_below_drewN | apply below_drew1 | refine below_set ?_ GE334.out) | exact HB.out)⟩⟩
      · rw [if_neg c7] at H
        have c7b0 : decide (1100 < (l0_1.length : Int)) = false := decide_eq_false c7
        have c7b1 : decide (1100 < l0_1.length) = false := decide_eq_false (by omega)
        clear c7
        (first | rw [c7b0] | (simp only [i64_w, i32_w]; rw [c7b0]) | skip)
        by_cases c9 : (l0_2.length : Int) > 1100
        · rw [if_pos c9] at H
          have c9b0 : decide (1100 < (l0_2.length : Int)) = true := decide_eq_true c9
          have c9b1 : decide (1100 < l0_2.length) = true := decide_eq_true (by omega)
          clear c9
          have H' := Aside0.mk H
          clear H
          have hcz10_0 : w6.cell? ⟨gb334, 0, none⟩ = some (.bool a0_0) := (blk_cell BK334.out 0).trans rfl
          have hcz10_1 : w6.cell? ⟨gb334, 1, none⟩ = some (.slice A0_1 l0_1.length c0_1) := (blk_cell BK334.out 1).trans rfl
          have hcz10_2 : w6.cell? ⟨gb334, 2, none⟩ = some (.slice A0_2 l0_2.length c0_2) := (blk_cell BK334.out 2).trans rfl
          have hcz10_3 : w6.cell? ⟨gb334, 3, none⟩ = some (.bool a0_3) := (blk_cell BK334.out 3).trans rfl
          have hcz10_4 : w6.cell? ⟨gb334, 4, none⟩ = some (.int .i64 a0_4) := (blk_cell BK334.out 4).trans rfl
          have hcz10_5 : w6.cell? ⟨gb334, 5, none⟩ = some (.int .i64 a0_5) := (blk_cell BK334.out 5).trans rfl
          have hcz10_6 : w6.cell? ⟨gb334, 6, none⟩ = some (.int .i64 a0_6) := (blk_cell BK334.out 6).trans rfl
          have hcz10_7 : w6.cell? ⟨gb334, 7, none⟩ = some (.bool a0_7) := (blk_cell BK334.out 7).trans rfl
          have hfz10_0 := blk_frozen BK334.out 0
          have hfz10_1 := blk_frozen BK334.out 1
          have hfz10_2 := blk_frozen BK334.out 2
          have hfz10_3 := blk_frozen BK334.out 3
          have hfz10_4 := blk_frozen BK334.out 4
          have hfz10_5 := blk_frozen BK334.out 5
          have hfz10_6 := blk_frozen BK334.out 6
          have hfz10_7 := blk_frozen BK334.out 7
          go_wp2
          go_meet
          case rel => exact ⟨_, (true), (by first | rfl | (simp; done) | (simp [*]; done) | (simp; first | exact given_isEmpty _ | exact (given_isEmpty _).symm) | (unfold wrap64; omega) | (congr 1; unfold wrap64; omega)), H', ⟨by first | omega | exact Nat.le_refl _⟩, ⟨by (with_reducible repeat (first | refine blk_drewN ?_ _ | refine blk_drew ?_ | refine blk_alloc ?_ _)); exact BK334.out⟩, ⟨by repeat (first | (with_reducible first | exact HB.out | apply below_alloc | apply pw_below_drewN | apply below_drew1 | refine below_set ?_ GE334.out) | exact HB.out)⟩⟩
        · rw [if_neg c9] at H
          have c9b0 : decide (1100 < (l0_2.length : Int)) = false := decide_eq_false c9
          have c9b1 : decide (1100 < l0_2.length) = false := decide_eq_false (by omega)
          clear c9
          by_cases c11 : (l0_1.length : Int) = 0
          · rw [if_pos c11] at H
            have c11b0 : ((l0_1.length : Int) == 0) = true := beq_iff_eq.mpr c11
            have c11b1 : ((l0_1.length : Int) != 0) = false := bne_eq_false_iff_eq.mpr c11
            clear c11
            have H' := Aside0.mk H
            clear H
            have hcz12_0 : w6.cell? ⟨gb334, 0, none⟩ = some (.bool a0_0) := (blk_cell BK334.out 0).trans rfl
            have hcz12_1 : w6.cell? ⟨gb334, 1, none⟩ = some (.slice A0_1 l0_1.length c0_1) := (blk_cell BK334.out 1).trans rfl
            have hcz12_2 : w6.cell? ⟨gb334, 2, none⟩ = some (.slice A0_2 l0_2.length c0_2) := (blk_cell BK334.out 2).trans rfl
            have hcz12_3 : w6.cell? ⟨gb334, 3, none⟩ = some (.bool a0_3) := (blk_cell BK334.out 3).trans rfl
            have hcz12_4 : w6.cell? ⟨gb334, 4, none⟩ = some (.int .i64 a0_4) := (blk_cell BK334.out 4).trans rfl
            have hcz12_5 : w6.cell? ⟨gb334, 5, none⟩ = some (.int .i64 a0_5) := (blk_cell BK334.out 5).trans rfl
            have hcz12_6 : w6.cell? ⟨gb334, 6, none⟩ = some (.int .i64 a0_6) := (blk_cell BK334.out 6).trans rfl
            have hcz12_7 : w6.cell? ⟨gb334, 7, none⟩ = some (.bool a0_7) := (blk_cell BK334.out 7).trans rfl
            have hfz12_0 := blk_frozen BK334.out 0
            have hfz12_1 := blk_frozen BK334.out 1
            have hfz12_2 := blk_frozen BK334.out 2
            have hfz12_3 := blk_frozen BK334.out 3
            have hfz12_4 := blk_frozen BK334.out 4
            have hfz12_5 := blk_frozen BK334.out 5
            have hfz12_6 := blk_frozen BK334.out 6
            have hfz12_7 := blk_frozen BK334.out 7
            go_wp2
            go_meet
            case rel => exact ⟨_, (true), (by first | rfl | (simp; done) | (simp [*]; done) | (simp; first | exact given_isEmpty _ | exact (given_isEmpty _).symm) | (unfold wrap64; omega) | (congr 1; unfold wrap64; omega)), H', ⟨by first | omega | exact Nat.le_refl _⟩, ⟨by (with_reducible repeat (first | refine blk_drewN ?_ _ | refine blk_drew ?_ | refine blk_alloc ?_ _)); exact BK334.out⟩, ⟨by repeat (first | (with_reducible first | exact HB.out | apply below_alloc | apply pw_below_drewN | apply below_drew1 | refine below_set ?_ GE334.out) | exact HB.out)⟩⟩
          · rw [if_neg c11] at H
            have c11b0 : ((l0_1.length : Int) == 0) = false := beq_eq_false_iff_ne.mpr c11
            have c11b1 : ((l0_1.length : Int) != 0) = true := bne_iff_ne.mpr c11
            have c11b2 : ¬ (l0_1 = []) := fun h_ => c11 (by rw [h_]; rfl)
            by_cases c13 : a0_3 = true
            · subst c13
              have H1 : (if (l0_2.length : Int) = 0 then (florinlaw02_DecParses.j0 k true a0_0 l0_1 l0_2 true a0_4 a0_5 a0_6 a0_7) else (if a0_4 < (-11000) then (florinlaw02_DecParses.j0 k true a0_0 l0_1 l0_2 true a0_4 a0_5 a0_6 a0_7) else (florinlaw02_DecParses.j0 k (decide (a0_4 > 11000)) a0_0 l0_1 l0_2 true a0_4 a0_5 a0_6 a0_7))) = some r := by rw [if_pos rfl] at H; exact H
              clear H
              have H := H1
              clear H1
              by_cases c14 : (l0_2.length : Int) = 0
              · rw [if_pos c14] at H
                have c14b0 : ((l0_2.length : Int) == 0) = true := beq_iff_eq.mpr c14
                have c14b1 : ((l0_2.length : Int) != 0) = false := bne_eq_false_iff_eq.mpr c14
                clear c14
                have H' := Aside0.mk H
                clear H
                have hcz15_0 : w6.cell? ⟨gb334, 0, none⟩ = some (.bool a0_0) := (blk_cell BK334.out 0).trans rfl
                have hcz15_1 : w6.cell? ⟨gb334, 1, none⟩ = some (.slice A0_1 l0_1.length c0_1) := (blk_cell BK334.out 1).trans rfl
                have hcz15_2 : w6.cell? ⟨gb334, 2, none⟩ = some (.slice A0_2 l0_2.length c0_2) := (blk_cell BK334.out 2).trans rfl
                have hcz15_3 : w6.cell? ⟨gb334, 3, none⟩ = some (.bool true) := (blk_cell BK334.out 3).trans rfl
                have hcz15_4 : w6.cell? ⟨gb334, 4, none⟩ = some (.int .i64 a0_4) := (blk_cell BK334.out 4).trans rfl
                have hcz15_5 : w6.cell? ⟨gb334, 5, none⟩ = some (.int .i64 a0_5) := (blk_cell BK334.out 5).trans rfl
                have hcz15_6 : w6.cell? ⟨gb334, 6, none⟩ = some (.int .i64 a0_6) := (blk_cell BK334.out 6).trans rfl
                have hcz15_7 : w6.cell? ⟨gb334, 7, none⟩ = some (.bool a0_7) := (blk_cell BK334.out 7).trans rfl
                have hfz15_0 := blk_frozen BK334.out 0
                have hfz15_1 := blk_frozen BK334.out 1
                have hfz15_2 := blk_frozen BK334.out 2
                have hfz15_3 := blk_frozen BK334.out 3
                have hfz15_4 := blk_frozen BK334.out 4
                have hfz15_5 := blk_frozen BK334.out 5
                have hfz15_6 := blk_frozen BK334.out 6
                have hfz15_7 := blk_frozen BK334.out 7
                go_wp2
                go_meet
                case rel => exact ⟨_, (true), (by first | rfl | (simp; done) | (simp [*]; done) | (simp; first | exact given_isEmpty _ | exact (given_isEmpty _).symm) | (unfold wrap64; omega) | (congr 1; unfold wrap64; omega)), H', ⟨by first | omega | exact Nat.le_refl _⟩, ⟨by (with_reducible repeat (first | refine blk_drewN ?_ _ | refine blk_drew ?_ | refine blk_alloc ?_ _)); exact BK334.out⟩, ⟨by repeat (first | (with_reducible first | exact HB.out | apply below_alloc | apply pw_below_drewN | apply below_drew1 | refine below_set ?_ GE334.out) | exact HB.out)⟩⟩
              · rw [if_neg c14] at H
                have c14b0 : ((l0_2.length : Int) == 0) = false := beq_eq_false_iff_ne.mpr c14
                have c14b1 : ((l0_2.length : Int) != 0) = true := bne_iff_ne.mpr c14
                have c14b2 : ¬ (l0_2 = []) := fun h_ => c14 (by rw [h_]; rfl)
                by_cases c16 : a0_4 < (-11000)
                · rw [if_pos c16] at H
                  have c16b0 : decide (a0_4 < (-11000)) = true := decide_eq_true c16
                  clear c16
                  have H' := Aside0.mk H
                  clear H
                  have hcz17_0 : w6.cell? ⟨gb334, 0, none⟩ = some (.bool a0_0) := (blk_cell BK334.out 0).trans rfl
                  have hcz17_1 : w6.cell? ⟨gb334, 1, none⟩ = some (.slice A0_1 l0_1.length c0_1) := (blk_cell BK334.out 1).trans rfl
                  have hcz17_2 : w6.cell? ⟨gb334, 2, none⟩ = some (.slice A0_2 l0_2.length c0_2) := (blk_cell BK334.out 2).trans rfl
                  have hcz17_3 : w6.cell? ⟨gb334, 3, none⟩ = some (.bool true) := (blk_cell BK334.out 3).trans rfl
                  have hcz17_4 : w6.cell? ⟨gb334, 4, none⟩ = some (.int .i64 a0_4) := (blk_cell BK334.out 4).trans rfl
                  have hcz17_5 : w6.cell? ⟨gb334, 5, none⟩ = some (.int .i64 a0_5) := (blk_cell BK334.out 5).trans rfl
                  have hcz17_6 : w6.cell? ⟨gb334, 6, none⟩ = some (.int .i64 a0_6) := (blk_cell BK334.out 6).trans rfl
                  have hcz17_7 : w6.cell? ⟨gb334, 7, none⟩ = some (.bool a0_7) := (blk_cell BK334.out 7).trans rfl
                  have hfz17_0 := blk_frozen BK334.out 0
                  have hfz17_1 := blk_frozen BK334.out 1
                  have hfz17_2 := blk_frozen BK334.out 2
                  have hfz17_3 := blk_frozen BK334.out 3
                  have hfz17_4 := blk_frozen BK334.out 4
                  have hfz17_5 := blk_frozen BK334.out 5
                  have hfz17_6 := blk_frozen BK334.out 6
                  have hfz17_7 := blk_frozen BK334.out 7
                  go_wp2
                  go_meet
                  case rel => exact ⟨_, (true), (by first | rfl | (simp; done) | (simp [*]; done) | (simp; first | exact given_isEmpty _ | exact (given_isEmpty _).symm) | (unfold wrap64; omega) | (congr 1; unfold wrap64; omega)), H', ⟨by first | omega | exact Nat.le_refl _⟩, ⟨by (with_reducible repeat (first | refine blk_drewN ?_ _ | refine blk_drew ?_ | refine blk_alloc ?_ _)); exact BK334.out⟩, ⟨by repeat (first | (with_reducible first | exact HB.out | apply below_alloc | apply pw_below_drewN | apply below_drew1 | refine below_set ?_ GE334.out) | exact HB.out)⟩⟩
                · rw [if_neg c16] at H
                  have c16b0 : decide (a0_4 < (-11000)) = false := decide_eq_false c16
                  clear c16
                  have H' := Aside0.mk H
                  clear H
                  have hcz18_0 : w6.cell? ⟨gb334, 0, none⟩ = some (.bool a0_0) := (blk_cell BK334.out 0).trans rfl
                  have hcz18_1 : w6.cell? ⟨gb334, 1, none⟩ = some (.slice A0_1 l0_1.length c0_1) := (blk_cell BK334.out 1).trans rfl
                  have hcz18_2 : w6.cell? ⟨gb334, 2, none⟩ = some (.slice A0_2 l0_2.length c0_2) := (blk_cell BK334.out 2).trans rfl
                  have hcz18_3 : w6.cell? ⟨gb334, 3, none⟩ = some (.bool true) := (blk_cell BK334.out 3).trans rfl
                  have hcz18_4 : w6.cell? ⟨gb334, 4, none⟩ = some (.int .i64 a0_4) := (blk_cell BK334.out 4).trans rfl
                  have hcz18_5 : w6.cell? ⟨gb334, 5, none⟩ = some (.int .i64 a0_5) := (blk_cell BK334.out 5).trans rfl
                  have hcz18_6 : w6.cell? ⟨gb334, 6, none⟩ = some (.int .i64 a0_6) := (blk_cell BK334.out 6).trans rfl
                  have hcz18_7 : w6.cell? ⟨gb334, 7, none⟩ = some (.bool a0_7) := (blk_cell BK334.out 7).trans rfl
                  have hfz18_0 := blk_frozen BK334.out 0
                  have hfz18_1 := blk_frozen BK334.out 1
                  have hfz18_2 := blk_frozen BK334.out 2
                  have hfz18_3 := blk_frozen BK334.out 3
                  have hfz18_4 := blk_frozen BK334.out 4
                  have hfz18_5 := blk_frozen BK334.out 5
                  have hfz18_6 := blk_frozen BK334.out 6
                  have hfz18_7 := blk_frozen BK334.out 7
                  go_wp2
                  go_meet
                  case rel => exact ⟨_, (decide (a0_4 > 11000)), (by first | rfl | (simp; done) | (simp [*]; done) | (simp; first | exact given_isEmpty _ | exact (given_isEmpty _).symm) | (unfold wrap64; omega) | (congr 1; unfold wrap64; omega)), H', ⟨by first | omega | exact Nat.le_refl _⟩, ⟨by (with_reducible repeat (first | refine blk_drewN ?_ _ | refine blk_drew ?_ | refine blk_alloc ?_ _)); exact BK334.out⟩, ⟨by repeat (first | (with_reducible first | exact HB.out | apply below_alloc | apply pw_below_drewN | apply below_drew1 | refine below_set ?_ GE334.out) | exact HB.out)⟩⟩
            · replace c13 := Bool.eq_false_iff.mpr c13
              subst c13
              have H1 : (if a0_4 < (-11000) then (florinlaw02_DecParses.j0 k true a0_0 l0_1 l0_2 false a0_4 a0_5 a0_6 a0_7) else (florinlaw02_DecParses.j0 k (decide (a0_4 > 11000)) a0_0 l0_1 l0_2 false a0_4 a0_5 a0_6 a0_7)) = some r := by rw [if_neg (show ¬ (false = true) by decide)] at H; exact H
              clear H
              have H := H1
              clear H1
              by_cases c19 : a0_4 < (-11000)
              · rw [if_pos c19] at H
                have c19b0 : decide (a0_4 < (-11000)) = true := decide_eq_true c19
                clear c19
                have H' := Aside0.mk H
                clear H
                have hcz20_0 : w6.cell? ⟨gb334, 0, none⟩ = some (.bool a0_0) := (blk_cell BK334.out 0).trans rfl
                have hcz20_1 : w6.cell? ⟨gb334, 1, none⟩ = some (.slice A0_1 l0_1.length c0_1) := (blk_cell BK334.out 1).trans rfl
                have hcz20_2 : w6.cell? ⟨gb334, 2, none⟩ = some (.slice A0_2 l0_2.length c0_2) := (blk_cell BK334.out 2).trans rfl
                have hcz20_3 : w6.cell? ⟨gb334, 3, none⟩ = some (.bool false) := (blk_cell BK334.out 3).trans rfl
                have hcz20_4 : w6.cell? ⟨gb334, 4, none⟩ = some (.int .i64 a0_4) := (blk_cell BK334.out 4).trans rfl
                have hcz20_5 : w6.cell? ⟨gb334, 5, none⟩ = some (.int .i64 a0_5) := (blk_cell BK334.out 5).trans rfl
                have hcz20_6 : w6.cell? ⟨gb334, 6, none⟩ = some (.int .i64 a0_6) := (blk_cell BK334.out 6).trans rfl
                have hcz20_7 : w6.cell? ⟨gb334, 7, none⟩ = some (.bool a0_7) := (blk_cell BK334.out 7).trans rfl
                have hfz20_0 := blk_frozen BK334.out 0
                have hfz20_1 := blk_frozen BK334.out 1
                have hfz20_2 := blk_frozen BK334.out 2
                have hfz20_3 := blk_frozen BK334.out 3
                have hfz20_4 := blk_frozen BK334.out 4
                have hfz20_5 := blk_frozen BK334.out 5
                have hfz20_6 := blk_frozen BK334.out 6
                have hfz20_7 := blk_frozen BK334.out 7
                go_wp2
                go_meet
                case rel => exact ⟨_, (true), (by first | rfl | (simp; done) | (simp [*]; done) | (simp; first | exact given_isEmpty _ | exact (given_isEmpty _).symm) | (unfold wrap64; omega) | (congr 1; unfold wrap64; omega)), H', ⟨by first | omega | exact Nat.le_refl _⟩, ⟨by (with_reducible repeat (first | refine blk_drewN ?_ _ | refine blk_drew ?_ | refine blk_alloc ?_ _)); exact BK334.out⟩, ⟨by repeat (first | (with_reducible first | exact HB.out | apply below_alloc | apply pw_below_drewN | apply below_drew1 | refine below_set ?_ GE334.out) | exact HB.out)⟩⟩
              · rw [if_neg c19] at H
                have c19b0 : decide (a0_4 < (-11000)) = false := decide_eq_false c19
                clear c19
                have H' := Aside0.mk H
                clear H
                have hcz21_0 : w6.cell? ⟨gb334, 0, none⟩ = some (.bool a0_0) := (blk_cell BK334.out 0).trans rfl
                have hcz21_1 : w6.cell? ⟨gb334, 1, none⟩ = some (.slice A0_1 l0_1.length c0_1) := (blk_cell BK334.out 1).trans rfl
                have hcz21_2 : w6.cell? ⟨gb334, 2, none⟩ = some (.slice A0_2 l0_2.length c0_2) := (blk_cell BK334.out 2).trans rfl
                have hcz21_3 : w6.cell? ⟨gb334, 3, none⟩ = some (.bool false) := (blk_cell BK334.out 3).trans rfl
                have hcz21_4 : w6.cell? ⟨gb334, 4, none⟩ = some (.int .i64 a0_4) := (blk_cell BK334.out 4).trans rfl
                have hcz21_5 : w6.cell? ⟨gb334, 5, none⟩ = some (.int .i64 a0_5) := (blk_cell BK334.out 5).trans rfl
                have hcz21_6 : w6.cell? ⟨gb334, 6, none⟩ = some (.int .i64 a0_6) := (blk_cell BK334.out 6).trans rfl
                have hcz21_7 : w6.cell? ⟨gb334, 7, none⟩ = some (.bool a0_7) := (blk_cell BK334.out 7).trans rfl
                have hfz21_0 := blk_frozen BK334.out 0
                have hfz21_1 := blk_frozen BK334.out 1
                have hfz21_2 := blk_frozen BK334.out 2
                have hfz21_3 := blk_frozen BK334.out 3
                have hfz21_4 := blk_frozen BK334.out 4
                have hfz21_5 := blk_frozen BK334.out 5
                have hfz21_6 := blk_frozen BK334.out 6
                have hfz21_7 := blk_frozen BK334.out 7
                go_wp2
                go_meet
                case rel => exact ⟨_, (decide (a0_4 > 11000)), (by first | rfl | (simp; done) | (simp [*]; done) | (simp; first | exact given_isEmpty _ | exact (given_isEmpty _).symm) | (unfold wrap64; omega) | (congr 1; unfold wrap64; omega)), H', ⟨by first | omega | exact Nat.le_refl _⟩, ⟨by (with_reducible repeat (first | refine blk_drewN ?_ _ | refine blk_drew ?_ | refine blk_alloc ?_ _)); exact BK334.out⟩, ⟨by repeat (first | (with_reducible first | exact HB.out | apply below_alloc | apply pw_below_drewN | apply below_drew1 | refine below_set ?_ GE334.out) | exact HB.out)⟩⟩
    case rest =>
      clear HC4
      try clear c1
      try clear p2
      try clear c3
      try clear c6
      try clear p6
      try clear c7
      try clear c7b0
      try clear c7b1
      try clear c9
      try clear c9b0
      try clear c9b1
      try clear c11
      try clear c11b0
      try clear c11b1
      try clear c11b2
      try clear c13
      try clear c14
      try clear c14b0
      try clear c14b1
      try clear c14b2
      try clear c16
      try clear c16b0
      try clear c19
      try clear c19b0
      try clear hcz10_0
      try clear hcz10_1
      try clear hcz10_2
      try clear hcz10_3
      try clear hcz10_4
      try clear hcz10_5
      try clear hcz10_6
      try clear hcz10_7
      try clear hcz12_0
      try clear hcz12_1
      try clear hcz12_2
      try clear hcz12_3
      try clear hcz12_4
      try clear hcz12_5
      try clear hcz12_6
      try clear hcz12_7
      try clear hcz15_0
      try clear hcz15_1
      try clear hcz15_2
      try clear hcz15_3
      try clear hcz15_4
      try clear hcz15_5
      try clear hcz15_6
      try clear hcz15_7
      try clear hcz17_0
      try clear hcz17_1
      try clear hcz17_2
      try clear hcz17_3
      try clear hcz17_4
      try clear hcz17_5
      try clear hcz17_6
      try clear hcz17_7
      try clear hcz18_0
      try clear hcz18_1
      try clear hcz18_2
      try clear hcz18_3
      try clear hcz18_4
      try clear hcz18_5
      try clear hcz18_6
      try clear hcz18_7
      try clear hcz20_0
      try clear hcz20_1
      try clear hcz20_2
      try clear hcz20_3
      try clear hcz20_4
      try clear hcz20_5
      try clear hcz20_6
      try clear hcz20_7
      try clear hcz21_0
      try clear hcz21_1
      try clear hcz21_2
      try clear hcz21_3
      try clear hcz21_4
      try clear hcz21_5
      try clear hcz21_6
      try clear hcz21_7
      try clear hcz8_0
      try clear hcz8_1
      try clear hcz8_2
      try clear hcz8_3
      try clear hcz8_4
      try clear hcz8_5
      try clear hcz8_6
      try clear hcz8_7
      try clear hfz10_0
      try clear hfz10_1
      try clear hfz10_2
      try clear hfz10_3
      try clear hfz10_4
      try clear hfz10_5
      try clear hfz10_6
      try clear hfz10_7
      try clear hfz12_0
      try clear hfz12_1
      try clear hfz12_2
      try clear hfz12_3
      try clear hfz12_4
      try clear hfz12_5
      try clear hfz12_6
      try clear hfz12_7
      try clear hfz15_0
      try clear hfz15_1
      try clear hfz15_2
      try clear hfz15_3
      try clear hfz15_4
      try clear hfz15_5
      try clear hfz15_6
      try clear hfz15_7
      try clear hfz17_0
      try clear hfz17_1
      try clear hfz17_2
      try clear hfz17_3
      try clear hfz17_4
      try clear hfz17_5
      try clear hfz17_6
      try clear hfz17_7
      try clear hfz18_0
      try clear hfz18_1
      try clear hfz18_2
      try clear hfz18_3
      try clear hfz18_4
      try clear hfz18_5
      try clear hfz18_6
      try clear hfz18_7
      try clear hfz20_0
      try clear hfz20_1
      try clear hfz20_2
      try clear hfz20_3
      try clear hfz20_4
      try clear hfz20_5
      try clear hfz20_6
      try clear hfz20_7
      try clear hfz21_0
      try clear hfz21_1
      try clear hfz21_2
      try clear hfz21_3
      try clear hfz21_4
      try clear hfz21_5
      try clear hfz21_6
      try clear hfz21_7
      try clear hfz8_0
      try clear hfz8_1
      try clear hfz8_2
      try clear hfz8_3
      try clear hfz8_4
      try clear hfz8_5
      try clear hfz8_6
      try clear hfz8_7
      obtain ⟨kq, x44_3, rfl, HA, HJ3, BK334, HB⟩ := hcut
      cases kq with
      | zero => exact absurd HA.out (by simp [florinlaw02_DecParses.j0])
      | succ kj3 =>
        have H := HA.out
        clear HA
        simp only [florinlaw02_DecParses.j0] at H
        by_cases c22 : x44_3 = true
        · subst c22
          have H1 : (some true) = some r := by rw [if_pos rfl] at H; exact H
          clear H
          have H := H1
          clear H1
          obtain rfl := Option.some.inj H
          go_wp2
          go_ret
          exact ⟨by first | rfl | (simp [errW_none, errW_some] <;> rfl) | (simp [*, errW_none, errW_some] <;> first | rfl | exact given_isEmpty _ | exact (given_isEmpty _).symm), by repeat (first | (with_reducible first | exact HB.out | apply below_alloc | apply pw_below_drewN | apply below_drew1 | refine below_set ?_ GE334.out) | exact HB.out)⟩
        · replace c22 := Bool.eq_false_iff.mpr c22
          subst c22
          have H1 : ((florinlaw02_Text_Write.f kj3 a0_0 l0_1 l0_2 a0_3 a0_4 a0_5 a0_6 a0_7).bind fun t336 => ((dec_Parse.f kj3 t336).bind fun bt337 => ((florinlaw01_Digits.f kj3 l0_1).bind fun t342 => (if a0_3 = true then ((florinlaw01_Digits.f kj3 l0_2).bind fun t343 => (if t342.size + t343.size ≤ 9223372036854775807 then (florinlaw02_DecParses.j1 kj3 bt337.2.2.2 (t342 ++ t343) (wrap64 (-(l0_2.length : Int))) a0_0 l0_1 l0_2 a0_3 a0_4 a0_5 a0_6 a0_7 bt337.1 bt337.2.1 bt337.2.2.1) else (none))) else (florinlaw02_DecParses.j1 kj3 bt337.2.2.2 t342 0 a0_0 l0_1 l0_2 a0_3 a0_4 a0_5 a0_6 a0_7 bt337.1 bt337.2.1 bt337.2.2.1))))) = some r := by rw [if_neg (show ¬ (false = true) by decide)] at H; exact H
          clear H
          have H := H1
          clear H1
          replace H := Option.bind_eq_some_iff.mp H
          obtain ⟨t336, A230, H⟩ := H
          replace H : ((dec_Parse.f kj3 t336).bind fun bt337 => ((florinlaw01_Digits.f kj3 l0_1).bind fun t342 => (if a0_3 = true then ((florinlaw01_Digits.f kj3 l0_2).bind fun t343 => (if t342.size + t343.size ≤ 9223372036854775807 then (florinlaw02_DecParses.j1 kj3 bt337.2.2.2 (t342 ++ t343) (wrap64 (-(l0_2.length : Int))) a0_0 l0_1 l0_2 a0_3 a0_4 a0_5 a0_6 a0_7 bt337.1 bt337.2.1 bt337.2.2.1) else (none))) else (florinlaw02_DecParses.j1 kj3 bt337.2.2.2 t342 0 a0_0 l0_1 l0_2 a0_3 a0_4 a0_5 a0_6 a0_7 bt337.1 bt337.2.1 bt337.2.2.1)))) = some r := H
          have A23 := Aside0.mk A230
          clear A230
          replace H := Option.bind_eq_some_iff.mp H
          obtain ⟨⟨t337, t338, t339, t340⟩, A240, H⟩ := H
          replace H : ((florinlaw01_Digits.f kj3 l0_1).bind fun t342 => (if a0_3 = true then ((florinlaw01_Digits.f kj3 l0_2).bind fun t343 => (if t342.size + t343.size ≤ 9223372036854775807 then (florinlaw02_DecParses.j1 kj3 t340 (t342 ++ t343) (wrap64 (-(l0_2.length : Int))) a0_0 l0_1 l0_2 a0_3 a0_4 a0_5 a0_6 a0_7 t337 t338 t339) else (none))) else (florinlaw02_DecParses.j1 kj3 t340 t342 0 a0_0 l0_1 l0_2 a0_3 a0_4 a0_5 a0_6 a0_7 t337 t338 t339))) = some r := H
          have A24 := Aside0.mk A240
          clear A240
          replace H := Option.bind_eq_some_iff.mp H
          obtain ⟨t342, A250, H⟩ := H
          replace H : (if a0_3 = true then ((florinlaw01_Digits.f kj3 l0_2).bind fun t343 => (if t342.size + t343.size ≤ 9223372036854775807 then (florinlaw02_DecParses.j1 kj3 t340 (t342 ++ t343) (wrap64 (-(l0_2.length : Int))) a0_0 l0_1 l0_2 a0_3 a0_4 a0_5 a0_6 a0_7 t337 t338 t339) else (none))) else (florinlaw02_DecParses.j1 kj3 t340 t342 0 a0_0 l0_1 l0_2 a0_3 a0_4 a0_5 a0_6 a0_7 t337 t338 t339)) = some r := H
          have A25 := Aside0.mk A250
          clear A250
          have HC26 := Aside0.mk H
          clear H
          have hcz27_0 : wc.cell? ⟨gb334, 0, none⟩ = some (.bool a0_0) := (blk_cell BK334.out 0).trans rfl
          have hcz27_1 : wc.cell? ⟨gb334, 1, none⟩ = some (.slice A0_1 l0_1.length c0_1) := (blk_cell BK334.out 1).trans rfl
          have hcz27_2 : wc.cell? ⟨gb334, 2, none⟩ = some (.slice A0_2 l0_2.length c0_2) := (blk_cell BK334.out 2).trans rfl
          have hcz27_3 : wc.cell? ⟨gb334, 3, none⟩ = some (.bool a0_3) := (blk_cell BK334.out 3).trans rfl
          have hcz27_4 : wc.cell? ⟨gb334, 4, none⟩ = some (.int .i64 a0_4) := (blk_cell BK334.out 4).trans rfl
          have hcz27_5 : wc.cell? ⟨gb334, 5, none⟩ = some (.int .i64 a0_5) := (blk_cell BK334.out 5).trans rfl
          have hcz27_6 : wc.cell? ⟨gb334, 6, none⟩ = some (.int .i64 a0_6) := (blk_cell BK334.out 6).trans rfl
          have hcz27_7 : wc.cell? ⟨gb334, 7, none⟩ = some (.bool a0_7) := (blk_cell BK334.out 7).trans rfl
          have hfz27_0 := blk_frozen BK334.out 0
          have hfz27_1 := blk_frozen BK334.out 1
          have hfz27_2 := blk_frozen BK334.out 2
          have hfz27_3 := blk_frozen BK334.out 3
          have hfz27_4 := blk_frozen BK334.out 4
          have hfz27_5 := blk_frozen BK334.out 5
          have hfz27_6 := blk_frozen BK334.out 6
          have hfz27_7 := blk_frozen BK334.out 7
          go_upto_if 55 with (first | ((with_reducible refine gate_callee (f := 26) rfl ?_); refine goesL_ (some 47) rfl rfl Tryd.func26 (by kernel_rfl) rfl #[.agg #[.bool a0_0, .slice A0_1 l0_1.length c0_1, .slice A0_2 l0_2.length c0_2, .bool a0_3, .int .i64 a0_4, .int .i64 a0_5, .int .i64 a0_6, .bool a0_7]] rfl (by (try simp only [List.map_toArray, List.map_cons, List.map_nil]); first | done | rfl | (simp only [List.length_drop, List.length_take]; rfl) | (have z_ : ∀ s_ : ByteArray, s_.size ≤ 9223372036854775807 → -(s_.size : Int) = wrap64 (-(s_.size : Int)) := (fun s_ h_ => by unfold wrap64; omega); rw [← z_ _ (by omega)]; rfl)) ?_; (with_reducible refine (florinlaw02_Text_Write.calls kj3 a0_0 _ _ l0_1 _ _ l0_2 a0_3 a0_4 a0_5 a0_6 a0_7 t336 _ ?side1 ?side2 ?side3 ?side4 A23.out).mono ?_); (case side1 => repeat (first | exact (Kd.C_below HR0_1.out HB.out) | (with_reducible refine Kd.C_alloc ?_ _) | (with_reducible refine Kd.C_drewN ?_ _) | (with_reducible refine Kd.C_drew ?_))); (case side2 => exact HC0_1.out); (case side3 => repeat (first | exact (Kd.C_below HR0_2.out HB.out) | (with_reducible refine Kd.C_alloc ?_ _) | (with_reducible refine Kd.C_drewN ?_ _) | (with_reducible refine Kd.C_drew ?_))); (case side4 => exact HC0_2.out); rintro e w28 ⟨rfl, hb⟩; refine ⟨_, rfl, ?_⟩; have n0_ := bb_ BK334 hb; have n1_ := Aside0.mk (below_step (by repeat (first | (with_reducible first | exact HB.out | apply below_alloc | apply pw_below_drewN | apply below_drew1 | refine below_set ?_ GE334.out) | exact HB.out)) hb); clear BK334; clear HB; have BK334 := n0_; have HB := n1_; clear n0_ n1_; (try clear hb); (try clear hb2); (try clear hk); (try clear hi)) | ((with_reducible refine gate_callee (f := 12) rfl ?_); refine goesL_ (some 48) rfl rfl Tryd.func12 (by kernel_rfl) rfl #[.string t336] rfl (by (try simp only [List.map_toArray, List.map_cons, List.map_nil]); first | done | rfl | (simp only [List.length_drop, List.length_take]; rfl) | (have z_ : ∀ s_ : ByteArray, s_.size ≤ 9223372036854775807 → -(s_.size : Int) = wrap64 (-(s_.size : Int)) := (fun s_ h_ => by unfold wrap64; omega); rw [← z_ _ (by omega)]; rfl)) ?_; (with_reducible refine (dec_Parse.calls kj3 t336 t337 t338 t339 t340 _ A24.out).mono ?_); rintro e w29 ⟨rfl, hb⟩; refine ⟨_, rfl, ?_⟩; have n0_ := bb_ BK334 hb; have n1_ := Aside0.mk (below_step (by repeat (first | (with_reducible first | exact HB.out | apply below_alloc | apply pw_below_drewN | apply below_drew1 | refine below_set ?_ GE334.out) | exact HB.out)) hb); clear BK334; clear HB; have BK334 := n0_; have HB := n1_; clear n0_ n1_; (try clear hb); (try clear hb2); (try clear hk); (try clear hi)) | ((with_reducible refine gate_dst (N := 3) rfl ?_); (try (refine gate_guard (by rfl) ?_; dsimp only)); refine box_event ?hg (N := 3) ?hd (cs := #[.bool false, .string (⟨#[]⟩ : ByteArray), .int .i64 0]) (t := 24) ?hr ?_; (case hd => rfl); (case hg => rfl); (case hr => first | (go_simp; done) | (go_simp; rfl)); intro gb341 hg w30 hbox hb; have n0_ := bb_ BK334 hb; have n1_ := Aside0.mk (below_step (by repeat (first | (with_reducible first | exact HB.out | apply below_alloc | apply pw_below_drewN | apply below_drew1 | refine below_set ?_ GE334.out) | exact HB.out)) hb); have n2_ := Aside0.mk (hbox); have n3_ := Aside0.mk ((by rw [hg]; exact (below_size (by repeat (first | (with_reducible first | exact HB.out | apply below_alloc | apply pw_below_drewN | apply below_drew1 | refine below_set ?_ GE334.out) | exact HB.out))) : w.heap.size ≤ gb341)); have n4_ := Aside0.mk ((by rw [hg]; exact (below_size (by repeat (first | (with_reducible first | exact HB.out | apply below_alloc | apply pw_below_drewN | apply below_drew1 | refine below_set ?_ GE334.out) | exact HB.out))) : w.heap.size ≤ gb341)); have n5_ := Aside0.mk ((by rw [hg]; exact Nat.ne_of_lt (blk_lt (g := gb334) (o := .cells #[.bool a0_0, .slice A0_1 l0_1.length c0_1, .slice A0_2 l0_2.length c0_2, .bool a0_3, .int .i64 a0_4, .int .i64 a0_5, .int .i64 a0_6, .bool a0_7] 46 (0, 0)) (by (with_reducible repeat (first | refine blk_drewN ?_ _ | refine blk_drew ?_ | refine blk_alloc ?_ _)); exact BK334.out)) : gb334 ≠ gb341)); have n6_ := Aside0.mk ((by rw [hg]; exact Nat.ne_of_gt (blk_lt (g := gb334) (o := .cells #[.bool a0_0, .slice A0_1 l0_1.length c0_1, .slice A0_2 l0_2.length c0_2, .bool a0_3, .int .i64 a0_4, .int .i64 a0_5, .int .i64 a0_6, .bool a0_7] 46 (0, 0)) (by (with_reducible repeat (first | refine blk_drewN ?_ _ | refine blk_drew ?_ | refine blk_alloc ?_ _)); exact BK334.out)) : gb341 ≠ gb334)); clear BK334; clear HB; have BK334 := n0_; have HB := n1_; have BK341 := n2_; have GW341 := n3_; have GE341 := n4_; have NB334_341 := n5_; have NB341_334 := n6_; clear n0_ n1_ n2_ n3_ n4_ n5_ n6_; clear hb hbox hg; have hnb31 := NB341_334.out; have hnc31 := NB334_341.out; have hcz32_0 : w30.cell? ⟨gb341, 0, none⟩ = some (.bool false) := (blk_cell BK341.out 0).trans rfl; have hcz32_1 : w30.cell? ⟨gb341, 1, none⟩ = some (.string (⟨#[]⟩ : ByteArray)) := (blk_cell BK341.out 1).trans rfl; have hcz32_2 : w30.cell? ⟨gb341, 2, none⟩ = some (.int .i64 0) := (blk_cell BK341.out 2).trans rfl; have hfz32_0 := blk_frozen BK341.out 0; have hfz32_1 := blk_frozen BK341.out 1; have hfz32_2 := blk_frozen BK341.out 2; have hcz33_0 : w30.cell? ⟨gb334, 0, none⟩ = some (.bool a0_0) := (blk_cell BK334.out 0).trans rfl; have hcz33_1 : w30.cell? ⟨gb334, 1, none⟩ = some (.slice A0_1 l0_1.length c0_1) := (blk_cell BK334.out 1).trans rfl; have hcz33_2 : w30.cell? ⟨gb334, 2, none⟩ = some (.slice A0_2 l0_2.length c0_2) := (blk_cell BK334.out 2).trans rfl; have hcz33_3 : w30.cell? ⟨gb334, 3, none⟩ = some (.bool a0_3) := (blk_cell BK334.out 3).trans rfl; have hcz33_4 : w30.cell? ⟨gb334, 4, none⟩ = some (.int .i64 a0_4) := (blk_cell BK334.out 4).trans rfl; have hcz33_5 : w30.cell? ⟨gb334, 5, none⟩ = some (.int .i64 a0_5) := (blk_cell BK334.out 5).trans rfl; have hcz33_6 : w30.cell? ⟨gb334, 6, none⟩ = some (.int .i64 a0_6) := (blk_cell BK334.out 6).trans rfl; have hcz33_7 : w30.cell? ⟨gb334, 7, none⟩ = some (.bool a0_7) := (blk_cell BK334.out 7).trans rfl; have hfz33_0 := blk_frozen BK334.out 0; have hfz33_1 := blk_frozen BK334.out 1; have hfz33_2 := blk_frozen BK334.out 2; have hfz33_3 := blk_frozen BK334.out 3; have hfz33_4 := blk_frozen BK334.out 4; have hfz33_5 := blk_frozen BK334.out 5; have hfz33_6 := blk_frozen BK334.out 6; have hfz33_7 := blk_frozen BK334.out 7) | ((with_reducible refine gate_callee (f := 27) rfl ?_); refine goesL_ (some 53) rfl rfl Tryd.func27 (by kernel_rfl) rfl #[.slice A0_1 l0_1.length c0_1] rfl (by (try simp only [List.map_toArray, List.map_cons, List.map_nil]); first | done | rfl | (simp only [List.length_drop, List.length_take]; rfl) | (have z_ : ∀ s_ : ByteArray, s_.size ≤ 9223372036854775807 → -(s_.size : Int) = wrap64 (-(s_.size : Int)) := (fun s_ h_ => by unfold wrap64; omega); rw [← z_ _ (by omega)]; rfl)) ?_; (with_reducible refine (florinlaw01_Digits.calls kj3 _ _ l0_1 t342 _ ?side1 ?side2 A25.out).mono ?_); (case side1 => exact Kd.C_below HR0_1.out (by repeat (first | (with_reducible first | exact HB.out | apply below_alloc | apply pw_below_drewN | apply below_drew1 | refine below_set ?_ GE334.out | refine below_set ?_ GE341.out) | exact HB.out))); (case side2 => exact HC0_1.out); rintro e w34 ⟨rfl, hb⟩; refine ⟨_, rfl, ?_⟩; have n0_ := Aside0.mk (blk_below (g := gb334) (o := .cells #[.bool a0_0, .slice A0_1 l0_1.length c0_1, .slice A0_2 l0_2.length c0_2, .bool a0_3, .int .i64 a0_4, .int .i64 a0_5, .int .i64 a0_6, .bool a0_7] 46 (0, 0)) (by (with_reducible repeat (first | refine blk_drewN ?_ _ | refine blk_drew ?_ | refine blk_alloc ?_ _)); refine blk_far ?_ NB334_341.out _; (with_reducible repeat (first | refine blk_drewN ?_ _ | refine blk_drew ?_ | refine blk_alloc ?_ _)); refine blk_far ?_ NB334_341.out _; (with_reducible repeat (first | refine blk_drewN ?_ _ | refine blk_drew ?_ | refine blk_alloc ?_ _)); refine blk_far ?_ NB334_341.out _; (with_reducible repeat (first | refine blk_drewN ?_ _ | refine blk_drew ?_ | refine blk_alloc ?_ _)); exact BK334.out) hb); have n1_ := Aside0.mk (blk_below (g := gb341) (o := .cells #[.bool t337, .string t338, .int .i64 t339] 24 (0, 0)) (by (with_reducible repeat (first | refine blk_drewN ?_ _ | refine blk_drew ?_ | refine blk_alloc ?_ _)); refine blk_put (cs := #[.bool t337, .string t338, .int .i64 0]) ?_ 2 _ rfl; (with_reducible repeat (first | refine blk_drewN ?_ _ | refine blk_drew ?_ | refine blk_alloc ?_ _)); refine blk_put (cs := #[.bool t337, .string (⟨#[]⟩ : ByteArray), .int .i64 0]) ?_ 1 _ rfl; (with_reducible repeat (first | refine blk_drewN ?_ _ | refine blk_drew ?_ | refine blk_alloc ?_ _)); refine blk_put (cs := #[.bool false, .string (⟨#[]⟩ : ByteArray), .int .i64 0]) ?_ 0 _ rfl; (with_reducible repeat (first | refine blk_drewN ?_ _ | refine blk_drew ?_ | refine blk_alloc ?_ _)); exact BK341.out) hb); have n2_ := Aside0.mk (below_step (by repeat (first | (with_reducible first | exact HB.out | apply below_alloc | apply pw_below_drewN | apply below_drew1 | refine below_set ?_ GE334.out | refine below_set ?_ GE341.out) | exact HB.out)) hb); clear BK334; clear BK341; clear HB; have BK334 := n0_; have BK341 := n1_; have HB := n2_; clear n0_ n1_ n2_; (try clear hb); (try clear hb2); (try clear hk); (try clear hi); have hcz35_0 : w34.cell? ⟨gb334, 0, none⟩ = some (.bool a0_0) := (blk_cell BK334.out 0).trans rfl; have hcz35_1 : w34.cell? ⟨gb334, 1, none⟩ = some (.slice A0_1 l0_1.length c0_1) := (blk_cell BK334.out 1).trans rfl; have hcz35_2 : w34.cell? ⟨gb334, 2, none⟩ = some (.slice A0_2 l0_2.length c0_2) := (blk_cell BK334.out 2).trans rfl; have hcz35_3 : w34.cell? ⟨gb334, 3, none⟩ = some (.bool a0_3) := (blk_cell BK334.out 3).trans rfl; have hcz35_4 : w34.cell? ⟨gb334, 4, none⟩ = some (.int .i64 a0_4) := (blk_cell BK334.out 4).trans rfl; have hcz35_5 : w34.cell? ⟨gb334, 5, none⟩ = some (.int .i64 a0_5) := (blk_cell BK334.out 5).trans rfl; have hcz35_6 : w34.cell? ⟨gb334, 6, none⟩ = some (.int .i64 a0_6) := (blk_cell BK334.out 6).trans rfl; have hcz35_7 : w34.cell? ⟨gb334, 7, none⟩ = some (.bool a0_7) := (blk_cell BK334.out 7).trans rfl; have hfz35_0 := blk_frozen BK334.out 0; have hfz35_1 := blk_frozen BK334.out 1; have hfz35_2 := blk_frozen BK334.out 2; have hfz35_3 := blk_frozen BK334.out 3; have hfz35_4 := blk_frozen BK334.out 4; have hfz35_5 := blk_frozen BK334.out 5; have hfz35_6 := blk_frozen BK334.out 6; have hfz35_7 := blk_frozen BK334.out 7))
          (try simp only [Act.put, List.setIfInBounds_toArray, List.set_cons_zero, List.set_cons_succ])
          go_cut [5, 6] (fun v5 v6 wc => ∃ (kq : Nat) (x5_25 : ByteArray) (x6_25 : Int), v5 = .string x5_25 ∧ v6 = .int .i64 x6_25 ∧ Aside0 (florinlaw02_DecParses.j1 kq t340 x5_25 x6_25 a0_0 l0_1 l0_2 a0_3 a0_4 a0_5 a0_6 a0_7 t337 t338 t339 = some r) ∧ Aside0 (kq ≤ kj3) ∧ Aside0 (wc.heap[gb334]? = some (.cells #[.bool a0_0, (.slice A0_1 l0_1.length c0_1), (.slice A0_2 l0_2.length c0_2), .bool a0_3, .int .i64 a0_4, .int .i64 a0_5, .int .i64 a0_6, .bool a0_7] 46 (0, 0))) ∧ Aside0 (wc.heap[gb341]? = some (.cells #[.bool t337, .string t338, .int .i64 t339] 24 (0, 0))) ∧ Aside0 (Below w.heap.size w wc))
          case first =>
            have H := HC26.out
            clear HC26
            by_cases c36 : a0_3 = true
            · subst c36
              have H1 : ((florinlaw01_Digits.f kj3 l0_2).bind fun t343 => (if t342.size + t343.size ≤ 9223372036854775807 then (florinlaw02_DecParses.j1 kj3 t340 (t342 ++ t343) (wrap64 (-(l0_2.length : Int))) a0_0 l0_1 l0_2 true a0_4 a0_5 a0_6 a0_7 t337 t338 t339) else (none))) = some r := by rw [if_pos rfl] at H; exact H
              clear H
              have H := H1
              clear H1
              replace H := Option.bind_eq_some_iff.mp H
              obtain ⟨t343, A370, H⟩ := H
              replace H : (if t342.size + t343.size ≤ 9223372036854775807 then (florinlaw02_DecParses.j1 kj3 t340 (t342 ++ t343) (wrap64 (-(l0_2.length : Int))) a0_0 l0_1 l0_2 true a0_4 a0_5 a0_6 a0_7 t337 t338 t339) else (none)) = some r := H
              have A37 := Aside0.mk A370
              clear A370
              by_cases c38 : t342.size + t343.size ≤ 9223372036854775807
              · rw [if_pos c38] at H
                have c38b0 := eq_true c38
                have c38b1 : decide (t342.size + t343.size ≤ 9223372036854775807) = true := decide_eq_true c38
                try have c38b2 : (9223372036854775807 < t342.size + t343.size) = False := eq_false (Nat.not_lt.2 c38)
                have H' := Aside0.mk H
                clear H
                have hnb39 := NB334_341.out
                have hnc39 := NB341_334.out
                have hcz40_0 : w34.cell? ⟨gb334, 0, none⟩ = some (.bool a0_0) := (blk_cell BK334.out 0).trans rfl
                have hcz40_1 : w34.cell? ⟨gb334, 1, none⟩ = some (.slice A0_1 l0_1.length c0_1) := (blk_cell BK334.out 1).trans rfl
                have hcz40_2 : w34.cell? ⟨gb334, 2, none⟩ = some (.slice A0_2 l0_2.length c0_2) := (blk_cell BK334.out 2).trans rfl
                have hcz40_3 : w34.cell? ⟨gb334, 3, none⟩ = some (.bool true) := (blk_cell BK334.out 3).trans rfl
                have hcz40_4 : w34.cell? ⟨gb334, 4, none⟩ = some (.int .i64 a0_4) := (blk_cell BK334.out 4).trans rfl
                have hcz40_5 : w34.cell? ⟨gb334, 5, none⟩ = some (.int .i64 a0_5) := (blk_cell BK334.out 5).trans rfl
                have hcz40_6 : w34.cell? ⟨gb334, 6, none⟩ = some (.int .i64 a0_6) := (blk_cell BK334.out 6).trans rfl
                have hcz40_7 : w34.cell? ⟨gb334, 7, none⟩ = some (.bool a0_7) := (blk_cell BK334.out 7).trans rfl
                have hfz40_0 := blk_frozen BK334.out 0
                have hfz40_1 := blk_frozen BK334.out 1
                have hfz40_2 := blk_frozen BK334.out 2
                have hfz40_3 := blk_frozen BK334.out 3
                have hfz40_4 := blk_frozen BK334.out 4
                have hfz40_5 := blk_frozen BK334.out 5
                have hfz40_6 := blk_frozen BK334.out 6
                have hfz40_7 := blk_frozen BK334.out 7
                go_wp2_with (first | ((with_reducible refine gate_callee (f := 27) rfl ?_); refine goesL_ (some 59) rfl rfl Tryd.func27 (by kernel_rfl) rfl #[.slice A0_2 l0_2.length c0_2] rfl (by (try simp only [List.map_toArray, List.map_cons, List.map_nil]); first | done | rfl | (simp only [List.length_drop, List.length_take]; rfl) | (have z_ : ∀ s_ : ByteArray, s_.size ≤ 9223372036854775807 → -(s_.size : Int) = wrap64 (-(s_.size : Int)) := (fun s_ h_ => by unfold wrap64; omega); rw [← z_ _ (by omega)]; rfl)) ?_; (with_reducible refine (florinlaw01_Digits.calls kj3 _ _ l0_2 t343 _ ?side1 ?side2 A37.out).mono ?_); (case side1 => repeat (first | exact (Kd.C_below HR0_2.out HB.out) | (with_reducible refine Kd.C_alloc ?_ _) | (with_reducible refine Kd.C_drewN ?_ _) | (with_reducible refine Kd.C_drew ?_))); (case side2 => exact HC0_2.out); rintro e w41 ⟨rfl, hb⟩; refine ⟨_, rfl, ?_⟩; have n0_ := bb_ BK334 hb; have n1_ := bb_ BK341 hb; have n2_ := Aside0.mk (below_step (by repeat (first | (with_reducible first | exact HB.out | apply below_alloc | apply pw_below_drewN | apply below_drew1 | refine below_set ?_ GE334.out | refine below_set ?_ GE341.out) | exact HB.out)) hb); clear BK334; clear BK341; clear HB; have BK334 := n0_; have BK341 := n1_; have HB := n2_; clear n0_ n1_ n2_; (try clear hb); (try clear hb2); (try clear hk); (try clear hi); have hcz42_0 : w41.cell? ⟨gb334, 0, none⟩ = some (.bool a0_0) := (blk_cell BK334.out 0).trans rfl; have hcz42_1 : w41.cell? ⟨gb334, 1, none⟩ = some (.slice A0_1 l0_1.length c0_1) := (blk_cell BK334.out 1).trans rfl; have hcz42_2 : w41.cell? ⟨gb334, 2, none⟩ = some (.slice A0_2 l0_2.length c0_2) := (blk_cell BK334.out 2).trans rfl; have hcz42_3 : w41.cell? ⟨gb334, 3, none⟩ = some (.bool true) := (blk_cell BK334.out 3).trans rfl; have hcz42_4 : w41.cell? ⟨gb334, 4, none⟩ = some (.int .i64 a0_4) := (blk_cell BK334.out 4).trans rfl; have hcz42_5 : w41.cell? ⟨gb334, 5, none⟩ = some (.int .i64 a0_5) := (blk_cell BK334.out 5).trans rfl; have hcz42_6 : w41.cell? ⟨gb334, 6, none⟩ = some (.int .i64 a0_6) := (blk_cell BK334.out 6).trans rfl; have hcz42_7 : w41.cell? ⟨gb334, 7, none⟩ = some (.bool a0_7) := (blk_cell BK334.out 7).trans rfl; have hfz42_0 := blk_frozen BK334.out 0; have hfz42_1 := blk_frozen BK334.out 1; have hfz42_2 := blk_frozen BK334.out 2; have hfz42_3 := blk_frozen BK334.out 3; have hfz42_4 := blk_frozen BK334.out 4; have hfz42_5 := blk_frozen BK334.out 5; have hfz42_6 := blk_frozen BK334.out 6; have hfz42_7 := blk_frozen BK334.out 7))
                go_meet
                case rel => exact ⟨_, (t342 ++ t343), (wrap64 (-(l0_2.length : Int))), (by first | rfl | (simp; done) | (simp [*]; done) | (simp; first | exact given_isEmpty _ | exact (given_isEmpty _).symm) | (unfold wrap64; omega) | (congr 1; unfold wrap64; omega)), (by first | rfl | (simp; done) | (simp [*]; done) | (simp; first | exact given_isEmpty _ | exact (given_isEmpty _).symm) | (unfold wrap64; omega) | (congr 1; unfold wrap64; omega)), H', ⟨by have := HJ3.out; first | omega | exact Nat.le_refl _⟩, ⟨by (with_reducible repeat (first | refine blk_drewN ?_ _ | refine blk_drew ?_ | refine blk_alloc ?_ _)); exact BK334.out⟩, ⟨by (with_reducible repeat (first | refine blk_drewN ?_ _ | refine blk_drew ?_ | refine blk_alloc ?_ _)); exact BK341.out⟩, ⟨by repeat (first | (with_reducible first | exact HB.out | apply below_alloc | apply pw_below_drewN | apply below_drew1 | refine below_set ?_ GE334.out | refine below_set ?_ GE341.out) | exact HB.out)⟩⟩
              · rw [if_neg c38] at H
                exact absurd H (by simp)
            · replace c36 := Bool.eq_false_iff.mpr c36
              subst c36
              have H1 : (florinlaw02_DecParses.j1 kj3 t340 t342 0 a0_0 l0_1 l0_2 false a0_4 a0_5 a0_6 a0_7 t337 t338 t339) = some r := by rw [if_neg (show ¬ (false = true) by decide)] at H; exact H
              clear H
              have H := H1
              clear H1
              have H' := Aside0.mk H
              clear H
              go_wp2
              go_meet
              case rel => exact ⟨_, (t342), (0), (by first | rfl | (simp; done) | (simp [*]; done) | (simp; first | exact given_isEmpty _ | exact (given_isEmpty _).symm) | (unfold wrap64; omega) | (congr 1; unfold wrap64; omega)), (by first | rfl | (simp; done) | (simp [*]; done) | (simp; first | exact given_isEmpty _ | exact (given_isEmpty _).symm) | (unfold wrap64; omega) | (congr 1; unfold wrap64; omega)), H', ⟨by have := HJ3.out; first | omega | exact Nat.le_refl _⟩, ⟨by (with_reducible repeat (first | refine blk_drewN ?_ _ | refine blk_drew ?_ | refine blk_alloc ?_ _)); exact BK334.out⟩, ⟨by (with_reducible repeat (first | refine blk_drewN ?_ _ | refine blk_drew ?_ | refine blk_alloc ?_ _)); exact BK341.out⟩, ⟨by repeat (first | (with_reducible first | exact HB.out | apply below_alloc | apply pw_below_drewN | apply below_drew1 | refine below_set ?_ GE334.out | refine below_set ?_ GE341.out) | exact HB.out)⟩⟩
          case rest =>
            clear HC26
            try clear c1
            try clear c2
            try clear p2
            try clear c3
            try clear c6
            try clear p6
            try clear c7
            try clear c7b0
            try clear c7b1
            try clear c9
            try clear c9b0
            try clear c9b1
            try clear c11
            try clear c11b0
            try clear c11b1
            try clear c11b2
            try clear c12
            try clear c13
            try clear c14
            try clear c14b0
            try clear c14b1
            try clear c14b2
            try clear c16
            try clear c16b0
            try clear c19
            try clear c19b0
            try clear c22
            try clear c26
            try clear c27
            try clear c31
            try clear c36
            try clear c38
            try clear c38b0
            try clear c38b1
            try clear c38b2
            try clear c39
            try clear hcz10_0
            try clear hcz10_1
            try clear hcz10_2
            try clear hcz10_3
            try clear hcz10_4
            try clear hcz10_5
            try clear hcz10_6
            try clear hcz10_7
            try clear hcz12_0
            try clear hcz12_1
            try clear hcz12_2
            try clear hcz12_3
            try clear hcz12_4
            try clear hcz12_5
            try clear hcz12_6
            try clear hcz12_7
            try clear hcz15_0
            try clear hcz15_1
            try clear hcz15_2
            try clear hcz15_3
            try clear hcz15_4
            try clear hcz15_5
            try clear hcz15_6
            try clear hcz15_7
            try clear hcz17_0
            try clear hcz17_1
            try clear hcz17_2
            try clear hcz17_3
            try clear hcz17_4
            try clear hcz17_5
            try clear hcz17_6
            try clear hcz17_7
            try clear hcz18_0
            try clear hcz18_1
            try clear hcz18_2
            try clear hcz18_3
            try clear hcz18_4
            try clear hcz18_5
            try clear hcz18_6
            try clear hcz18_7
            try clear hcz20_0
            try clear hcz20_1
            try clear hcz20_2
            try clear hcz20_3
            try clear hcz20_4
            try clear hcz20_5
            try clear hcz20_6
            try clear hcz20_7
            try clear hcz21_0
            try clear hcz21_1
            try clear hcz21_2
            try clear hcz21_3
            try clear hcz21_4
            try clear hcz21_5
            try clear hcz21_6
            try clear hcz21_7
            try clear hcz27_0
            try clear hcz27_1
            try clear hcz27_2
            try clear hcz27_3
            try clear hcz27_4
            try clear hcz27_5
            try clear hcz27_6
            try clear hcz27_7
            try clear hcz32_0
            try clear hcz32_1
            try clear hcz32_2
            try clear hcz33_0
            try clear hcz33_1
            try clear hcz33_2
            try clear hcz33_3
            try clear hcz33_4
            try clear hcz33_5
            try clear hcz33_6
            try clear hcz33_7
            try clear hcz35_0
            try clear hcz35_1
            try clear hcz35_2
            try clear hcz35_3
            try clear hcz35_4
            try clear hcz35_5
            try clear hcz35_6
            try clear hcz35_7
            try clear hcz40_0
            try clear hcz40_1
            try clear hcz40_2
            try clear hcz40_3
            try clear hcz40_4
            try clear hcz40_5
            try clear hcz40_6
            try clear hcz40_7
            try clear hcz42_0
            try clear hcz42_1
            try clear hcz42_2
            try clear hcz42_3
            try clear hcz42_4
            try clear hcz42_5
            try clear hcz42_6
            try clear hcz42_7
            try clear hcz8_0
            try clear hcz8_1
            try clear hcz8_2
            try clear hcz8_3
            try clear hcz8_4
            try clear hcz8_5
            try clear hcz8_6
            try clear hcz8_7
            try clear hfz10_0
            try clear hfz10_1
            try clear hfz10_2
            try clear hfz10_3
            try clear hfz10_4
            try clear hfz10_5
            try clear hfz10_6
            try clear hfz10_7
            try clear hfz12_0
            try clear hfz12_1
            try clear hfz12_2
            try clear hfz12_3
            try clear hfz12_4
            try clear hfz12_5
            try clear hfz12_6
            try clear hfz12_7
            try clear hfz15_0
            try clear hfz15_1
            try clear hfz15_2
            try clear hfz15_3
            try clear hfz15_4
            try clear hfz15_5
            try clear hfz15_6
            try clear hfz15_7
            try clear hfz17_0
            try clear hfz17_1
            try clear hfz17_2
            try clear hfz17_3
            try clear hfz17_4
            try clear hfz17_5
            try clear hfz17_6
            try clear hfz17_7
            try clear hfz18_0
            try clear hfz18_1
            try clear hfz18_2
            try clear hfz18_3
            try clear hfz18_4
            try clear hfz18_5
            try clear hfz18_6
            try clear hfz18_7
            try clear hfz20_0
            try clear hfz20_1
            try clear hfz20_2
            try clear hfz20_3
            try clear hfz20_4
            try clear hfz20_5
            try clear hfz20_6
            try clear hfz20_7
            try clear hfz21_0
            try clear hfz21_1
            try clear hfz21_2
            try clear hfz21_3
            try clear hfz21_4
            try clear hfz21_5
            try clear hfz21_6
            try clear hfz21_7
            try clear hfz27_0
            try clear hfz27_1
            try clear hfz27_2
            try clear hfz27_3
            try clear hfz27_4
            try clear hfz27_5
            try clear hfz27_6
            try clear hfz27_7
            try clear hfz32_0
            try clear hfz32_1
            try clear hfz32_2
            try clear hfz33_0
            try clear hfz33_1
            try clear hfz33_2
            try clear hfz33_3
            try clear hfz33_4
            try clear hfz33_5
            try clear hfz33_6
            try clear hfz33_7
            try clear hfz35_0
            try clear hfz35_1
            try clear hfz35_2
            try clear hfz35_3
            try clear hfz35_4
            try clear hfz35_5
            try clear hfz35_6
            try clear hfz35_7
            try clear hfz40_0
            try clear hfz40_1
            try clear hfz40_2
            try clear hfz40_3
            try clear hfz40_4
            try clear hfz40_5
            try clear hfz40_6
            try clear hfz40_7
            try clear hfz42_0
            try clear hfz42_1
            try clear hfz42_2
            try clear hfz42_3
            try clear hfz42_4
            try clear hfz42_5
            try clear hfz42_6
            try clear hfz42_7
            try clear hfz8_0
            try clear hfz8_1
            try clear hfz8_2
            try clear hfz8_3
            try clear hfz8_4
            try clear hfz8_5
            try clear hfz8_6
            try clear hfz8_7
            try clear p2
            try clear p6
            obtain ⟨kq, x5_25, x6_25, rfl, rfl, HA, HJ25, BK334, BK341, HB⟩ := hcut
            cases kq with
            | zero => exact absurd HA.out (by simp [florinlaw02_DecParses.j1])
            | succ kj25 =>
              have H := HA.out
              clear HA
              simp only [florinlaw02_DecParses.j1] at H
              by_cases c43 : a0_7 = true
              · subst c43
                have H1 : (if (x5_25.size : Int) > 1000 then (if t340 = 2 then (some (!t337 && (t338.toList == ([] : List UInt8) && (t339 == 0)))) else (some false)) else (if a0_4 > 10000 then (if t340 = 2 then (some (!t337 && (t338.toList == ([] : List UInt8) && (t339 == 0)))) else (some false)) else (if a0_4 < (-10000) then (if t340 = 2 then (some (!t337 && (t338.toList == ([] : List UInt8) && (t339 == 0)))) else (some false)) else (if t340 = 0 then ((dec_Made.f kj25 a0_0 x5_25 (wrap64 (x6_25 + a0_4))).bind fun bt344 => (some (t337 == bt344.1 && (t338.toList == bt344.2.1.toList && (t339 == bt344.2.2))))) else (some false))))) = some r := by rw [if_pos rfl] at H; exact H
                clear H
                have H := H1
                clear H1
                by_cases c44 : (x5_25.size : Int) > 1000
                · rw [if_pos c44] at H
                  have c44b0 : decide (1000 < (x5_25.size : Int)) = true := decide_eq_true c44
                  have c44b1 : decide (1000 < x5_25.size) = true := decide_eq_true (by omega)
                  clear c44
                  by_cases c45 : t340 = 2
                  · rw [if_pos c45] at H
                    have c45b0 : (t340 == 2) = true := beq_iff_eq.mpr c45
                    have c45b1 : (t340 != 2) = false := bne_eq_false_iff_eq.mpr c45
                    clear c45
                    obtain rfl := Option.some.inj H
                    have hnb46 := NB334_341.out
                    have hnc46 := NB341_334.out
                    have hcz47_0 : wc.cell? ⟨gb334, 0, none⟩ = some (.bool a0_0) := (blk_cell BK334.out 0).trans rfl
                    have hcz47_1 : wc.cell? ⟨gb334, 1, none⟩ = some (.slice A0_1 l0_1.length c0_1) := (blk_cell BK334.out 1).trans rfl
                    have hcz47_2 : wc.cell? ⟨gb334, 2, none⟩ = some (.slice A0_2 l0_2.length c0_2) := (blk_cell BK334.out 2).trans rfl
                    have hcz47_3 : wc.cell? ⟨gb334, 3, none⟩ = some (.bool a0_3) := (blk_cell BK334.out 3).trans rfl
                    have hcz47_4 : wc.cell? ⟨gb334, 4, none⟩ = some (.int .i64 a0_4) := (blk_cell BK334.out 4).trans rfl
                    have hcz47_5 : wc.cell? ⟨gb334, 5, none⟩ = some (.int .i64 a0_5) := (blk_cell BK334.out 5).trans rfl
                    have hcz47_6 : wc.cell? ⟨gb334, 6, none⟩ = some (.int .i64 a0_6) := (blk_cell BK334.out 6).trans rfl
                    have hcz47_7 : wc.cell? ⟨gb334, 7, none⟩ = some (.bool true) := (blk_cell BK334.out 7).trans rfl
                    have hfz47_0 := blk_frozen BK334.out 0
                    have hfz47_1 := blk_frozen BK334.out 1
                    have hfz47_2 := blk_frozen BK334.out 2
                    have hfz47_3 := blk_frozen BK334.out 3
                    have hfz47_4 := blk_frozen BK334.out 4
                    have hfz47_5 := blk_frozen BK334.out 5
                    have hfz47_6 := blk_frozen BK334.out 6
                    have hfz47_7 := blk_frozen BK334.out 7
                    have hcz48_0 : wc.cell? ⟨gb341, 0, none⟩ = some (.bool t337) := (blk_cell BK341.out 0).trans rfl
                    have hcz48_1 : wc.cell? ⟨gb341, 1, none⟩ = some (.string t338) := (blk_cell BK341.out 1).trans rfl
                    have hcz48_2 : wc.cell? ⟨gb341, 2, none⟩ = some (.int .i64 t339) := (blk_cell BK341.out 2).trans rfl
                    have hfz48_0 := blk_frozen BK341.out 0
                    have hfz48_1 := blk_frozen BK341.out 1
                    have hfz48_2 := blk_frozen BK341.out 2
                    go_wp2
                    go_ret
                    exact ⟨by first | rfl | (simp [errW_none, errW_some] <;> rfl) | (simp [*, errW_none, errW_some] <;> first | rfl | exact given_isEmpty _ | exact (given_isEmpty _).symm), by repeat (first | (with_reducible first | exact HB.out | apply below_alloc | apply pw_below_drewN | apply below_drew1 | refine below_set ?_ GE334.out | refine below_set ?_ GE341.out) | exact HB.out)⟩
                  · rw [if_neg c45] at H
                    have c45b0 : (t340 == 2) = false := beq_eq_false_iff_ne.mpr c45
                    have c45b1 : (t340 != 2) = true := bne_iff_ne.mpr c45
                    obtain rfl := Option.some.inj H
                    have hnb49 := NB334_341.out
                    have hnc49 := NB341_334.out
                    have hcz50_0 : wc.cell? ⟨gb334, 0, none⟩ = some (.bool a0_0) := (blk_cell BK334.out 0).trans rfl
                    have hcz50_1 : wc.cell? ⟨gb334, 1, none⟩ = some (.slice A0_1 l0_1.length c0_1) := (blk_cell BK334.out 1).trans rfl
                    have hcz50_2 : wc.cell? ⟨gb334, 2, none⟩ = some (.slice A0_2 l0_2.length c0_2) := (blk_cell BK334.out 2).trans rfl
                    have hcz50_3 : wc.cell? ⟨gb334, 3, none⟩ = some (.bool a0_3) := (blk_cell BK334.out 3).trans rfl
                    have hcz50_4 : wc.cell? ⟨gb334, 4, none⟩ = some (.int .i64 a0_4) := (blk_cell BK334.out 4).trans rfl
                    have hcz50_5 : wc.cell? ⟨gb334, 5, none⟩ = some (.int .i64 a0_5) := (blk_cell BK334.out 5).trans rfl
                    have hcz50_6 : wc.cell? ⟨gb334, 6, none⟩ = some (.int .i64 a0_6) := (blk_cell BK334.out 6).trans rfl
                    have hcz50_7 : wc.cell? ⟨gb334, 7, none⟩ = some (.bool true) := (blk_cell BK334.out 7).trans rfl
                    have hfz50_0 := blk_frozen BK334.out 0
                    have hfz50_1 := blk_frozen BK334.out 1
                    have hfz50_2 := blk_frozen BK334.out 2
                    have hfz50_3 := blk_frozen BK334.out 3
                    have hfz50_4 := blk_frozen BK334.out 4
                    have hfz50_5 := blk_frozen BK334.out 5
                    have hfz50_6 := blk_frozen BK334.out 6
                    have hfz50_7 := blk_frozen BK334.out 7
                    go_wp2
                    go_ret
                    exact ⟨by first | rfl | (simp [errW_none, errW_some] <;> rfl) | (simp [*, errW_none, errW_some] <;> first | rfl | exact given_isEmpty _ | exact (given_isEmpty _).symm), by repeat (first | (with_reducible first | exact HB.out | apply below_alloc | apply pw_below_drewN | apply below_drew1 | refine below_set ?_ GE334.out | refine below_set ?_ GE341.out) | exact HB.out)⟩
                · rw [if_neg c44] at H
                  have c44b0 : decide (1000 < (x5_25.size : Int)) = false := decide_eq_false c44
                  have c44b1 : decide (1000 < x5_25.size) = false := decide_eq_false (by omega)
                  clear c44
                  by_cases c51 : a0_4 > 10000
                  · rw [if_pos c51] at H
                    have c51b0 : decide (10000 < a0_4) = true := decide_eq_true c51
                    clear c51
                    by_cases c52 : t340 = 2
                    · rw [if_pos c52] at H
                      have c52b0 : (t340 == 2) = true := beq_iff_eq.mpr c52
                      have c52b1 : (t340 != 2) = false := bne_eq_false_iff_eq.mpr c52
                      clear c52
                      obtain rfl := Option.some.inj H
                      have hnb53 := NB334_341.out
                      have hnc53 := NB341_334.out
                      have hcz54_0 : wc.cell? ⟨gb334, 0, none⟩ = some (.bool a0_0) := (blk_cell BK334.out 0).trans rfl
                      have hcz54_1 : wc.cell? ⟨gb334, 1, none⟩ = some (.slice A0_1 l0_1.length c0_1) := (blk_cell BK334.out 1).trans rfl
                      have hcz54_2 : wc.cell? ⟨gb334, 2, none⟩ = some (.slice A0_2 l0_2.length c0_2) := (blk_cell BK334.out 2).trans rfl
                      have hcz54_3 : wc.cell? ⟨gb334, 3, none⟩ = some (.bool a0_3) := (blk_cell BK334.out 3).trans rfl
                      have hcz54_4 : wc.cell? ⟨gb334, 4, none⟩ = some (.int .i64 a0_4) := (blk_cell BK334.out 4).trans rfl
                      have hcz54_5 : wc.cell? ⟨gb334, 5, none⟩ = some (.int .i64 a0_5) := (blk_cell BK334.out 5).trans rfl
                      have hcz54_6 : wc.cell? ⟨gb334, 6, none⟩ = some (.int .i64 a0_6) := (blk_cell BK334.out 6).trans rfl
                      have hcz54_7 : wc.cell? ⟨gb334, 7, none⟩ = some (.bool true) := (blk_cell BK334.out 7).trans rfl
                      have hfz54_0 := blk_frozen BK334.out 0
                      have hfz54_1 := blk_frozen BK334.out 1
                      have hfz54_2 := blk_frozen BK334.out 2
                      have hfz54_3 := blk_frozen BK334.out 3
                      have hfz54_4 := blk_frozen BK334.out 4
                      have hfz54_5 := blk_frozen BK334.out 5
                      have hfz54_6 := blk_frozen BK334.out 6
                      have hfz54_7 := blk_frozen BK334.out 7
                      have hcz55_0 : wc.cell? ⟨gb341, 0, none⟩ = some (.bool t337) := (blk_cell BK341.out 0).trans rfl
                      have hcz55_1 : wc.cell? ⟨gb341, 1, none⟩ = some (.string t338) := (blk_cell BK341.out 1).trans rfl
                      have hcz55_2 : wc.cell? ⟨gb341, 2, none⟩ = some (.int .i64 t339) := (blk_cell BK341.out 2).trans rfl
                      have hfz55_0 := blk_frozen BK341.out 0
                      have hfz55_1 := blk_frozen BK341.out 1
                      have hfz55_2 := blk_frozen BK341.out 2
                      go_wp2
                      go_ret
                      exact ⟨by first | rfl | (simp [errW_none, errW_some] <;> rfl) | (simp [*, errW_none, errW_some] <;> first | rfl | exact given_isEmpty _ | exact (given_isEmpty _).symm), by repeat (first | (with_reducible first | exact HB.out | apply below_alloc | apply pw_below_drewN | apply below_drew1 | refine below_set ?_ GE334.out | refine below_set ?_ GE341.out) | exact HB.out)⟩
                    · rw [if_neg c52] at H
                      have c52b0 : (t340 == 2) = false := beq_eq_false_iff_ne.mpr c52
                      have c52b1 : (t340 != 2) = true := bne_iff_ne.mpr c52
                      obtain rfl := Option.some.inj H
                      have hnb56 := NB334_341.out
                      have hnc56 := NB341_334.out
                      have hcz57_0 : wc.cell? ⟨gb334, 0, none⟩ = some (.bool a0_0) := (blk_cell BK334.out 0).trans rfl
                      have hcz57_1 : wc.cell? ⟨gb334, 1, none⟩ = some (.slice A0_1 l0_1.length c0_1) := (blk_cell BK334.out 1).trans rfl
                      have hcz57_2 : wc.cell? ⟨gb334, 2, none⟩ = some (.slice A0_2 l0_2.length c0_2) := (blk_cell BK334.out 2).trans rfl
                      have hcz57_3 : wc.cell? ⟨gb334, 3, none⟩ = some (.bool a0_3) := (blk_cell BK334.out 3).trans rfl
                      have hcz57_4 : wc.cell? ⟨gb334, 4, none⟩ = some (.int .i64 a0_4) := (blk_cell BK334.out 4).trans rfl
                      have hcz57_5 : wc.cell? ⟨gb334, 5, none⟩ = some (.int .i64 a0_5) := (blk_cell BK334.out 5).trans rfl
                      have hcz57_6 : wc.cell? ⟨gb334, 6, none⟩ = some (.int .i64 a0_6) := (blk_cell BK334.out 6).trans rfl
                      have hcz57_7 : wc.cell? ⟨gb334, 7, none⟩ = some (.bool true) := (blk_cell BK334.out 7).trans rfl
                      have hfz57_0 := blk_frozen BK334.out 0
                      have hfz57_1 := blk_frozen BK334.out 1
                      have hfz57_2 := blk_frozen BK334.out 2
                      have hfz57_3 := blk_frozen BK334.out 3
                      have hfz57_4 := blk_frozen BK334.out 4
                      have hfz57_5 := blk_frozen BK334.out 5
                      have hfz57_6 := blk_frozen BK334.out 6
                      have hfz57_7 := blk_frozen BK334.out 7
                      go_wp2
                      go_ret
                      exact ⟨by first | rfl | (simp [errW_none, errW_some] <;> rfl) | (simp [*, errW_none, errW_some] <;> first | rfl | exact given_isEmpty _ | exact (given_isEmpty _).symm), by repeat (first | (with_reducible first | exact HB.out | apply below_alloc | apply pw_below_drewN | apply below_drew1 | refine below_set ?_ GE334.out | refine below_set ?_ GE341.out) | exact HB.out)⟩
                  · rw [if_neg c51] at H
                    have c51b0 : decide (10000 < a0_4) = false := decide_eq_false c51
                    clear c51
                    by_cases c58 : a0_4 < (-10000)
                    · rw [if_pos c58] at H
                      have c58b0 : decide (a0_4 < (-10000)) = true := decide_eq_true c58
                      clear c58
                      by_cases c59 : t340 = 2
                      · rw [if_pos c59] at H
                        have c59b0 : (t340 == 2) = true := beq_iff_eq.mpr c59
                        have c59b1 : (t340 != 2) = false := bne_eq_false_iff_eq.mpr c59
                        clear c59
                        obtain rfl := Option.some.inj H
                        have hnb60 := NB334_341.out
                        have hnc60 := NB341_334.out
                        have hcz61_0 : wc.cell? ⟨gb334, 0, none⟩ = some (.bool a0_0) := (blk_cell BK334.out 0).trans rfl
                        have hcz61_1 : wc.cell? ⟨gb334, 1, none⟩ = some (.slice A0_1 l0_1.length c0_1) := (blk_cell BK334.out 1).trans rfl
                        have hcz61_2 : wc.cell? ⟨gb334, 2, none⟩ = some (.slice A0_2 l0_2.length c0_2) := (blk_cell BK334.out 2).trans rfl
                        have hcz61_3 : wc.cell? ⟨gb334, 3, none⟩ = some (.bool a0_3) := (blk_cell BK334.out 3).trans rfl
                        have hcz61_4 : wc.cell? ⟨gb334, 4, none⟩ = some (.int .i64 a0_4) := (blk_cell BK334.out 4).trans rfl
                        have hcz61_5 : wc.cell? ⟨gb334, 5, none⟩ = some (.int .i64 a0_5) := (blk_cell BK334.out 5).trans rfl
                        have hcz61_6 : wc.cell? ⟨gb334, 6, none⟩ = some (.int .i64 a0_6) := (blk_cell BK334.out 6).trans rfl
                        have hcz61_7 : wc.cell? ⟨gb334, 7, none⟩ = some (.bool true) := (blk_cell BK334.out 7).trans rfl
                        have hfz61_0 := blk_frozen BK334.out 0
                        have hfz61_1 := blk_frozen BK334.out 1
                        have hfz61_2 := blk_frozen BK334.out 2
                        have hfz61_3 := blk_frozen BK334.out 3
                        have hfz61_4 := blk_frozen BK334.out 4
                        have hfz61_5 := blk_frozen BK334.out 5
                        have hfz61_6 := blk_frozen BK334.out 6
                        have hfz61_7 := blk_frozen BK334.out 7
                        have hcz62_0 : wc.cell? ⟨gb341, 0, none⟩ = some (.bool t337) := (blk_cell BK341.out 0).trans rfl
                        have hcz62_1 : wc.cell? ⟨gb341, 1, none⟩ = some (.string t338) := (blk_cell BK341.out 1).trans rfl
                        have hcz62_2 : wc.cell? ⟨gb341, 2, none⟩ = some (.int .i64 t339) := (blk_cell BK341.out 2).trans rfl
                        have hfz62_0 := blk_frozen BK341.out 0
                        have hfz62_1 := blk_frozen BK341.out 1
                        have hfz62_2 := blk_frozen BK341.out 2
                        go_wp2
                        go_ret
                        exact ⟨by first | rfl | (simp [errW_none, errW_some] <;> rfl) | (simp [*, errW_none, errW_some] <;> first | rfl | exact given_isEmpty _ | exact (given_isEmpty _).symm), by repeat (first | (with_reducible first | exact HB.out | apply below_alloc | apply pw_below_drewN | apply below_drew1 | refine below_set ?_ GE334.out | refine below_set ?_ GE341.out) | exact HB.out)⟩
                      · rw [if_neg c59] at H
                        have c59b0 : (t340 == 2) = false := beq_eq_false_iff_ne.mpr c59
                        have c59b1 : (t340 != 2) = true := bne_iff_ne.mpr c59
                        obtain rfl := Option.some.inj H
                        have hnb63 := NB334_341.out
                        have hnc63 := NB341_334.out
                        have hcz64_0 : wc.cell? ⟨gb334, 0, none⟩ = some (.bool a0_0) := (blk_cell BK334.out 0).trans rfl
                        have hcz64_1 : wc.cell? ⟨gb334, 1, none⟩ = some (.slice A0_1 l0_1.length c0_1) := (blk_cell BK334.out 1).trans rfl
                        have hcz64_2 : wc.cell? ⟨gb334, 2, none⟩ = some (.slice A0_2 l0_2.length c0_2) := (blk_cell BK334.out 2).trans rfl
                        have hcz64_3 : wc.cell? ⟨gb334, 3, none⟩ = some (.bool a0_3) := (blk_cell BK334.out 3).trans rfl
                        have hcz64_4 : wc.cell? ⟨gb334, 4, none⟩ = some (.int .i64 a0_4) := (blk_cell BK334.out 4).trans rfl
                        have hcz64_5 : wc.cell? ⟨gb334, 5, none⟩ = some (.int .i64 a0_5) := (blk_cell BK334.out 5).trans rfl
                        have hcz64_6 : wc.cell? ⟨gb334, 6, none⟩ = some (.int .i64 a0_6) := (blk_cell BK334.out 6).trans rfl
                        have hcz64_7 : wc.cell? ⟨gb334, 7, none⟩ = some (.bool true) := (blk_cell BK334.out 7).trans rfl
                        have hfz64_0 := blk_frozen BK334.out 0
                        have hfz64_1 := blk_frozen BK334.out 1
                        have hfz64_2 := blk_frozen BK334.out 2
                        have hfz64_3 := blk_frozen BK334.out 3
                        have hfz64_4 := blk_frozen BK334.out 4
                        have hfz64_5 := blk_frozen BK334.out 5
                        have hfz64_6 := blk_frozen BK334.out 6
                        have hfz64_7 := blk_frozen BK334.out 7
                        go_wp2
                        go_ret
                        exact ⟨by first | rfl | (simp [errW_none, errW_some] <;> rfl) | (simp [*, errW_none, errW_some] <;> first | rfl | exact given_isEmpty _ | exact (given_isEmpty _).symm), by repeat (first | (with_reducible first | exact HB.out | apply below_alloc | apply pw_below_drewN | apply below_drew1 | refine below_set ?_ GE334.out | refine below_set ?_ GE341.out) | exact HB.out)⟩
                    · rw [if_neg c58] at H
                      have c58b0 : decide (a0_4 < (-10000)) = false := decide_eq_false c58
                      clear c58
                      by_cases c65 : t340 = 0
                      · rw [if_pos c65] at H
                        have c65b0 : (t340 == 0) = true := beq_iff_eq.mpr c65
                        have c65b1 : (t340 != 0) = false := bne_eq_false_iff_eq.mpr c65
                        clear c65
                        replace H := Option.bind_eq_some_iff.mp H
                        obtain ⟨⟨t344, t345, t346⟩, A660, H⟩ := H
                        replace H : (some (t337 == t344 && (t338.toList == t345.toList && (t339 == t346)))) = some r := H
                        have A66 := Aside0.mk A660
                        clear A660
                        obtain rfl := Option.some.inj H
                        have hnb67 := NB334_341.out
                        have hnc67 := NB341_334.out
                        have hcz68_0 : wc.cell? ⟨gb334, 0, none⟩ = some (.bool a0_0) := (blk_cell BK334.out 0).trans rfl
                        have hcz68_1 : wc.cell? ⟨gb334, 1, none⟩ = some (.slice A0_1 l0_1.length c0_1) := (blk_cell BK334.out 1).trans rfl
                        have hcz68_2 : wc.cell? ⟨gb334, 2, none⟩ = some (.slice A0_2 l0_2.length c0_2) := (blk_cell BK334.out 2).trans rfl
                        have hcz68_3 : wc.cell? ⟨gb334, 3, none⟩ = some (.bool a0_3) := (blk_cell BK334.out 3).trans rfl
                        have hcz68_4 : wc.cell? ⟨gb334, 4, none⟩ = some (.int .i64 a0_4) := (blk_cell BK334.out 4).trans rfl
                        have hcz68_5 : wc.cell? ⟨gb334, 5, none⟩ = some (.int .i64 a0_5) := (blk_cell BK334.out 5).trans rfl
                        have hcz68_6 : wc.cell? ⟨gb334, 6, none⟩ = some (.int .i64 a0_6) := (blk_cell BK334.out 6).trans rfl
                        have hcz68_7 : wc.cell? ⟨gb334, 7, none⟩ = some (.bool true) := (blk_cell BK334.out 7).trans rfl
                        have hfz68_0 := blk_frozen BK334.out 0
                        have hfz68_1 := blk_frozen BK334.out 1
                        have hfz68_2 := blk_frozen BK334.out 2
                        have hfz68_3 := blk_frozen BK334.out 3
                        have hfz68_4 := blk_frozen BK334.out 4
                        have hfz68_5 := blk_frozen BK334.out 5
                        have hfz68_6 := blk_frozen BK334.out 6
                        have hfz68_7 := blk_frozen BK334.out 7
                        try go_wp2
                        have n0_ := Aside0.mk (blk_drew BK334.out)
                        have n1_ := Aside0.mk (blk_drew BK341.out)
                        have n2_ := Aside0.mk (below_drew1 HB.out)
                        clear BK334
                        clear BK341
                        clear HB
                        have BK334 := n0_
                        have BK341 := n1_
                        have HB := n2_
                        clear n0_ n1_ n2_
                        refine start_ (n := 12) (S := fun w' => w'.cell? ⟨gb341, 0, none⟩ = some (.bool t337) ∧ w'.cell? ⟨gb341, 1, none⟩ = some (.string t338) ∧ w'.cell? ⟨gb341, 2, none⟩ = some (.int .i64 t339) ∧ w'.cell? ⟨gb334, 0, none⟩ = some (.bool a0_0) ∧ w'.cell? ⟨gb334, 1, none⟩ = some (.slice A0_1 l0_1.length c0_1) ∧ w'.cell? ⟨gb334, 2, none⟩ = some (.slice A0_2 l0_2.length c0_2) ∧ w'.cell? ⟨gb334, 3, none⟩ = some (.bool a0_3) ∧ w'.cell? ⟨gb334, 4, none⟩ = some (.int .i64 a0_4) ∧ w'.cell? ⟨gb334, 5, none⟩ = some (.int .i64 a0_5) ∧ w'.cell? ⟨gb334, 6, none⟩ = some (.int .i64 a0_6) ∧ w'.cell? ⟨gb334, 7, none⟩ = some (.bool true)) (ds := []) #[false, false, false, false, false, false, false, false, false, false, false, false] (by kernel_rfl) rfl rfl ⟨(blk_cell BK341.out 0).trans rfl, (blk_cell BK341.out 1).trans rfl, (blk_cell BK341.out 2).trans rfl, (blk_cell BK334.out 0).trans rfl, (blk_cell BK334.out 1).trans rfl, (blk_cell BK334.out 2).trans rfl, (blk_cell BK334.out 3).trans rfl, (blk_cell BK334.out 4).trans rfl, (blk_cell BK334.out 5).trans rfl, (blk_cell BK334.out 6).trans rfl, (blk_cell BK334.out 7).trans rfl⟩ (fun hHeld => ?_); refine with_tabW florinlaw02_DecParses.tab15 florinlaw02_DecParses.bits15 (fun HT_ HW_ => ?_)
                        generalize wc.drew = w69 at BK334 BK341 HB hHeld ⊢
                        refine pure_ (i := 0) (N := some 95) (v := ?_) (a' := ?_) (bm_ 12 1) rfl rfl (any_of HT_.out (by kernel_rfl)) (fun _ _ _ h => h) (Or.inl ⟨by rfl, ?_⟩) ?_ ?_
                        rotate_left
                        · intro w'
                          go_simp
                          with_reducible rfl
                        rotate_left
                        · simp only [Act.put, List.setIfInBounds_toArray, List.set_cons_zero, List.set_cons_succ, i64_w, i32_w]
                          rfl
                        refine pure_ (i := 1) (N := some 96) (v := ?_) (a' := ?_) (bm_ 12 3) rfl rfl (any_of HT_.out (by kernel_rfl)) (fun _ _ _ h => h) (Or.inl ⟨by rfl, ?_⟩) ?_ ?_
                        rotate_left
                        · intro w'
                          go_simp
                          with_reducible rfl
                        rotate_left
                        · simp only [Act.put, List.setIfInBounds_toArray, List.set_cons_zero, List.set_cons_succ, i64_w, i32_w]
                          rfl
                        refine pure_ (i := 2) (N := some 97) (v := ?_) (a' := ?_) (bm_ 12 7) rfl rfl (any_of HT_.out (by kernel_rfl)) (fun _ _ _ h => h) (Or.inl ⟨by rfl, ?_⟩) ?_ ?_
                        rotate_left
                        · intro w'
                          go_simp
                          with_reducible rfl
                        rotate_left
                        · simp only [Act.put, List.setIfInBounds_toArray, List.set_cons_zero, List.set_cons_succ, i64_w, i32_w]
                          rfl
                        refine pure_ (i := 4) (N := some 99) (v := ?_) (a' := ?_) (bm_ 12 23) rfl rfl (any_of HT_.out (by kernel_rfl)) (fun _ _ _ h => h) (Or.inl ⟨by rfl, ?_⟩) ?_ ?_
                        rotate_left
                        · intro w'
                          go_simp
                          with_reducible rfl
                        rotate_left
                        · simp only [Act.put, List.setIfInBounds_toArray, List.set_cons_zero, List.set_cons_succ, i64_w, i32_w]
                          rfl
                        refine pure_ (i := 6) (N := some 101) (v := ?_) (a' := ?_) (bm_ 12 87) rfl rfl (any_of HT_.out (by kernel_rfl)) (fun _ _ _ h => h) (Or.inl ⟨by rfl, ?_⟩) ?_ ?_
                        rotate_left
                        · intro w'
                          go_simp
                          with_reducible rfl
                        rotate_left
                        · simp only [Act.put, List.setIfInBounds_toArray, List.set_cons_zero, List.set_cons_succ, i64_w, i32_w]
                          rfl
                        refine pure_ (i := 7) (N := some 102) (v := ?_) (a' := ?_) (bm_ 12 215) rfl rfl (any_of HT_.out (by kernel_rfl)) (fun _ _ _ h => h) (Or.inl ⟨by rfl, ?_⟩) ?_ ?_
                        rotate_left
                        · intro w'
                          go_simp
                          with_reducible rfl
                        rotate_left
                        · simp only [Act.put, List.setIfInBounds_toArray, List.set_cons_zero, List.set_cons_succ, i64_w, i32_w]
                          rfl
                        refine take_ (i := 3) (N := some 98) (v := ?_) (a' := ?_) (bm_ 12 223) rfl rfl (take_ofW HT_.out HW_.out (by kernel_rfl)) (fun _ _ _ h => h) (Or.inl ⟨by rfl, ?_⟩) hHeld ?_ ?_
                        rotate_left
                        · rintro w' ⟨s0, s1, s2, s3, s4, s5, s6, s7, s8, s9, s10⟩
                          go_simp
                          with_reducible rfl
                        rotate_left
                        · simp only [Act.put, List.setIfInBounds_toArray, List.set_cons_zero, List.set_cons_succ, i64_w, i32_w]
                          rfl
                        refine take_ (i := 5) (N := some 100) (v := ?_) (a' := ?_) (bm_ 12 255) rfl rfl (take_ofW HT_.out HW_.out (by kernel_rfl)) (fun _ _ _ h => h) (Or.inl ⟨by rfl, ?_⟩) hHeld ?_ ?_
                        rotate_left
                        · rintro w' ⟨s0, s1, s2, s3, s4, s5, s6, s7, s8, s9, s10⟩
                          go_simp
                          with_reducible rfl
                        rotate_left
                        · simp only [Act.put, List.setIfInBounds_toArray, List.set_cons_zero, List.set_cons_succ, i64_w, i32_w]
                          rfl
                        refine one_ (i := 8) (N := some 103) (bm_ 12 511) rfl rfl (one_of HT_.out (by kernel_rfl)) (by decide) (fun K hK => ?_)
                        refine goes_ Tryd.func22 (by kernel_rfl) rfl #[.bool a0_0, .string x5_25, .int .i64 (wrap64 (x6_25 + a0_4))] (by rfl) rfl rfl (by (try simp only [List.map_toArray, List.map_cons, List.map_nil]); first | done | rfl | (simp only [List.length_drop, List.length_take]; rfl) | (have z_ : ∀ s_ : ByteArray, s_.size ≤ 9223372036854775807 → -(s_.size : Int) = wrap64 (-(s_.size : Int)) := (fun s_ h_ => by unfold wrap64; omega); rw [← z_ _ (by omega)]; rfl)) ?_
                        with_reducible refine (dec_Made.calls kj25 a0_0 x5_25 (wrap64 (x6_25 + a0_4)) t344 t345 t346 _ A66.out).mono ?_
                        rintro e w70 ⟨rfl, hb⟩
                        refine ⟨_, rfl, ?_⟩
                        have n0_ := bb_ BK334 hb
                        have n1_ := bb_ BK341 hb
                        have n2_ := Aside0.mk (below_step (by repeat (first | (with_reducible first | exact HB.out | apply below_alloc | apply pw_below_drewN | apply below_drew1 | refine below_set ?_ GE334.out | refine below_set ?_ GE341.out) | exact HB.out)) hb)
                        clear BK334
                        clear BK341
                        clear HB
                        have BK334 := n0_
                        have BK341 := n1_
                        have HB := n2_
                        clear n0_ n1_ n2_
                        (try clear hb)
                        (try clear hb2)
                        (try clear hk)
                        (try clear hi)
                        refine hK.out _ _ ⟨(blk_cell BK341.out 0).trans rfl, (blk_cell BK341.out 1).trans rfl, (blk_cell BK341.out 2).trans rfl, (blk_cell BK334.out 0).trans rfl, (blk_cell BK334.out 1).trans rfl, (blk_cell BK334.out 2).trans rfl, (blk_cell BK334.out 3).trans rfl, (blk_cell BK334.out 4).trans rfl, (blk_cell BK334.out 5).trans rfl, (blk_cell BK334.out 6).trans rfl, (blk_cell BK334.out 7).trans rfl⟩ (fun hHeld => ?_)
                        clear hK K
                        refine norm_ (a' := ?_) ?_ ?_
                        rotate_left
                        · show Act.put _ (some 103) _ = _
                          simp only [Act.put, List.setIfInBounds_toArray, List.set_cons_zero, List.set_cons_succ, i64_w, i32_w]
                          rfl
                        refine pure_ (i := 9) (N := some 104) (v := ?_) (a' := ?_) (bm_ 12 1023) rfl rfl (any_of HT_.out (by kernel_rfl)) (fun _ _ _ h => h) (Or.inl ⟨by rfl, ?_⟩) ?_ ?_
                        rotate_left
                        · intro w'
                          go_simp
                          with_reducible rfl
                        rotate_left
                        · simp only [Act.put, List.setIfInBounds_toArray, List.set_cons_zero, List.set_cons_succ, i64_w, i32_w]
                          rfl
                        refine pure_ (i := 10) (N := some 105) (v := ?_) (a' := ?_) (bm_ 12 2047) rfl rfl (any_of HT_.out (by kernel_rfl)) (fun _ _ _ h => h) (Or.inl ⟨by rfl, ?_⟩) ?_ ?_
                        rotate_left
                        · intro w'
                          go_simp
                          with_reducible rfl
                        rotate_left
                        · simp only [Act.put, List.setIfInBounds_toArray, List.set_cons_zero, List.set_cons_succ, i64_w, i32_w]
                          rfl
                        refine pure_ (i := 11) (N := some 2) (v := ?_) (a' := ?_) (bm_ 12 4095) rfl rfl (any_of HT_.out (by kernel_rfl)) (fun _ _ _ h => h) (Or.inl ⟨by rfl, ?_⟩) ?_ ?_
                        rotate_left
                        · intro w'
                          go_simp
                          with_reducible rfl
                        rotate_left
                        · simp only [Act.put, List.setIfInBounds_toArray, List.set_cons_zero, List.set_cons_succ, i64_w, i32_w]
                          rfl
                        refine done_ (done_of HT_.out (by kernel_rfl)) ?_
                        try go_wp2
                        go_ret
                        exact ⟨by first | rfl | (simp [errW_none, errW_some] <;> rfl) | (simp [*, errW_none, errW_some] <;> first | rfl | exact given_isEmpty _ | exact (given_isEmpty _).symm), by repeat (first | (with_reducible first | exact HB.out | apply below_alloc | apply pw_below_drewN | apply below_drew1 | refine below_set ?_ GE334.out | refine below_set ?_ GE341.out) | exact HB.out)⟩
                      · rw [if_neg c65] at H
                        have c65b0 : (t340 == 0) = false := beq_eq_false_iff_ne.mpr c65
                        have c65b1 : (t340 != 0) = true := bne_iff_ne.mpr c65
                        obtain rfl := Option.some.inj H
                        have hnb71 := NB334_341.out
                        have hnc71 := NB341_334.out
                        have hcz72_0 : wc.cell? ⟨gb334, 0, none⟩ = some (.bool a0_0) := (blk_cell BK334.out 0).trans rfl
                        have hcz72_1 : wc.cell? ⟨gb334, 1, none⟩ = some (.slice A0_1 l0_1.length c0_1) := (blk_cell BK334.out 1).trans rfl
                        have hcz72_2 : wc.cell? ⟨gb334, 2, none⟩ = some (.slice A0_2 l0_2.length c0_2) := (blk_cell BK334.out 2).trans rfl
                        have hcz72_3 : wc.cell? ⟨gb334, 3, none⟩ = some (.bool a0_3) := (blk_cell BK334.out 3).trans rfl
                        have hcz72_4 : wc.cell? ⟨gb334, 4, none⟩ = some (.int .i64 a0_4) := (blk_cell BK334.out 4).trans rfl
                        have hcz72_5 : wc.cell? ⟨gb334, 5, none⟩ = some (.int .i64 a0_5) := (blk_cell BK334.out 5).trans rfl
                        have hcz72_6 : wc.cell? ⟨gb334, 6, none⟩ = some (.int .i64 a0_6) := (blk_cell BK334.out 6).trans rfl
                        have hcz72_7 : wc.cell? ⟨gb334, 7, none⟩ = some (.bool true) := (blk_cell BK334.out 7).trans rfl
                        have hfz72_0 := blk_frozen BK334.out 0
                        have hfz72_1 := blk_frozen BK334.out 1
                        have hfz72_2 := blk_frozen BK334.out 2
                        have hfz72_3 := blk_frozen BK334.out 3
                        have hfz72_4 := blk_frozen BK334.out 4
                        have hfz72_5 := blk_frozen BK334.out 5
                        have hfz72_6 := blk_frozen BK334.out 6
                        have hfz72_7 := blk_frozen BK334.out 7
                        try go_wp2
                        have n0_ := Aside0.mk (blk_drew BK334.out)
                        have n1_ := Aside0.mk (blk_drew BK341.out)
                        have n2_ := Aside0.mk (below_drew1 HB.out)
                        clear BK334
                        clear BK341
                        clear HB
                        have BK334 := n0_
                        have BK341 := n1_
                        have HB := n2_
                        clear n0_ n1_ n2_
                        refine start_ (n := 12) (S := fun w' => True) (ds := []) #[false, false, false, false, false, false, false, false, false, false, false, false] (by kernel_rfl) rfl rfl trivial (fun hHeld => ?_); refine with_tabW florinlaw02_DecParses.tab15 florinlaw02_DecParses.bits15 (fun HT_ HW_ => ?_)
                        generalize wc.drew = w73 at BK334 BK341 HB hHeld ⊢
                        refine pure_ (i := 0) (N := some 95) (v := ?_) (a' := ?_) (bm_ 12 1) rfl rfl (any_of HT_.out (by kernel_rfl)) (fun _ _ _ h => h) (Or.inl ⟨by rfl, ?_⟩) ?_ ?_
                        rotate_left
                        · intro w'
                          go_simp
                          with_reducible rfl
                        rotate_left
                        · simp only [Act.put, List.setIfInBounds_toArray, List.set_cons_zero, List.set_cons_succ, i64_w, i32_w]
                          rfl
                        refine pure_ (i := 1) (N := some 96) (v := ?_) (a' := ?_) (bm_ 12 3) rfl rfl (any_of HT_.out (by kernel_rfl)) (fun _ _ _ h => h) (Or.inl ⟨by rfl, ?_⟩) ?_ ?_
                        rotate_left
                        · intro w'
                          go_simp
                          with_reducible rfl
                        rotate_left
                        · simp only [Act.put, List.setIfInBounds_toArray, List.set_cons_zero, List.set_cons_succ, i64_w, i32_w]
                          rfl
                        refine pure_ (i := 2) (N := some 97) (v := ?_) (a' := ?_) (bm_ 12 7) rfl rfl (any_of HT_.out (by kernel_rfl)) (fun _ _ _ h => h) (Or.inl ⟨by rfl, ?_⟩) ?_ ?_
                        rotate_left
                        · intro w'
                          go_simp
                          with_reducible rfl
                        rotate_left
                        · simp only [Act.put, List.setIfInBounds_toArray, List.set_cons_zero, List.set_cons_succ, i64_w, i32_w]
                          rfl
                        refine pure_ (i := 3) (N := some 98) (v := undef) (a' := ?_) (bm_ 12 15) rfl rfl (any_of HT_.out (by kernel_rfl)) (fun _ _ _ h => h) (Or.inr ⟨by rfl, rfl⟩) ?_ ?_
                        rotate_left
                        · simp only [Act.put, List.setIfInBounds_toArray, List.set_cons_zero, List.set_cons_succ, i64_w, i32_w]
                          rfl
                        refine pure_ (i := 4) (N := some 99) (v := undef) (a' := ?_) (bm_ 12 31) rfl rfl (any_of HT_.out (by kernel_rfl)) (fun _ _ _ h => h) (Or.inr ⟨by rfl, rfl⟩) ?_ ?_
                        rotate_left
                        · simp only [Act.put, List.setIfInBounds_toArray, List.set_cons_zero, List.set_cons_succ, i64_w, i32_w]
                          rfl
                        refine pure_ (i := 5) (N := some 100) (v := undef) (a' := ?_) (bm_ 12 63) rfl rfl (any_of HT_.out (by kernel_rfl)) (fun _ _ _ h => h) (Or.inr ⟨by rfl, rfl⟩) ?_ ?_
                        rotate_left
                        · simp only [Act.put, List.setIfInBounds_toArray, List.set_cons_zero, List.set_cons_succ, i64_w, i32_w]
                          rfl
                        refine pure_ (i := 6) (N := some 101) (v := undef) (a' := ?_) (bm_ 12 127) rfl rfl (any_of HT_.out (by kernel_rfl)) (fun _ _ _ h => h) (Or.inr ⟨by rfl, rfl⟩) ?_ ?_
                        rotate_left
                        · simp only [Act.put, List.setIfInBounds_toArray, List.set_cons_zero, List.set_cons_succ, i64_w, i32_w]
                          rfl
                        refine pure_ (i := 7) (N := some 102) (v := undef) (a' := ?_) (bm_ 12 255) rfl rfl (any_of HT_.out (by kernel_rfl)) (fun _ _ _ h => h) (Or.inr ⟨by rfl, rfl⟩) ?_ ?_
                        rotate_left
                        · simp only [Act.put, List.setIfInBounds_toArray, List.set_cons_zero, List.set_cons_succ, i64_w, i32_w]
                          rfl
                        refine pure_ (i := 8) (N := some 103) (v := undef) (a' := ?_) (bm_ 12 511) rfl rfl (any_of HT_.out (by kernel_rfl)) (fun _ _ _ h => h) (Or.inr ⟨by rfl, rfl⟩) ?_ ?_
                        rotate_left
                        · simp only [Act.put, List.setIfInBounds_toArray, List.set_cons_zero, List.set_cons_succ, i64_w, i32_w]
                          rfl
                        refine pure_ (i := 9) (N := some 104) (v := undef) (a' := ?_) (bm_ 12 1023) rfl rfl (any_of HT_.out (by kernel_rfl)) (fun _ _ _ h => h) (Or.inr ⟨by rfl, rfl⟩) ?_ ?_
                        rotate_left
                        · simp only [Act.put, List.setIfInBounds_toArray, List.set_cons_zero, List.set_cons_succ, i64_w, i32_w]
                          rfl
                        refine pure_ (i := 10) (N := some 105) (v := ?_) (a' := ?_) (bm_ 12 2047) rfl rfl (any_of HT_.out (by kernel_rfl)) (fun _ _ _ h => h) (Or.inl ⟨by rfl, ?_⟩) ?_ ?_
                        rotate_left
                        · intro w'
                          go_simp
                          with_reducible rfl
                        rotate_left
                        · simp only [Act.put, List.setIfInBounds_toArray, List.set_cons_zero, List.set_cons_succ, i64_w, i32_w]
                          rfl
                        refine pure_ (i := 11) (N := some 2) (v := ?_) (a' := ?_) (bm_ 12 4095) rfl rfl (any_of HT_.out (by kernel_rfl)) (fun _ _ _ h => h) (Or.inl ⟨by rfl, ?_⟩) ?_ ?_
                        rotate_left
                        · intro w'
                          go_simp
                          with_reducible rfl
                        rotate_left
                        · simp only [Act.put, List.setIfInBounds_toArray, List.set_cons_zero, List.set_cons_succ, i64_w, i32_w]
                          rfl
                        refine done_ (done_of HT_.out (by kernel_rfl)) ?_
                        try go_wp2
                        go_ret
                        exact ⟨by first | rfl | (simp [errW_none, errW_some] <;> rfl) | (simp [*, errW_none, errW_some] <;> first | rfl | exact given_isEmpty _ | exact (given_isEmpty _).symm), by repeat (first | (with_reducible first | exact HB.out | apply below_alloc | apply pw_below_drewN | apply below_drew1 | refine below_set ?_ GE334.out | refine below_set ?_ GE341.out) | exact HB.out)⟩
              · replace c43 := Bool.eq_false_iff.mpr c43
                subst c43
                have H1 : (if (x5_25.size : Int) > 1000 then (if t340 = 2 then (some (!t337 && (t338.toList == ([] : List UInt8) && (t339 == 0)))) else (some false)) else (if t340 = 0 then ((dec_Made.f kj25 a0_0 x5_25 x6_25).bind fun bt347 => (some (t337 == bt347.1 && (t338.toList == bt347.2.1.toList && (t339 == bt347.2.2))))) else (some false))) = some r := by rw [if_neg (show ¬ (false = true) by decide)] at H; exact H
                clear H
                have H := H1
                clear H1
                by_cases c74 : (x5_25.size : Int) > 1000
                · rw [if_pos c74] at H
                  have c74b0 : decide (1000 < (x5_25.size : Int)) = true := decide_eq_true c74
                  have c74b1 : decide (1000 < x5_25.size) = true := decide_eq_true (by omega)
                  clear c74
                  by_cases c75 : t340 = 2
                  · rw [if_pos c75] at H
                    have c75b0 : (t340 == 2) = true := beq_iff_eq.mpr c75
                    have c75b1 : (t340 != 2) = false := bne_eq_false_iff_eq.mpr c75
                    clear c75
                    obtain rfl := Option.some.inj H
                    have hnb76 := NB334_341.out
                    have hnc76 := NB341_334.out
                    have hcz77_0 : wc.cell? ⟨gb334, 0, none⟩ = some (.bool a0_0) := (blk_cell BK334.out 0).trans rfl
                    have hcz77_1 : wc.cell? ⟨gb334, 1, none⟩ = some (.slice A0_1 l0_1.length c0_1) := (blk_cell BK334.out 1).trans rfl
                    have hcz77_2 : wc.cell? ⟨gb334, 2, none⟩ = some (.slice A0_2 l0_2.length c0_2) := (blk_cell BK334.out 2).trans rfl
                    have hcz77_3 : wc.cell? ⟨gb334, 3, none⟩ = some (.bool a0_3) := (blk_cell BK334.out 3).trans rfl
                    have hcz77_4 : wc.cell? ⟨gb334, 4, none⟩ = some (.int .i64 a0_4) := (blk_cell BK334.out 4).trans rfl
                    have hcz77_5 : wc.cell? ⟨gb334, 5, none⟩ = some (.int .i64 a0_5) := (blk_cell BK334.out 5).trans rfl
                    have hcz77_6 : wc.cell? ⟨gb334, 6, none⟩ = some (.int .i64 a0_6) := (blk_cell BK334.out 6).trans rfl
                    have hcz77_7 : wc.cell? ⟨gb334, 7, none⟩ = some (.bool false) := (blk_cell BK334.out 7).trans rfl
                    have hfz77_0 := blk_frozen BK334.out 0
                    have hfz77_1 := blk_frozen BK334.out 1
                    have hfz77_2 := blk_frozen BK334.out 2
                    have hfz77_3 := blk_frozen BK334.out 3
                    have hfz77_4 := blk_frozen BK334.out 4
                    have hfz77_5 := blk_frozen BK334.out 5
                    have hfz77_6 := blk_frozen BK334.out 6
                    have hfz77_7 := blk_frozen BK334.out 7
                    have hcz78_0 : wc.cell? ⟨gb341, 0, none⟩ = some (.bool t337) := (blk_cell BK341.out 0).trans rfl
                    have hcz78_1 : wc.cell? ⟨gb341, 1, none⟩ = some (.string t338) := (blk_cell BK341.out 1).trans rfl
                    have hcz78_2 : wc.cell? ⟨gb341, 2, none⟩ = some (.int .i64 t339) := (blk_cell BK341.out 2).trans rfl
                    have hfz78_0 := blk_frozen BK341.out 0
                    have hfz78_1 := blk_frozen BK341.out 1
                    have hfz78_2 := blk_frozen BK341.out 2
                    go_wp2
                    go_ret
                    exact ⟨by first | rfl | (simp [errW_none, errW_some] <;> rfl) | (simp [*, errW_none, errW_some] <;> first | rfl | exact given_isEmpty _ | exact (given_isEmpty _).symm), by repeat (first | (with_reducible first | exact HB.out | apply below_alloc | apply pw_below_drewN | apply below_drew1 | refine below_set ?_ GE334.out | refine below_set ?_ GE341.out) | exact HB.out)⟩
                  · rw [if_neg c75] at H
                    have c75b0 : (t340 == 2) = false := beq_eq_false_iff_ne.mpr c75
                    have c75b1 : (t340 != 2) = true := bne_iff_ne.mpr c75
                    obtain rfl := Option.some.inj H
                    have hnb79 := NB334_341.out
                    have hnc79 := NB341_334.out
                    have hcz80_0 : wc.cell? ⟨gb334, 0, none⟩ = some (.bool a0_0) := (blk_cell BK334.out 0).trans rfl
                    have hcz80_1 : wc.cell? ⟨gb334, 1, none⟩ = some (.slice A0_1 l0_1.length c0_1) := (blk_cell BK334.out 1).trans rfl
                    have hcz80_2 : wc.cell? ⟨gb334, 2, none⟩ = some (.slice A0_2 l0_2.length c0_2) := (blk_cell BK334.out 2).trans rfl
                    have hcz80_3 : wc.cell? ⟨gb334, 3, none⟩ = some (.bool a0_3) := (blk_cell BK334.out 3).trans rfl
                    have hcz80_4 : wc.cell? ⟨gb334, 4, none⟩ = some (.int .i64 a0_4) := (blk_cell BK334.out 4).trans rfl
                    have hcz80_5 : wc.cell? ⟨gb334, 5, none⟩ = some (.int .i64 a0_5) := (blk_cell BK334.out 5).trans rfl
                    have hcz80_6 : wc.cell? ⟨gb334, 6, none⟩ = some (.int .i64 a0_6) := (blk_cell BK334.out 6).trans rfl
                    have hcz80_7 : wc.cell? ⟨gb334, 7, none⟩ = some (.bool false) := (blk_cell BK334.out 7).trans rfl
                    have hfz80_0 := blk_frozen BK334.out 0
                    have hfz80_1 := blk_frozen BK334.out 1
                    have hfz80_2 := blk_frozen BK334.out 2
                    have hfz80_3 := blk_frozen BK334.out 3
                    have hfz80_4 := blk_frozen BK334.out 4
                    have hfz80_5 := blk_frozen BK334.out 5
                    have hfz80_6 := blk_frozen BK334.out 6
                    have hfz80_7 := blk_frozen BK334.out 7
                    go_wp2
                    go_ret
                    exact ⟨by first | rfl | (simp [errW_none, errW_some] <;> rfl) | (simp [*, errW_none, errW_some] <;> first | rfl | exact given_isEmpty _ | exact (given_isEmpty _).symm), by repeat (first | (with_reducible first | exact HB.out | apply below_alloc | apply pw_below_drewN | apply below_drew1 | refine below_set ?_ GE334.out | refine below_set ?_ GE341.out) | exact HB.out)⟩
                · rw [if_neg c74] at H
                  have c74b0 : decide (1000 < (x5_25.size : Int)) = false := decide_eq_false c74
                  have c74b1 : decide (1000 < x5_25.size) = false := decide_eq_false (by omega)
                  clear c74
                  by_cases c81 : t340 = 0
                  · rw [if_pos c81] at H
                    have c81b0 : (t340 == 0) = true := beq_iff_eq.mpr c81
                    have c81b1 : (t340 != 0) = false := bne_eq_false_iff_eq.mpr c81
                    clear c81
                    replace H := Option.bind_eq_some_iff.mp H
                    obtain ⟨⟨t347, t348, t349⟩, A820, H⟩ := H
                    replace H : (some (t337 == t347 && (t338.toList == t348.toList && (t339 == t349)))) = some r := H
                    have A82 := Aside0.mk A820
                    clear A820
                    obtain rfl := Option.some.inj H
                    have hnb83 := NB334_341.out
                    have hnc83 := NB341_334.out
                    have hcz84_0 : wc.cell? ⟨gb334, 0, none⟩ = some (.bool a0_0) := (blk_cell BK334.out 0).trans rfl
                    have hcz84_1 : wc.cell? ⟨gb334, 1, none⟩ = some (.slice A0_1 l0_1.length c0_1) := (blk_cell BK334.out 1).trans rfl
                    have hcz84_2 : wc.cell? ⟨gb334, 2, none⟩ = some (.slice A0_2 l0_2.length c0_2) := (blk_cell BK334.out 2).trans rfl
                    have hcz84_3 : wc.cell? ⟨gb334, 3, none⟩ = some (.bool a0_3) := (blk_cell BK334.out 3).trans rfl
                    have hcz84_4 : wc.cell? ⟨gb334, 4, none⟩ = some (.int .i64 a0_4) := (blk_cell BK334.out 4).trans rfl
                    have hcz84_5 : wc.cell? ⟨gb334, 5, none⟩ = some (.int .i64 a0_5) := (blk_cell BK334.out 5).trans rfl
                    have hcz84_6 : wc.cell? ⟨gb334, 6, none⟩ = some (.int .i64 a0_6) := (blk_cell BK334.out 6).trans rfl
                    have hcz84_7 : wc.cell? ⟨gb334, 7, none⟩ = some (.bool false) := (blk_cell BK334.out 7).trans rfl
                    have hfz84_0 := blk_frozen BK334.out 0
                    have hfz84_1 := blk_frozen BK334.out 1
                    have hfz84_2 := blk_frozen BK334.out 2
                    have hfz84_3 := blk_frozen BK334.out 3
                    have hfz84_4 := blk_frozen BK334.out 4
                    have hfz84_5 := blk_frozen BK334.out 5
                    have hfz84_6 := blk_frozen BK334.out 6
                    have hfz84_7 := blk_frozen BK334.out 7
                    try go_wp2
                    have n0_ := Aside0.mk (blk_drew BK334.out)
                    have n1_ := Aside0.mk (blk_drew BK341.out)
                    have n2_ := Aside0.mk (below_drew1 HB.out)
                    clear BK334
                    clear BK341
                    clear HB
                    have BK334 := n0_
                    have BK341 := n1_
                    have HB := n2_
                    clear n0_ n1_ n2_
                    refine start_ (n := 12) (S := fun w' => w'.cell? ⟨gb341, 0, none⟩ = some (.bool t337) ∧ w'.cell? ⟨gb341, 1, none⟩ = some (.string t338) ∧ w'.cell? ⟨gb341, 2, none⟩ = some (.int .i64 t339) ∧ w'.cell? ⟨gb334, 0, none⟩ = some (.bool a0_0) ∧ w'.cell? ⟨gb334, 1, none⟩ = some (.slice A0_1 l0_1.length c0_1) ∧ w'.cell? ⟨gb334, 2, none⟩ = some (.slice A0_2 l0_2.length c0_2) ∧ w'.cell? ⟨gb334, 3, none⟩ = some (.bool a0_3) ∧ w'.cell? ⟨gb334, 4, none⟩ = some (.int .i64 a0_4) ∧ w'.cell? ⟨gb334, 5, none⟩ = some (.int .i64 a0_5) ∧ w'.cell? ⟨gb334, 6, none⟩ = some (.int .i64 a0_6) ∧ w'.cell? ⟨gb334, 7, none⟩ = some (.bool false)) (ds := []) #[false, false, false, false, false, false, false, false, false, false, false, false] (by kernel_rfl) rfl rfl ⟨(blk_cell BK341.out 0).trans rfl, (blk_cell BK341.out 1).trans rfl, (blk_cell BK341.out 2).trans rfl, (blk_cell BK334.out 0).trans rfl, (blk_cell BK334.out 1).trans rfl, (blk_cell BK334.out 2).trans rfl, (blk_cell BK334.out 3).trans rfl, (blk_cell BK334.out 4).trans rfl, (blk_cell BK334.out 5).trans rfl, (blk_cell BK334.out 6).trans rfl, (blk_cell BK334.out 7).trans rfl⟩ (fun hHeld => ?_); refine with_tabW florinlaw02_DecParses.tab15 florinlaw02_DecParses.bits15 (fun HT_ HW_ => ?_)
                    generalize wc.drew = w85 at BK334 BK341 HB hHeld ⊢
                    refine pure_ (i := 0) (N := some 95) (v := ?_) (a' := ?_) (bm_ 12 1) rfl rfl (any_of HT_.out (by kernel_rfl)) (fun _ _ _ h => h) (Or.inl ⟨by rfl, ?_⟩) ?_ ?_
                    rotate_left
                    · intro w'
                      go_simp
                      with_reducible rfl
                    rotate_left
                    · simp only [Act.put, List.setIfInBounds_toArray, List.set_cons_zero, List.set_cons_succ, i64_w, i32_w]
                      rfl
                    refine pure_ (i := 1) (N := some 96) (v := ?_) (a' := ?_) (bm_ 12 3) rfl rfl (any_of HT_.out (by kernel_rfl)) (fun _ _ _ h => h) (Or.inl ⟨by rfl, ?_⟩) ?_ ?_
                    rotate_left
                    · intro w'
                      go_simp
                      with_reducible rfl
                    rotate_left
                    · simp only [Act.put, List.setIfInBounds_toArray, List.set_cons_zero, List.set_cons_succ, i64_w, i32_w]
                      rfl
                    refine pure_ (i := 2) (N := some 97) (v := ?_) (a' := ?_) (bm_ 12 7) rfl rfl (any_of HT_.out (by kernel_rfl)) (fun _ _ _ h => h) (Or.inl ⟨by rfl, ?_⟩) ?_ ?_
                    rotate_left
                    · intro w'
                      go_simp
                      with_reducible rfl
                    rotate_left
                    · simp only [Act.put, List.setIfInBounds_toArray, List.set_cons_zero, List.set_cons_succ, i64_w, i32_w]
                      rfl
                    refine pure_ (i := 4) (N := some 99) (v := ?_) (a' := ?_) (bm_ 12 23) rfl rfl (any_of HT_.out (by kernel_rfl)) (fun _ _ _ h => h) (Or.inl ⟨by rfl, ?_⟩) ?_ ?_
                    rotate_left
                    · intro w'
                      go_simp
                      with_reducible rfl
                    rotate_left
                    · simp only [Act.put, List.setIfInBounds_toArray, List.set_cons_zero, List.set_cons_succ, i64_w, i32_w]
                      rfl
                    refine pure_ (i := 6) (N := some 101) (v := ?_) (a' := ?_) (bm_ 12 87) rfl rfl (any_of HT_.out (by kernel_rfl)) (fun _ _ _ h => h) (Or.inl ⟨by rfl, ?_⟩) ?_ ?_
                    rotate_left
                    · intro w'
                      go_simp
                      with_reducible rfl
                    rotate_left
                    · simp only [Act.put, List.setIfInBounds_toArray, List.set_cons_zero, List.set_cons_succ, i64_w, i32_w]
                      rfl
                    refine pure_ (i := 7) (N := some 102) (v := ?_) (a' := ?_) (bm_ 12 215) rfl rfl (any_of HT_.out (by kernel_rfl)) (fun _ _ _ h => h) (Or.inl ⟨by rfl, ?_⟩) ?_ ?_
                    rotate_left
                    · intro w'
                      go_simp
                      with_reducible rfl
                    rotate_left
                    · simp only [Act.put, List.setIfInBounds_toArray, List.set_cons_zero, List.set_cons_succ, i64_w, i32_w]
                      rfl
                    refine take_ (i := 3) (N := some 98) (v := ?_) (a' := ?_) (bm_ 12 223) rfl rfl (take_ofW HT_.out HW_.out (by kernel_rfl)) (fun _ _ _ h => h) (Or.inl ⟨by rfl, ?_⟩) hHeld ?_ ?_
                    rotate_left
                    · rintro w' ⟨s0, s1, s2, s3, s4, s5, s6, s7, s8, s9, s10⟩
                      go_simp
                      with_reducible rfl
                    rotate_left
                    · simp only [Act.put, List.setIfInBounds_toArray, List.set_cons_zero, List.set_cons_succ, i64_w, i32_w]
                      rfl
                    refine take_ (i := 5) (N := some 100) (v := ?_) (a' := ?_) (bm_ 12 255) rfl rfl (take_ofW HT_.out HW_.out (by kernel_rfl)) (fun _ _ _ h => h) (Or.inl ⟨by rfl, ?_⟩) hHeld ?_ ?_
                    rotate_left
                    · rintro w' ⟨s0, s1, s2, s3, s4, s5, s6, s7, s8, s9, s10⟩
                      go_simp
                      with_reducible rfl
                    rotate_left
                    · simp only [Act.put, List.setIfInBounds_toArray, List.set_cons_zero, List.set_cons_succ, i64_w, i32_w]
                      rfl
                    refine one_ (i := 8) (N := some 103) (bm_ 12 511) rfl rfl (one_of HT_.out (by kernel_rfl)) (by decide) (fun K hK => ?_)
                    refine goes_ Tryd.func22 (by kernel_rfl) rfl #[.bool a0_0, .string x5_25, .int .i64 x6_25] (by rfl) rfl rfl (by (try simp only [List.map_toArray, List.map_cons, List.map_nil]); first | done | rfl | (simp only [List.length_drop, List.length_take]; rfl) | (have z_ : ∀ s_ : ByteArray, s_.size ≤ 9223372036854775807 → -(s_.size : Int) = wrap64 (-(s_.size : Int)) := (fun s_ h_ => by unfold wrap64; omega); rw [← z_ _ (by omega)]; rfl)) ?_
                    with_reducible refine (dec_Made.calls kj25 a0_0 x5_25 x6_25 t347 t348 t349 _ A82.out).mono ?_
                    rintro e w86 ⟨rfl, hb⟩
                    refine ⟨_, rfl, ?_⟩
                    have n0_ := bb_ BK334 hb
                    have n1_ := bb_ BK341 hb
                    have n2_ := Aside0.mk (below_step (by repeat (first | (with_reducible first | exact HB.out | apply below_alloc | apply pw_below_drewN | apply below_drew1 | refine below_set ?_ GE334.out | refine below_set ?_ GE341.out) | exact HB.out)) hb)
                    clear BK334
                    clear BK341
                    clear HB
                    have BK334 := n0_
                    have BK341 := n1_
                    have HB := n2_
                    clear n0_ n1_ n2_
                    (try clear hb)
                    (try clear hb2)
                    (try clear hk)
                    (try clear hi)
                    refine hK.out _ _ ⟨(blk_cell BK341.out 0).trans rfl, (blk_cell BK341.out 1).trans rfl, (blk_cell BK341.out 2).trans rfl, (blk_cell BK334.out 0).trans rfl, (blk_cell BK334.out 1).trans rfl, (blk_cell BK334.out 2).trans rfl, (blk_cell BK334.out 3).trans rfl, (blk_cell BK334.out 4).trans rfl, (blk_cell BK334.out 5).trans rfl, (blk_cell BK334.out 6).trans rfl, (blk_cell BK334.out 7).trans rfl⟩ (fun hHeld => ?_)
                    clear hK K
                    refine norm_ (a' := ?_) ?_ ?_
                    rotate_left
                    · show Act.put _ (some 103) _ = _
                      simp only [Act.put, List.setIfInBounds_toArray, List.set_cons_zero, List.set_cons_succ, i64_w, i32_w]
                      rfl
                    refine pure_ (i := 9) (N := some 104) (v := ?_) (a' := ?_) (bm_ 12 1023) rfl rfl (any_of HT_.out (by kernel_rfl)) (fun _ _ _ h => h) (Or.inl ⟨by rfl, ?_⟩) ?_ ?_
                    rotate_left
                    · intro w'
                      go_simp
                      with_reducible rfl
                    rotate_left
                    · simp only [Act.put, List.setIfInBounds_toArray, List.set_cons_zero, List.set_cons_succ, i64_w, i32_w]
                      rfl
                    refine pure_ (i := 10) (N := some 105) (v := ?_) (a' := ?_) (bm_ 12 2047) rfl rfl (any_of HT_.out (by kernel_rfl)) (fun _ _ _ h => h) (Or.inl ⟨by rfl, ?_⟩) ?_ ?_
                    rotate_left
                    · intro w'
                      go_simp
                      with_reducible rfl
                    rotate_left
                    · simp only [Act.put, List.setIfInBounds_toArray, List.set_cons_zero, List.set_cons_succ, i64_w, i32_w]
                      rfl
                    refine pure_ (i := 11) (N := some 2) (v := ?_) (a' := ?_) (bm_ 12 4095) rfl rfl (any_of HT_.out (by kernel_rfl)) (fun _ _ _ h => h) (Or.inl ⟨by rfl, ?_⟩) ?_ ?_
                    rotate_left
                    · intro w'
                      go_simp
                      with_reducible rfl
                    rotate_left
                    · simp only [Act.put, List.setIfInBounds_toArray, List.set_cons_zero, List.set_cons_succ, i64_w, i32_w]
                      rfl
                    refine done_ (done_of HT_.out (by kernel_rfl)) ?_
                    try go_wp2
                    go_ret
                    exact ⟨by first | rfl | (simp [errW_none, errW_some] <;> rfl) | (simp [*, errW_none, errW_some] <;> first | rfl | exact given_isEmpty _ | exact (given_isEmpty _).symm), by repeat (first | (with_reducible first | exact HB.out | apply below_alloc | apply pw_below_drewN | apply below_drew1 | refine below_set ?_ GE334.out | refine below_set ?_ GE341.out) | exact HB.out)⟩
                  · rw [if_neg c81] at H
                    have c81b0 : (t340 == 0) = false := beq_eq_false_iff_ne.mpr c81
                    have c81b1 : (t340 != 0) = true := bne_iff_ne.mpr c81
                    obtain rfl := Option.some.inj H
                    have hnb87 := NB334_341.out
                    have hnc87 := NB341_334.out
                    have hcz88_0 : wc.cell? ⟨gb334, 0, none⟩ = some (.bool a0_0) := (blk_cell BK334.out 0).trans rfl
                    have hcz88_1 : wc.cell? ⟨gb334, 1, none⟩ = some (.slice A0_1 l0_1.length c0_1) := (blk_cell BK334.out 1).trans rfl
                    have hcz88_2 : wc.cell? ⟨gb334, 2, none⟩ = some (.slice A0_2 l0_2.length c0_2) := (blk_cell BK334.out 2).trans rfl
                    have hcz88_3 : wc.cell? ⟨gb334, 3, none⟩ = some (.bool a0_3) := (blk_cell BK334.out 3).trans rfl
                    have hcz88_4 : wc.cell? ⟨gb334, 4, none⟩ = some (.int .i64 a0_4) := (blk_cell BK334.out 4).trans rfl
                    have hcz88_5 : wc.cell? ⟨gb334, 5, none⟩ = some (.int .i64 a0_5) := (blk_cell BK334.out 5).trans rfl
                    have hcz88_6 : wc.cell? ⟨gb334, 6, none⟩ = some (.int .i64 a0_6) := (blk_cell BK334.out 6).trans rfl
                    have hcz88_7 : wc.cell? ⟨gb334, 7, none⟩ = some (.bool false) := (blk_cell BK334.out 7).trans rfl
                    have hfz88_0 := blk_frozen BK334.out 0
                    have hfz88_1 := blk_frozen BK334.out 1
                    have hfz88_2 := blk_frozen BK334.out 2
                    have hfz88_3 := blk_frozen BK334.out 3
                    have hfz88_4 := blk_frozen BK334.out 4
                    have hfz88_5 := blk_frozen BK334.out 5
                    have hfz88_6 := blk_frozen BK334.out 6
                    have hfz88_7 := blk_frozen BK334.out 7
                    try go_wp2
                    have n0_ := Aside0.mk (blk_drew BK334.out)
                    have n1_ := Aside0.mk (blk_drew BK341.out)
                    have n2_ := Aside0.mk (below_drew1 HB.out)
                    clear BK334
                    clear BK341
                    clear HB
                    have BK334 := n0_
                    have BK341 := n1_
                    have HB := n2_
                    clear n0_ n1_ n2_
                    refine start_ (n := 12) (S := fun w' => True) (ds := []) #[false, false, false, false, false, false, false, false, false, false, false, false] (by kernel_rfl) rfl rfl trivial (fun hHeld => ?_); refine with_tabW florinlaw02_DecParses.tab15 florinlaw02_DecParses.bits15 (fun HT_ HW_ => ?_)
                    generalize wc.drew = w89 at BK334 BK341 HB hHeld ⊢
                    refine pure_ (i := 0) (N := some 95) (v := ?_) (a' := ?_) (bm_ 12 1) rfl rfl (any_of HT_.out (by kernel_rfl)) (fun _ _ _ h => h) (Or.inl ⟨by rfl, ?_⟩) ?_ ?_
                    rotate_left
                    · intro w'
                      go_simp
                      with_reducible rfl
                    rotate_left
                    · simp only [Act.put, List.setIfInBounds_toArray, List.set_cons_zero, List.set_cons_succ, i64_w, i32_w]
                      rfl
                    refine pure_ (i := 1) (N := some 96) (v := ?_) (a' := ?_) (bm_ 12 3) rfl rfl (any_of HT_.out (by kernel_rfl)) (fun _ _ _ h => h) (Or.inl ⟨by rfl, ?_⟩) ?_ ?_
                    rotate_left
                    · intro w'
                      go_simp
                      with_reducible rfl
                    rotate_left
                    · simp only [Act.put, List.setIfInBounds_toArray, List.set_cons_zero, List.set_cons_succ, i64_w, i32_w]
                      rfl
                    refine pure_ (i := 2) (N := some 97) (v := ?_) (a' := ?_) (bm_ 12 7) rfl rfl (any_of HT_.out (by kernel_rfl)) (fun _ _ _ h => h) (Or.inl ⟨by rfl, ?_⟩) ?_ ?_
                    rotate_left
                    · intro w'
                      go_simp
                      with_reducible rfl
                    rotate_left
                    · simp only [Act.put, List.setIfInBounds_toArray, List.set_cons_zero, List.set_cons_succ, i64_w, i32_w]
                      rfl
                    refine pure_ (i := 3) (N := some 98) (v := undef) (a' := ?_) (bm_ 12 15) rfl rfl (any_of HT_.out (by kernel_rfl)) (fun _ _ _ h => h) (Or.inr ⟨by rfl, rfl⟩) ?_ ?_
                    rotate_left
                    · simp only [Act.put, List.setIfInBounds_toArray, List.set_cons_zero, List.set_cons_succ, i64_w, i32_w]
                      rfl
                    refine pure_ (i := 4) (N := some 99) (v := undef) (a' := ?_) (bm_ 12 31) rfl rfl (any_of HT_.out (by kernel_rfl)) (fun _ _ _ h => h) (Or.inr ⟨by rfl, rfl⟩) ?_ ?_
                    rotate_left
                    · simp only [Act.put, List.setIfInBounds_toArray, List.set_cons_zero, List.set_cons_succ, i64_w, i32_w]
                      rfl
                    refine pure_ (i := 5) (N := some 100) (v := undef) (a' := ?_) (bm_ 12 63) rfl rfl (any_of HT_.out (by kernel_rfl)) (fun _ _ _ h => h) (Or.inr ⟨by rfl, rfl⟩) ?_ ?_
                    rotate_left
                    · simp only [Act.put, List.setIfInBounds_toArray, List.set_cons_zero, List.set_cons_succ, i64_w, i32_w]
                      rfl
                    refine pure_ (i := 6) (N := some 101) (v := undef) (a' := ?_) (bm_ 12 127) rfl rfl (any_of HT_.out (by kernel_rfl)) (fun _ _ _ h => h) (Or.inr ⟨by rfl, rfl⟩) ?_ ?_
                    rotate_left
                    · simp only [Act.put, List.setIfInBounds_toArray, List.set_cons_zero, List.set_cons_succ, i64_w, i32_w]
                      rfl
                    refine pure_ (i := 7) (N := some 102) (v := undef) (a' := ?_) (bm_ 12 255) rfl rfl (any_of HT_.out (by kernel_rfl)) (fun _ _ _ h => h) (Or.inr ⟨by rfl, rfl⟩) ?_ ?_
                    rotate_left
                    · simp only [Act.put, List.setIfInBounds_toArray, List.set_cons_zero, List.set_cons_succ, i64_w, i32_w]
                      rfl
                    refine pure_ (i := 8) (N := some 103) (v := undef) (a' := ?_) (bm_ 12 511) rfl rfl (any_of HT_.out (by kernel_rfl)) (fun _ _ _ h => h) (Or.inr ⟨by rfl, rfl⟩) ?_ ?_
                    rotate_left
                    · simp only [Act.put, List.setIfInBounds_toArray, List.set_cons_zero, List.set_cons_succ, i64_w, i32_w]
                      rfl
                    refine pure_ (i := 9) (N := some 104) (v := undef) (a' := ?_) (bm_ 12 1023) rfl rfl (any_of HT_.out (by kernel_rfl)) (fun _ _ _ h => h) (Or.inr ⟨by rfl, rfl⟩) ?_ ?_
                    rotate_left
                    · simp only [Act.put, List.setIfInBounds_toArray, List.set_cons_zero, List.set_cons_succ, i64_w, i32_w]
                      rfl
                    refine pure_ (i := 10) (N := some 105) (v := ?_) (a' := ?_) (bm_ 12 2047) rfl rfl (any_of HT_.out (by kernel_rfl)) (fun _ _ _ h => h) (Or.inl ⟨by rfl, ?_⟩) ?_ ?_
                    rotate_left
                    · intro w'
                      go_simp
                      with_reducible rfl
                    rotate_left
                    · simp only [Act.put, List.setIfInBounds_toArray, List.set_cons_zero, List.set_cons_succ, i64_w, i32_w]
                      rfl
                    refine pure_ (i := 11) (N := some 2) (v := ?_) (a' := ?_) (bm_ 12 4095) rfl rfl (any_of HT_.out (by kernel_rfl)) (fun _ _ _ h => h) (Or.inl ⟨by rfl, ?_⟩) ?_ ?_
                    rotate_left
                    · intro w'
                      go_simp
                      with_reducible rfl
                    rotate_left
                    · simp only [Act.put, List.setIfInBounds_toArray, List.set_cons_zero, List.set_cons_succ, i64_w, i32_w]
                      rfl
                    refine done_ (done_of HT_.out (by kernel_rfl)) ?_
                    try go_wp2
                    go_ret
                    exact ⟨by first | rfl | (simp [errW_none, errW_some] <;> rfl) | (simp [*, errW_none, errW_some] <;> first | rfl | exact given_isEmpty _ | exact (given_isEmpty _).symm), by repeat (first | (with_reducible first | exact HB.out | apply below_alloc | apply pw_below_drewN | apply below_drew1 | refine below_set ?_ GE334.out | refine below_set ?_ GE341.out) | exact HB.out)⟩
  · replace c3 := Bool.eq_false_iff.mpr c3
    subst c3
    have H1 : (some false) = some r := by rw [if_neg (show ¬ (false = true) by decide)] at H; exact H
    clear H
    have H := H1
    clear H1
    obtain rfl := Option.some.inj H
    go_enter Tryd.func6, Tryd.ntmps6
    go_wp2_with (first | ((with_reducible refine gate_dst (N := 1) rfl ?_); (try (refine gate_guard (by rfl) ?_; dsimp only)); refine box_event ?hg (N := 1) ?hd (cs := #[.bool a0_0, .slice A0_1 l0_1.length c0_1, .slice A0_2 l0_2.length c0_2, .bool a0_3, .int .i64 a0_4, .int .i64 a0_5, .int .i64 a0_6, .bool a0_7]) (t := 46) ?hr ?_; (case hd => rfl); (case hg => rfl); (case hr => first | (go_simp; done) | (go_simp; rfl)); intro gb334 hg w90 hbox hb; have n0_ := Aside0.mk (below_step (by repeat (first | (with_reducible first | exact HB.out | apply below_alloc | apply pw_below_drewN | apply below_drew1) | exact HB.out)) hb); have n1_ := Aside0.mk (hbox); have n2_ := Aside0.mk ((by rw [hg]; exact (below_size (by repeat (first | (with_reducible first | exact HB.out | apply below_alloc | apply pw_below_drewN | apply below_drew1) | exact HB.out))) : w.heap.size ≤ gb334)); have n3_ := Aside0.mk ((by rw [hg]; exact (below_size (by repeat (first | (with_reducible first | exact HB.out | apply below_alloc | apply pw_below_drewN | apply below_drew1) | exact HB.out))) : w.heap.size ≤ gb334)); clear HB; have HB := n0_; have BK334 := n1_; have GW334 := n2_; have GE334 := n3_; clear n0_ n1_ n2_ n3_; clear hb hbox hg) | ((with_reducible refine gate_callee (f := 11) rfl ?_); refine goesL_ (some 7) rfl rfl Tryd.func11 (by kernel_rfl) rfl #[] rfl (by (try simp only [List.map_toArray, List.map_cons, List.map_nil]); first | done | rfl | (simp only [List.length_drop, List.length_take]; rfl) | (have z_ : ∀ s_ : ByteArray, s_.size ≤ 9223372036854775807 → -(s_.size : Int) = wrap64 (-(s_.size : Int)) := (fun s_ h_ => by unfold wrap64; omega); rw [← z_ _ (by omega)]; rfl)) ?_; (with_reducible refine (florinlaw02_head.calls k  false _ A2.out).mono ?_); rintro e w91 ⟨rfl, hb⟩; refine ⟨_, rfl, ?_⟩; have n0_ := bb_ BK334 hb; have n1_ := Aside0.mk (below_step (by repeat (first | (with_reducible first | exact HB.out | apply below_alloc | apply pw_below_drewN | apply below_drew1 | refine below_set ?_ GE334.out) | exact HB.out)) hb); clear BK334; clear HB; have BK334 := n0_; have HB := n1_; clear n0_ n1_; (try clear hb); (try clear hb2); (try clear hk); (try clear hi)))
    go_ret
    exact ⟨by first | rfl | (simp [errW_none, errW_some] <;> rfl) | (simp [*, errW_none, errW_some] <;> first | rfl | exact given_isEmpty _ | exact (given_isEmpty _).symm), by repeat (first | (with_reducible first | exact HB.out | apply below_alloc | apply pw_below_drewN | apply below_drew1 | refine below_set ?_ GE334.out) | exact HB.out)⟩

end Go.Proofs.YtlkiaeipbekpkaaDoor.P
