-- written by a program of this session (wip/p2)
import Derived.Test.YthkpmiajcmihjaaDoorPx0
import Derived.Test.YthkpmiajcmihjaaDoorPx9
namespace Go.Proofs.YthkpmiajcmihjaaDoor.P
open Go.RowKit Go.Proofs.YthkpmiajcmihjaaDoorW.PrintWords Go.Proofs.YthkpmiajcmihjaaDoorW.PrintLast Go.Proofs.YthkpmiajcmihjaaDoorW.PrintMore
attribute [local go_sem] max2_int min2_int max_two min_two max_three min_three max_four min_four   -- for this text's walks alone
set_option linter.unusedVariables false
set_option linter.unusedSimpArgs false

/-! ### florinlaw02_Raw_Make: function 9 -/
def florinlaw02_Raw_Make.f (k : Nat) (a0_0 : Bool) (l0_1 : List Int) (a0_2 : Int) : Option (Bool × ByteArray × Int) := (florinlaw01_Digits.f k l0_1).bind fun t280 => (some (a0_0, t280, a0_2))
theorem florinlaw02_Raw_Make.mono : ∀ a0 a1 a2 k, LeO (florinlaw02_Raw_Make.f k a0 a1 a2) (florinlaw02_Raw_Make.f (k + 1) a0 a1 a2) := by
  intro a0 a1 a2 k
  unfold florinlaw02_Raw_Make.f
  repeat' first
      | (with_reducible exact florinlaw01_Digits.mono _ _)
      | (with_reducible exact LeO.refl _)
      | (with_reducible exact LeO.none _)
      | (with_reducible refine LeO.ite ?_ ?_)
      | (with_reducible refine LeO.bind ?_ (fun _ => ?_))
      | exact florinlaw01_Digits.mono _ _
      | exact LeO.none _
      | refine LeO.ite ?_ ?_
      | refine LeO.bind ?_ (fun _ => ?_)
def florinlaw02_Raw_Make.T1 : Bool × List (List Nat × List Nat) := (true, [([], []), ([0], [0]), ([], []), ([2], [2]), ([3], [3]), ([], []), ([5], [5]), ([1, 4, 6], [1, 4, 6]), ([7, 4, 0, 1, 2, 3, 4, 5, 6, 7], [7])])
def florinlaw02_Raw_Make.B1 : List Nat := [0, 1, 0, 4, 12, 0, 32, 127, 255]
theorem florinlaw02_Raw_Make.tab1 : rtab .any (opsOf Tryd.f9 1) = florinlaw02_Raw_Make.T1 := by kernel_rfl
theorem florinlaw02_Raw_Make.bits1 : waitsOk florinlaw02_Raw_Make.T1.2 florinlaw02_Raw_Make.B1 = true := by kernel_rfl
set_option maxHeartbeats 8000000 in
set_option maxRecDepth 100000 in
theorem florinlaw02_Raw_Make.calls (k : Nat) (a0_0 : Bool) (A0_1 : Option Addr) (c0_1 : Nat) (l0_1 : List Int) (a0_2 : Int) (r1 : Bool) (r2 : ByteArray) (r3 : Int) (w : World) (hr0_1 : Kd.C (Kd.int .u8) w A0_1 l0_1.length l0_1) (hc0_1 : l0_1.length ≤ c0_1) (h : florinlaw02_Raw_Make.f k a0_0 l0_1 a0_2 = some (r1, r2, r3)) :
    Calls Tryd.prog 9 #[.agg #[.bool a0_0, .slice A0_1 l0_1.length c0_1, .int .i64 a0_2]] w fun e w' => e = .returned (.agg #[.bool r1, .string r2, .int .i64 r3]) ∧ Below w.heap.size w w' := by
  have hu24 := Tryd.underlying24
  have hu29 := Tryd.underlying29
  have HR0_1 := Aside0.mk hr0_1
  have HC0_1 := Aside0.mk hc0_1
  clear hr0_1 hc0_1
  have HB := Aside0.mk (Below.refl w.heap.size w)
  have H : ((florinlaw01_Digits.f k l0_1).bind fun t280 => (some (a0_0, t280, a0_2))) = some (r1, r2, r3) := h
  clear h
  replace H := Option.bind_eq_some_iff.mp H
  obtain ⟨t280, A20, H⟩ := H
  replace H : (some (a0_0, t280, a0_2)) = some (r1, r2, r3) := H
  have A2 := Aside0.mk A20
  clear A20
  simp only [Option.some.injEq, Prod.mk.injEq] at H
  obtain ⟨rfl, rfl, rfl⟩ := H
  go_enter Tryd.func9, Tryd.ntmps9
  try go_wp2_with (first | ((with_reducible refine gate_dst (N := 1) rfl ?_); refine be_ 1 #[.bool a0_0, .slice A0_1 l0_1.length c0_1, .int .i64 a0_2] 24 ?_; intro gb278 hg w3 hbox hb; have BK278 := Aside0.mk (hbox); have GW278 := sz_ HB hg; have GE278 := sz_ HB hg; replace HB := Aside0.mk (below_step (bl_ HB).out hb); clear hb hbox hg) | ((with_reducible refine gate_dst (N := 2) rfl ?_); refine be_ 2 #[.bool false, .string (⟨#[]⟩ : ByteArray), .int .i64 0] 29 ?_; intro gb279 hg w4 hbox hb; have BK279 := Aside0.mk (hbox); have GW279 := sz_ HB hg; have GE279 := sz_ HB hg; have NB278_279 := na_ BK278 hg; have NB279_278 := nb_ BK278 hg; replace BK278 := bb_ BK278 hb; replace HB := Aside0.mk (below_step (bl_ HB).out hb); clear hb hbox hg))
  replace BK278 := Aside0.mk (blk_drew BK278.out)
  replace BK279 := Aside0.mk (blk_drew BK279.out)
  replace HB := Aside0.mk (below_drew1 HB.out)
  refine start_ (n := 9) (S := fun w' => w'.cell? ⟨gb278, 0, none⟩ = some (.bool a0_0) ∧ w'.cell? ⟨gb278, 1, none⟩ = some (.slice A0_1 l0_1.length c0_1) ∧ w'.cell? ⟨gb278, 2, none⟩ = some (.int .i64 a0_2)) (ds := []) #[false, false, false, false, false, false, false, false, false] (by kernel_rfl) rfl rfl ⟨bc_ BK278 0, bc_ BK278 1, bc_ BK278 2⟩ (fun hHeld => ?_); refine with_tabW florinlaw02_Raw_Make.tab1 florinlaw02_Raw_Make.bits1 (fun HT_ HW_ => ?_)
  generalize w4.drew = w5 at BK278 BK279 HB hHeld ⊢
  refine pu_ 0 3 #[true, false, false, false, false, false, false, false, false] HT_ ?_
  refine pu_ 2 5 #[true, false, true, false, false, false, false, false, false] HT_ ?_
  refine pu_ 5 8 #[true, false, true, false, false, true, false, false, false] HT_ ?_
  refine tk_ 1 4 #[true, true, true, false, false, true, false, false, false] HT_ HW_ hHeld rfl (by rintro w' ⟨s0, s1, s2⟩; go_simp; with_reducible rfl) ?_
  refine tk_ 3 6 #[true, true, true, true, false, true, false, false, false] HT_ HW_ hHeld rfl (by rintro w' ⟨s0, s1, s2⟩; go_simp; with_reducible rfl) ?_
  refine tk_ 6 9 #[true, true, true, true, false, true, true, false, false] HT_ HW_ hHeld rfl (by rintro w' ⟨s0, s1, s2⟩; go_simp; with_reducible rfl) ?_
  refine one_ (i := 4) (N := some 7) #[true, true, true, true, true, true, true, false, false] rfl rfl (one_of HT_.out (by kernel_rfl)) (by decide) (fun K hK => ?_)
  refine gs_ Tryd.func25 #[.slice A0_1 l0_1.length c0_1] ?_
  with_reducible refine (florinlaw01_Digits.calls k _ _ l0_1 t280 _ ?side1 ?side2 A2.out).mono ?_
  (case side1 => repeat (first | exact (Kd.C_below HR0_1.out HB.out) | (with_reducible refine Kd.C_alloc ?_ _) | (with_reducible refine Kd.C_drewN ?_ _) | (with_reducible refine Kd.C_drew ?_)))
  (case side2 => exact HC0_1.out)
  rintro e w6 ⟨rfl, hb⟩
  refine ⟨_, rfl, ?_⟩
  replace BK278 := bb_ BK278 hb
  replace BK279 := bb_ BK279 hb
  replace HB := Aside0.mk (below_step (bl_ HB).out hb)
  (try clear hb)
  (try clear hb2)
  (try clear hk)
  (try clear hi)
  refine hK.out _ _ ⟨bc_ BK278 0, bc_ BK278 1, bc_ BK278 2⟩ (fun hHeld => ?_)
  clear hK K
  refine nm_ 7 ?_
  refine pu_ 7 10 #[true, true, true, true, true, true, true, true, false] HT_ ?_
  refine one_ (i := 8) (N := none) #[true, true, true, true, true, true, true, true, true] rfl rfl (one_of HT_.out (by kernel_rfl)) (by decide) (fun K hK => ?_)
  have hs7 : w6.cell? ⟨gb279, 0, none⟩ = some (.bool false) := bc_ BK279 0
  have hfs7 := blk_frozen BK279.out 0
  have hns7_0 := NB278_279.out
  have hms7_0 := NB279_278.out
  have hs8 : w6.cell? ⟨gb279, 1, none⟩ = some (.string (⟨#[]⟩ : ByteArray)) := bc_ BK279 1
  have hfs8 := blk_frozen BK279.out 1
  have hns8_0 := NB278_279.out
  have hms8_0 := NB279_278.out
  have hs9 : w6.cell? ⟨gb279, 2, none⟩ = some (.int .i64 0) := bc_ BK279 2
  have hfs9 := blk_frozen BK279.out 2
  have hns9_0 := NB278_279.out
  have hms9_0 := NB279_278.out
  refine skip_ (w1 := ?_) (by rfl) rfl ?_ ?_
  rotate_left
  · go_simp
    rfl
  refine hK.out _ _ ⟨((cell_far (p := ⟨gb279, _, none⟩) NB278_279.out _).trans (((cell_far (p := ⟨gb279, _, none⟩) NB278_279.out _).trans (((cell_far (p := ⟨gb279, _, none⟩) NB278_279.out _).trans (hHeld.1)))))), ((cell_far (p := ⟨gb279, _, none⟩) NB278_279.out _).trans (((cell_far (p := ⟨gb279, _, none⟩) NB278_279.out _).trans (((cell_far (p := ⟨gb279, _, none⟩) NB278_279.out _).trans (hHeld.2.1)))))), ((cell_far (p := ⟨gb279, _, none⟩) NB278_279.out _).trans (((cell_far (p := ⟨gb279, _, none⟩) NB278_279.out _).trans (((cell_far (p := ⟨gb279, _, none⟩) NB278_279.out _).trans (hHeld.2.2))))))⟩ (fun hHeld => ?_)
  clear hK K
  refine done_ (done_of HT_.out (by kernel_rfl)) ?_
  try go_wp2
  refine bodyPost_ret (results_cell_row rfl _ _ gb279 29 #[.bool a0_0, .string t280, .int .i64 a0_2] (0, 0) _ rfl (by (with_reducible repeat (first | refine blk_drewN ?_ _ | refine blk_drew ?_ | refine blk_alloc ?_ _)); refine blk_put (cs := #[.bool a0_0, .string t280, .int .i64 0]) ?_ 2 _ rfl; (with_reducible repeat (first | refine blk_drewN ?_ _ | refine blk_drew ?_ | refine blk_alloc ?_ _)); refine blk_put (cs := #[.bool a0_0, .string (⟨#[]⟩ : ByteArray), .int .i64 0]) ?_ 1 _ rfl; (with_reducible repeat (first | refine blk_drewN ?_ _ | refine blk_drew ?_ | refine blk_alloc ?_ _)); refine blk_put (cs := #[.bool false, .string (⟨#[]⟩ : ByteArray), .int .i64 0]) ?_ 0 _ rfl; (with_reducible repeat (first | refine blk_drewN ?_ _ | refine blk_drew ?_ | refine blk_alloc ?_ _)); exact BK279.out) Tryd.underlying29 rfl (by kernel_rfl)) rfl ?_
  exact ⟨ew_, (bl_ HB).out⟩

end Go.Proofs.YthkpmiajcmihjaaDoor.P
