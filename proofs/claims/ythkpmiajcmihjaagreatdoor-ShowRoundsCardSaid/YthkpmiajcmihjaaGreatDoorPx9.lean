-- written by a program of this session (wip/p2)
import Derived.Test.YthkpmiajcmihjaaGreatDoorPx0
import Derived.Test.YthkpmiajcmihjaaGreatDoorPx2
import Derived.Test.YthkpmiajcmihjaaGreatDoorPx3
import Derived.Test.YthkpmiajcmihjaaGreatDoorPx8
namespace Go.Proofs.YthkpmiajcmihjaaGreatDoor.P
open Go.RowKit Go.Proofs.YthkpmiajcmihjaaGreatDoorW.PrintWords Go.Proofs.YthkpmiajcmihjaaGreatDoorW.PrintLast Go.Proofs.YthkpmiajcmihjaaGreatDoorW.PrintMore
attribute [local go_sem] max2_int min2_int max_two min_two max_three min_three max_four min_four   -- for this text's walks alone
set_option linter.unusedVariables false
set_option linter.unusedSimpArgs false

/-! ### num_Of: function 19 -/
def num_Of.l0 : Nat → Int → List Int → Option (ByteArray)
  | 0, _, _ => none
  | k + 1, x0, x3 => if x0 > 0 then (if x3.length < 140737488355328 then (num_Of.l0 k (wrap64 (Int.tdiv x0 10)) (x3 ++ [(48 + (Int.tmod x0 10)) % 256])) else (none)) else ((num_text.f k x3).bind fun t278 => (some t278))
def num_Of.f (k : Nat) (a0 : Int) : Option (ByteArray) := num_Of.l0 k a0 ([] : List Int)
theorem num_Of.mono_l : ∀ k, (∀ y0 y1, LeO (num_Of.l0 k y0 y1) (num_Of.l0 (k + 1) y0 y1))
  | 0 => fun _ _ r h => by simp [num_Of.l0] at h
  | k + 1 => by
    have ih0 := num_Of.mono_l k
    · intro y0 y1
      unfold num_Of.l0
      repeat' first
      | (with_reducible exact ih0 _ _)
      | (with_reducible exact num_text.mono _ _)
      | (with_reducible exact LeO.refl _)
      | (with_reducible exact LeO.none _)
      | (with_reducible refine LeO.ite ?_ ?_)
      | (with_reducible refine LeO.bind ?_ (fun _ => ?_))
      | exact ih0 _ _
      | exact num_text.mono _ _
      | exact LeO.none _
      | refine LeO.ite ?_ ?_
      | refine LeO.bind ?_ (fun _ => ?_)
theorem num_Of.mono : ∀ a0 k, LeO (num_Of.f k a0) (num_Of.f (k + 1) a0) := by
  intro a0 k
  have ih0 := num_Of.mono_l k
  unfold num_Of.f
  repeat' first
      | (with_reducible exact ih0 _ _)
      | (with_reducible exact num_text.mono _ _)
      | (with_reducible exact LeO.refl _)
      | (with_reducible exact LeO.none _)
      | (with_reducible refine LeO.ite ?_ ?_)
      | (with_reducible refine LeO.bind ?_ (fun _ => ?_))
      | exact ih0 _ _
      | exact num_text.mono _ _
      | exact LeO.none _
      | refine LeO.ite ?_ ?_
      | refine LeO.bind ?_ (fun _ => ?_)
set_option maxHeartbeats 8000000 in
set_option maxRecDepth 100000 in
theorem num_Of.calls (k : Nat) (a0 : Int) (r : ByteArray) (w : World) (h : num_Of.f k a0 = some r) :
    Calls Tryz.prog 19 #[.int .i64 a0] w fun e w' => e = .returned (.string r) ∧ Below w.heap.size w w' := by
  have HB := Aside0.mk (Below.refl w.heap.size w)
  have H : (num_Of.l0 k a0 ([] : List Int)) = some r := h
  clear h
  have H' := Aside0.mk H
  clear H
  go_enter Tryz.func19, Tryz.ntmps19
  go_wp2
  go_loopg [0, 3] k (fun kq v0 v3 w' => ∃ (x0_1 : Int) (x3_1 : List Int), v0 = .int .i64 x0_1 ∧ Aside0 (num_Of.l0 kq x0_1 x3_1 = some r) ∧ Aside0 (kq ≤ k) ∧ Aside0 (Kd.R (Kd.int .u8) 5 w' w.heap.size (fun _ => True) v3 x3_1) ∧ Aside0 (Below w.heap.size w w'))
  case atStart => exact ⟨(a0), (([] : List Int)), eq_, H', ⟨Nat.le_refl _⟩, ⟨by first | exact Kd.R_nil _ _ _ _ _ | exact Kd.N_nil _ _ _ _ _ | exact Kd.V_nil _ _ _ _ _ | exact Kd.Q_nil _ _ _ _ _ | exact Kd.S_nil _ _ _ _ _⟩, (bl_ HB)⟩
  case round =>
    clear H'
    try clear c1
    obtain ⟨x0_1, x3_1, rfl, HA, HK1, HO_3, HB⟩ := hrel
    cases gk with
    | zero => exact absurd HA.out (by simp [num_Of.l0])
    | succ k1 =>
      have H := HA.out
      clear HA
      simp only [num_Of.l0] at H
      by_cases c2 : x0_1 > 0
      · rw [if_pos c2] at H
        have c2b0 : decide (0 < x0_1) = true := decide_eq_true c2
        clear c2
        by_cases c3 : x3_1.length < 140737488355328
        · rw [if_pos c3] at H
          have LMc3 := Aside0.mk c3
          clear c3
          obtain ⟨y275, hy275⟩ : ∃ y_ : List Int, y_ = (x3_1 ++ [(48 + (Int.tmod x0_1 10)) % 256]) := ⟨_, rfl⟩
          replace H : (num_Of.l0 k1 (wrap64 (Int.tdiv x0_1 10)) y275) = some r := by first | (rw [hy275]; with_reducible exact H) | (have H2_ := (Option.bind_some _ _).symm.trans H; rw [hy275]; with_reducible exact H2_) | (have H2_ := (Option.bind_some _ _).symm.trans H; with_reducible exact H2_) | with_reducible exact H | (rw [hy275]; exact H) | exact H
          have Ny275 := Aside0.mk hy275
          clear hy275
          have H' := Aside0.mk H
          clear H
          go_wp2_with (first | ((with_reducible refine gate_builtin (b := .append) (xs := #[.tmp 8, .tmp 13]) rfl ?_); at_builtin; refine Kd.R_append (Kd.int .u8) (w0 := w) w.heap.size rfl (.tmp 8) (.tmp 13) 22 5 (.int .u8 0) 1 rfl Tryz.underlying22 info5 rfl (by decide) (by omega) u3 x3_1 ((48 + (Int.tmod x0_1 10)) % 256) [.int .u8 ((48 + (Int.tmod x0_1 10)) % 256)] (fun _ => True) (fun _ => False) rfl rfl ?aP (fun _ hk => hk.elim) ?aF ?aO ?aB ?aS ?aL ?_; (case aP => exact rfl); (case aB => exact (bl_ HB).out); (case aF => exact (fun _ _ => trivial)); (case aO => exact (by (with_reducible repeat (first | apply Kd.R_alloc | apply Kd.R_drewN | apply Kd.R_drew)); exact HO_3.out)); (case aS => exact (below_size (bl_ HB).out)); (case aL => have := LMc3.out; omega); intro v276 w4 ho hb hg hat; rw [← Ny275.out] at ho; have n0_ := Aside0.mk (hb); have n1_ := Aside0.mk (ho); clear HB; clear HO_3; have HB := n0_; have HO277 := n1_; clear n0_ n1_; clear ho hb hg hat))
          go_roundg k1
          case measure => have := HK1.out; omega
          case rel => exact ⟨(wrap64 (Int.tdiv x0_1 10)), (y275), eq_, H', ⟨by have := HK1.out; omega⟩, ⟨by (with_reducible repeat (first | apply Kd.R_alloc | apply Kd.R_drewN | apply Kd.R_drew)); exact HO277.out⟩, (bl_ HB)⟩
        · rw [if_neg c3] at H
          exact absurd H (by simp)
      · rw [if_neg c2] at H
        have c2b0 : decide (0 < x0_1) = false := decide_eq_false c2
        clear c2
        replace H := Option.bind_eq_some_iff.mp H
        obtain ⟨t278, A50, H⟩ := H
        replace H : (some t278) = some r := H
        have A5 := Aside0.mk A50
        clear A50
        obtain rfl := Option.some.inj H
        obtain ⟨Ao6, co6, eo6⟩ := Kd.R_slice HO_3.out
        subst eo6
        go_wp2_with (first | ((with_reducible refine gate_callee (f := 43) rfl ?_); refine gl_ (some 16) Tryz.func43 #[.slice Ao6 x3_1.length co6] ?_; (with_reducible refine (num_text.calls k1 _ _ x3_1 t278 _ ?side1 ?side2 A5.out).mono ?_); (case side1 => repeat (first | exact (Kd.R_reads' HO_3.out).2.2 | (with_reducible refine Kd.C_alloc ?_ _) | (with_reducible refine Kd.C_drewN ?_ _) | (with_reducible refine Kd.C_drew ?_))); (case side2 => exact (Kd.R_reads' HO_3.out).2.1); rintro e w7 ⟨rfl, hb⟩; refine ⟨_, rfl, ?_⟩; have n0_ := Aside0.mk (Kd.R_below (by (with_reducible repeat (first | apply Kd.R_alloc | apply Kd.R_drewN | apply Kd.R_drew)); exact HO_3.out) hb); have n1_ := Aside0.mk (below_step (bl_ HB).out hb); clear HO_3; clear HB; have HO_3 := n0_; have HB := n1_; clear n0_ n1_; (try clear hb); (try clear hb2); (try clear hk); (try clear hi)))
        go_ret
        exact ⟨ew_, (bl_ HB).out⟩

/-! ### florinlaw04_Ask_Prec: function 6 -/
def florinlaw04_Ask_Prec.j0 : Nat → Int → Int → Int → Int → Int → Int → Int → Int → Int → Int → Bool → ByteArray → Int → Int → Int → Option (Int × Int × Int × Bool × ByteArray × Int × Int × Int)
  | 0, _, _, _, _, _, _, _, _, _, _, _, _, _, _, _ => none
  | k + 1, x280000, x280001, x280002, x280003, x280004, x280005, x280006, x283000, x283001, x283002, x283003, x283004, x283005, x283006, x283007 => if x283000 = 2 then ((num_Of.f k (wrap64 (1 + (Go.bits .and .i64 x280005 65535)))).bind fun t283 => ((dec_Made.f k false t283 (wrap64 ((Int.tmod x280006 4) - 3))).bind fun bt284 => (some (x283000, x283001, wrap64 (x283001 + (Go.bits .and .i64 x280002 7)), bt284.1, bt284.2.1, bt284.2.2, x283006, x283007)))) else (some (x283000, x283001, wrap64 (x283001 + (Go.bits .and .i64 x280002 7)), x283003, x283004, x283005, x283006, x283007))
def florinlaw04_Ask_Prec.f (k : Nat) (a0_0 : Int) (a0_1 : Int) (a0_2 : Int) (a0_3 : Int) (a0_4 : Int) (a0_5 : Int) (a0_6 : Int) : Option (Int × Int × Int × Bool × ByteArray × Int × Int × Int) := (florinlaw03_Mode.f a0_3).bind fun t281 => (if (wrap64 (Int.tmod (IntKind.u64.wrap (a0_0)) 3)) = 1 then (florinlaw04_Ask_Prec.j0 k a0_0 a0_1 a0_2 a0_3 a0_4 a0_5 a0_6 (wrap64 (Int.tmod (IntKind.u64.wrap (a0_0)) 3)) (wrap64 ((Go.bits .and .i64 a0_1 7) + 1)) 0 false (⟨#[]⟩ : ByteArray) 0 t281 (Go.bits .and .i64 a0_4 7)) else (florinlaw04_Ask_Prec.j0 k a0_0 a0_1 a0_2 a0_3 a0_4 a0_5 a0_6 (wrap64 (Int.tmod (IntKind.u64.wrap (a0_0)) 3)) (Go.bits .and .i64 a0_1 7) 0 false (⟨#[]⟩ : ByteArray) 0 t281 (Go.bits .and .i64 a0_4 7)))
theorem florinlaw04_Ask_Prec.mono_l : ∀ k, (∀ y0 y1 y2 y3 y4 y5 y6 y7 y8 y9 y10 y11 y12 y13 y14, LeO (florinlaw04_Ask_Prec.j0 k y0 y1 y2 y3 y4 y5 y6 y7 y8 y9 y10 y11 y12 y13 y14) (florinlaw04_Ask_Prec.j0 (k + 1) y0 y1 y2 y3 y4 y5 y6 y7 y8 y9 y10 y11 y12 y13 y14))
  | 0 => fun _ _ _ _ _ _ _ _ _ _ _ _ _ _ _ r h => by simp [florinlaw04_Ask_Prec.j0] at h
  | k + 1 => by
    have ih0 := florinlaw04_Ask_Prec.mono_l k
    · intro y0 y1 y2 y3 y4 y5 y6 y7 y8 y9 y10 y11 y12 y13 y14
      unfold florinlaw04_Ask_Prec.j0
      repeat' first
      | (with_reducible exact ih0 _ _ _ _ _ _ _ _ _ _ _ _ _ _ _)
      | (with_reducible exact dec_Made.mono _ _ _ _)
      | (with_reducible exact num_Of.mono _ _)
      | (with_reducible exact LeO.refl _)
      | (with_reducible exact LeO.none _)
      | (with_reducible refine LeO.ite ?_ ?_)
      | (with_reducible refine LeO.bind ?_ (fun _ => ?_))
      | exact ih0 _ _ _ _ _ _ _ _ _ _ _ _ _ _ _
      | exact dec_Made.mono _ _ _ _
      | exact num_Of.mono _ _
      | exact LeO.none _
      | refine LeO.ite ?_ ?_
      | refine LeO.bind ?_ (fun _ => ?_)
theorem florinlaw04_Ask_Prec.mono : ∀ a0 a1 a2 a3 a4 a5 a6 k, LeO (florinlaw04_Ask_Prec.f k a0 a1 a2 a3 a4 a5 a6) (florinlaw04_Ask_Prec.f (k + 1) a0 a1 a2 a3 a4 a5 a6) := by
  intro a0 a1 a2 a3 a4 a5 a6 k
  have ih0 := florinlaw04_Ask_Prec.mono_l k
  unfold florinlaw04_Ask_Prec.f
  repeat' first
      | (with_reducible exact ih0 _ _ _ _ _ _ _ _ _ _ _ _ _ _ _)
      | (with_reducible exact dec_Made.mono _ _ _ _)
      | (with_reducible exact num_Of.mono _ _)
      | (with_reducible exact LeO.refl _)
      | (with_reducible exact LeO.none _)
      | (with_reducible refine LeO.ite ?_ ?_)
      | (with_reducible refine LeO.bind ?_ (fun _ => ?_))
      | exact ih0 _ _ _ _ _ _ _ _ _ _ _ _ _ _ _
      | exact dec_Made.mono _ _ _ _
      | exact num_Of.mono _ _
      | exact LeO.none _
      | refine LeO.ite ?_ ?_
      | refine LeO.bind ?_ (fun _ => ?_)
def florinlaw04_Ask_Prec.T1 : Bool × List (List Nat × List Nat) := (true, [([], []), ([0], [0]), ([1], [1]), ([2], [2]), ([3], [3]), ([], []), ([5], [5]), ([6], [6]), ([], []), ([8], [8]), ([9], [9]), ([], []), ([11], [11]), ([12], [12]), ([4, 7, 10, 13], [4, 7, 10, 13]), ([], []), ([15, 14, 10, 0, 1, 2, 3, 4, 5, 6, 7, 8, 9, 10, 11, 12, 13, 14, 15], [14, 15])])
def florinlaw04_Ask_Prec.B1 : List Nat := [0, 1, 3, 7, 15, 0, 32, 96, 0, 256, 768, 0, 2048, 6144, 16383, 0, 65535]
theorem florinlaw04_Ask_Prec.tab1 : rtab .any (opsOf Tryz.f6 1) = florinlaw04_Ask_Prec.T1 := by kernel_rfl
theorem florinlaw04_Ask_Prec.bits1 : waitsOk florinlaw04_Ask_Prec.T1.2 florinlaw04_Ask_Prec.B1 = true := by kernel_rfl
def florinlaw04_Ask_Prec.T6 : Bool × List (List Nat × List Nat) := (true, [([], []), ([0], [0]), ([1], [1]), ([2], [2]), ([3], [3]), ([], []), ([5], [5]), ([6], [6]), ([7], [7]), ([4, 8, 4], [4, 8]), ([0, 1, 2, 3, 4, 5, 6, 7, 8, 9], []), ([10, 9, 9, 0, 1, 2, 3, 4, 5, 6, 7, 8, 9], [9, 10])])
def florinlaw04_Ask_Prec.B6 : List Nat := [0, 1, 3, 7, 15, 0, 32, 96, 224, 511, 1023, 2047]
theorem florinlaw04_Ask_Prec.tab6 : rtab .any (opsOf Tryz.f6 6) = florinlaw04_Ask_Prec.T6 := by kernel_rfl
theorem florinlaw04_Ask_Prec.bits6 : waitsOk florinlaw04_Ask_Prec.T6.2 florinlaw04_Ask_Prec.B6 = true := by kernel_rfl
set_option maxHeartbeats 8000000 in
set_option maxRecDepth 100000 in
theorem florinlaw04_Ask_Prec.calls (k : Nat) (a0_0 : Int) (a0_1 : Int) (a0_2 : Int) (a0_3 : Int) (a0_4 : Int) (a0_5 : Int) (a0_6 : Int) (r1 : Int) (r2 : Int) (r3 : Int) (r4 : Bool) (r5 : ByteArray) (r6 : Int) (r7 : Int) (r8 : Int) (w : World) (h : florinlaw04_Ask_Prec.f k a0_0 a0_1 a0_2 a0_3 a0_4 a0_5 a0_6 = some (r1, r2, r3, r4, r5, r6, r7, r8)) :
    Calls Tryz.prog 6 #[.agg #[.int .i64 a0_0, .int .i64 a0_1, .int .i64 a0_2, .int .i64 a0_3, .int .i64 a0_4, .int .i64 a0_5, .int .i64 a0_6]] w fun e w' => e = .returned (.agg #[.int .i64 r1, .int .i64 r2, .int .i64 r3, .bool r4, .string r5, .int .i64 r6, .int .i64 r7, .int .i64 r8]) ∧ Below w.heap.size w w' := by
  have hu26 := Tryz.underlying26
  have hu34 := Tryz.underlying34
  have hu31 := Tryz.underlying31
  have HB := Aside0.mk (Below.refl w.heap.size w)
  have H : ((florinlaw03_Mode.f a0_3).bind fun t281 => (if (wrap64 (Int.tmod (IntKind.u64.wrap (a0_0)) 3)) = 1 then (florinlaw04_Ask_Prec.j0 k a0_0 a0_1 a0_2 a0_3 a0_4 a0_5 a0_6 (wrap64 (Int.tmod (IntKind.u64.wrap (a0_0)) 3)) (wrap64 ((Go.bits .and .i64 a0_1 7) + 1)) 0 false (⟨#[]⟩ : ByteArray) 0 t281 (Go.bits .and .i64 a0_4 7)) else (florinlaw04_Ask_Prec.j0 k a0_0 a0_1 a0_2 a0_3 a0_4 a0_5 a0_6 (wrap64 (Int.tmod (IntKind.u64.wrap (a0_0)) 3)) (Go.bits .and .i64 a0_1 7) 0 false (⟨#[]⟩ : ByteArray) 0 t281 (Go.bits .and .i64 a0_4 7)))) = some (r1, r2, r3, r4, r5, r6, r7, r8) := h
  clear h
  replace H := Option.bind_eq_some_iff.mp H
  obtain ⟨t281, A20, H⟩ := H
  replace H : (if (wrap64 (Int.tmod (IntKind.u64.wrap (a0_0)) 3)) = 1 then (florinlaw04_Ask_Prec.j0 k a0_0 a0_1 a0_2 a0_3 a0_4 a0_5 a0_6 (wrap64 (Int.tmod (IntKind.u64.wrap (a0_0)) 3)) (wrap64 ((Go.bits .and .i64 a0_1 7) + 1)) 0 false (⟨#[]⟩ : ByteArray) 0 t281 (Go.bits .and .i64 a0_4 7)) else (florinlaw04_Ask_Prec.j0 k a0_0 a0_1 a0_2 a0_3 a0_4 a0_5 a0_6 (wrap64 (Int.tmod (IntKind.u64.wrap (a0_0)) 3)) (Go.bits .and .i64 a0_1 7) 0 false (⟨#[]⟩ : ByteArray) 0 t281 (Go.bits .and .i64 a0_4 7))) = some (r1, r2, r3, r4, r5, r6, r7, r8) := H
  have A2 := Aside0.mk A20
  clear A20
  have HC3 := Aside0.mk H
  clear H
  go_enter Tryz.func6, Tryz.ntmps6
  try go_wp2_with (first | ((with_reducible refine gate_dst (N := 1) rfl ?_); refine be_ 1 #[.int .i64 a0_0, .int .i64 a0_1, .int .i64 a0_2, .int .i64 a0_3, .int .i64 a0_4, .int .i64 a0_5, .int .i64 a0_6] 26 ?_; intro gb279 hg w4 hbox hb; have BK279 := Aside0.mk (hbox); have GW279 := sz_ HB hg; have GE279 := sz_ HB hg; replace HB := Aside0.mk (below_step (bl_ HB).out hb); clear hb hbox hg) | ((with_reducible refine gate_dst (N := 2) rfl ?_); refine be_ 2 #[.int .i64 0, .int .i64 0, .int .i64 0, .bool false, .string (⟨#[]⟩ : ByteArray), .int .i64 0, .int .i64 0, .int .i64 0] 34 ?_; intro gb280 hg w5 hbox hb; have BK280 := Aside0.mk (hbox); have GW280 := sz_ HB hg; have GE280 := sz_ HB hg; have NB279_280 := na_ BK279 hg; have NB280_279 := nb_ BK279 hg; replace BK279 := bb_ BK279 hb; replace HB := Aside0.mk (below_step (bl_ HB).out hb); clear hb hbox hg))
  replace BK279 := Aside0.mk (blk_drew BK279.out)
  replace BK280 := Aside0.mk (blk_drew BK280.out)
  replace HB := Aside0.mk (below_drew1 HB.out)
  refine start_ (n := 17) (S := fun w' => w'.cell? ⟨gb279, 0, none⟩ = some (.int .i64 a0_0) ∧ w'.cell? ⟨gb279, 1, none⟩ = some (.int .i64 a0_1) ∧ w'.cell? ⟨gb279, 2, none⟩ = some (.int .i64 a0_2) ∧ w'.cell? ⟨gb279, 3, none⟩ = some (.int .i64 a0_3) ∧ w'.cell? ⟨gb279, 4, none⟩ = some (.int .i64 a0_4) ∧ w'.cell? ⟨gb279, 5, none⟩ = some (.int .i64 a0_5) ∧ w'.cell? ⟨gb279, 6, none⟩ = some (.int .i64 a0_6)) (ds := []) #[false, false, false, false, false, false, false, false, false, false, false, false, false, false, false, false, false] (by kernel_rfl) rfl rfl ⟨bc_ BK279 0, bc_ BK279 1, bc_ BK279 2, bc_ BK279 3, bc_ BK279 4, bc_ BK279 5, bc_ BK279 6⟩ (fun hHeld => ?_); refine with_tabW florinlaw04_Ask_Prec.tab1 florinlaw04_Ask_Prec.bits1 (fun HT_ HW_ => ?_)
  generalize w5.drew = w6 at BK279 BK280 HB hHeld ⊢
  refine pu_ 0 4 (bm_ 17 1) HT_ ?_
  refine pu_ 5 9 (bm_ 17 33) HT_ ?_
  refine pu_ 8 12 (bm_ 17 289) HT_ ?_
  refine pu_ 11 15 (bm_ 17 2337) HT_ ?_
  refine tk_ 1 5 (bm_ 17 2339) HT_ HW_ hHeld rfl (by rintro w' ⟨s0, s1, s2, s3, s4, s5, s6⟩; go_simp; with_reducible rfl) ?_
  refine pu_ 2 6 (bm_ 17 2343) HT_ ?_
  refine pu_ 3 7 (bm_ 17 2351) HT_ ?_
  refine pu_ 4 8 (bm_ 17 2367) HT_ ?_
  refine tk_ 6 10 (bm_ 17 2431) HT_ HW_ hHeld rfl (by rintro w' ⟨s0, s1, s2, s3, s4, s5, s6⟩; go_simp; with_reducible rfl) ?_
  refine pu_ 7 11 (bm_ 17 2559) HT_ ?_
  refine tk_ 9 13 (bm_ 17 3071) HT_ HW_ hHeld rfl (by rintro w' ⟨s0, s1, s2, s3, s4, s5, s6⟩; go_simp; with_reducible rfl) ?_
  refine tk_ 12 16 (bm_ 17 7167) HT_ HW_ hHeld rfl (by rintro w' ⟨s0, s1, s2, s3, s4, s5, s6⟩; go_simp; with_reducible rfl) ?_
  refine pu_ 13 17 (bm_ 17 15359) HT_ ?_
  refine join_ (σ := Nat) 1 #[true, true, true, true, true, true, true, true, true, true, true, true, true, true, true, true, false] (fun s_ => [(14, .int .i64 t281), (3, .pointer (some ⟨s_, 0, none⟩)), (18, .agg #[.int .i64 (wrap64 (Int.tmod (IntKind.u64.wrap (a0_0)) 3)), .int .i64 (Go.bits .and .i64 a0_1 7), .int .i64 0, .bool false, .string (⟨#[]⟩ : ByteArray), .int .i64 0, .int .i64 t281, .int .i64 (Go.bits .and .i64 a0_4 7)])]) (fun s_ w' => (w'.cell? ⟨gb279, 0, none⟩ = some (.int .i64 a0_0) ∧ w'.cell? ⟨gb279, 1, none⟩ = some (.int .i64 a0_1) ∧ w'.cell? ⟨gb279, 2, none⟩ = some (.int .i64 a0_2) ∧ w'.cell? ⟨gb279, 3, none⟩ = some (.int .i64 a0_3) ∧ w'.cell? ⟨gb279, 4, none⟩ = some (.int .i64 a0_4) ∧ w'.cell? ⟨gb279, 5, none⟩ = some (.int .i64 a0_5) ∧ w'.cell? ⟨gb279, 6, none⟩ = some (.int .i64 a0_6)) ∧ (w'.heap[gb279]? = some (.cells #[.int .i64 a0_0, .int .i64 a0_1, .int .i64 a0_2, .int .i64 a0_3, .int .i64 a0_4, .int .i64 a0_5, .int .i64 a0_6] 26 (0, 0))) ∧ (w'.heap[gb280]? = some (.cells #[.int .i64 0, .int .i64 0, .int .i64 0, .bool false, .string (⟨#[]⟩ : ByteArray), .int .i64 0, .int .i64 0, .int .i64 0] 34 (0, 0))) ∧ (w'.heap[s_]? = some (.cells #[.int .i64 0, .int .i64 0, .int .i64 0, .bool false, .string (⟨#[]⟩ : ByteArray), .int .i64 0, .int .i64 0, .int .i64 0] 34 (0, 0))) ∧ (w.heap.size ≤ s_) ∧ (w.heap.size ≤ s_) ∧ (gb279 ≠ s_) ∧ (s_ ≠ gb279) ∧ (gb280 ≠ s_) ∧ (s_ ≠ gb280) ∧ (Below w.heap.size w w')) ?_ ?_
  rotate_left
  · intro hCont
    refine two_ (i := 10) (j := 15) (Ni := some 14) (Nj := some 3) #[true, true, true, true, true, true, true, true, true, true, true, true, true, true, false, false, false] #[true, true, true, true, true, true, true, true, true, true, false, true, true, true, false, true, false] rfl rfl rfl rfl (two_of HT_.out (by kernel_rfl)) (by decide) (by decide) (fun K hK => ?_) (fun K hK => ?_)
    · skip
      refine gs_ Tryz.func18 #[.int .i64 a0_3] ?_
      with_reducible refine (florinlaw03_Mode.calls a0_3 t281 _ A2.out).mono ?_
      rintro e w' ⟨rfl, ⟨nd, rfl⟩⟩
      refine ⟨_, rfl, ?_⟩
      refine hK.out _ _ ⟨bc_ BK279 0, bc_ BK279 1, bc_ BK279 2, bc_ BK279 3, bc_ BK279 4, bc_ BK279 5, bc_ BK279 6⟩ (fun hHeld => ?_)
      clear hK K
      refine nm_ 14 ?_
      refine pu_ 14 18 (bm_ 17 32767) HT_ ?_
      refine one_ (i := 15) (N := some 3) (bm_ 17 65535) rfl rfl (one_of HT_.out (by kernel_rfl)) (by decide) (fun K hK => ?_)
      refine box_step ?hg (N := 3) ?hd (cs := #[.int .i64 0, .int .i64 0, .int .i64 0, .bool false, .string (⟨#[]⟩ : ByteArray), .int .i64 0, .int .i64 0, .int .i64 0]) (t := 34) ?hr ?_; (case hd => rfl); (case hg => rfl); (case hr => first | (go_simp; done) | (go_simp; rfl))
      intro gb282 hg w7 hbox hb
      have n0_ := bb_ BK279 hb
      have n1_ := bb_ BK280 hb
      have n2_ := Aside0.mk (below_step (bl_ HB).out hb)
      have n3_ := Aside0.mk (hbox)
      have n4_ := sz_ HB hg
      have n5_ := sz_ HB hg
      have n6_ := na_ BK279 hg
      have n7_ := nb_ BK279 hg
      have n8_ := na_ BK280 hg
      have n9_ := nb_ BK280 hg
      clear BK279
      clear BK280
      clear HB
      have BK279 := n0_
      have BK280 := n1_
      have HB := n2_
      have BK282 := n3_
      have GW282 := n4_
      have GE282 := n5_
      have NB279_282 := n6_
      have NB282_279 := n7_
      have NB280_282 := n8_
      have NB282_280 := n9_
      clear n0_ n1_ n2_ n3_ n4_ n5_ n6_ n7_ n8_ n9_
      clear hb hbox hg
      refine hK.out _ _ ⟨bc_ BK279 0, bc_ BK279 1, bc_ BK279 2, bc_ BK279 3, bc_ BK279 4, bc_ BK279 5, bc_ BK279 6⟩ (fun hHeld => ?_)
      clear hK K
      refine nm_ 3 ?_
      exact norm_ (by simp only [putAll, Act.put, List.setIfInBounds_toArray, List.set_cons_zero, List.set_cons_succ]) (hCont (gb282) _ ⟨hHeld, (by (with_reducible repeat (first | refine blk_drewN ?_ _ | refine blk_drew ?_ | refine blk_alloc ?_ _)); exact BK279.out), (by (with_reducible repeat (first | refine blk_drewN ?_ _ | refine blk_drew ?_ | refine blk_alloc ?_ _)); exact BK280.out), (by (with_reducible repeat (first | refine blk_drewN ?_ _ | refine blk_drew ?_ | refine blk_alloc ?_ _)); exact BK282.out), GW282.out, GE282.out, NB279_282.out, NB282_279.out, NB280_282.out, NB282_280.out, (bl_ HB).out⟩)
    · skip
      refine box_step ?hg (N := 3) ?hd (cs := #[.int .i64 0, .int .i64 0, .int .i64 0, .bool false, .string (⟨#[]⟩ : ByteArray), .int .i64 0, .int .i64 0, .int .i64 0]) (t := 34) ?hr ?_; (case hd => rfl); (case hg => rfl); (case hr => first | (go_simp; done) | (go_simp; rfl))
      intro gb282 hg w7 hbox hb
      have n0_ := bb_ BK279 hb
      have n1_ := bb_ BK280 hb
      have n2_ := Aside0.mk (below_step (bl_ HB).out hb)
      have n3_ := Aside0.mk (hbox)
      have n4_ := sz_ HB hg
      have n5_ := sz_ HB hg
      have n6_ := na_ BK279 hg
      have n7_ := nb_ BK279 hg
      have n8_ := na_ BK280 hg
      have n9_ := nb_ BK280 hg
      clear BK279
      clear BK280
      clear HB
      have BK279 := n0_
      have BK280 := n1_
      have HB := n2_
      have BK282 := n3_
      have GW282 := n4_
      have GE282 := n5_
      have NB279_282 := n6_
      have NB282_279 := n7_
      have NB280_282 := n8_
      have NB282_280 := n9_
      clear n0_ n1_ n2_ n3_ n4_ n5_ n6_ n7_ n8_ n9_
      clear hb hbox hg
      refine hK.out _ _ ⟨bc_ BK279 0, bc_ BK279 1, bc_ BK279 2, bc_ BK279 3, bc_ BK279 4, bc_ BK279 5, bc_ BK279 6⟩ (fun hHeld => ?_)
      clear hK K
      refine nm_ 3 ?_
      refine one_ (i := 10) (N := some 14) (bm_ 17 49151) rfl rfl (one_of HT_.out (by kernel_rfl)) (by decide) (fun K hK => ?_)
      refine gs_ Tryz.func18 #[.int .i64 a0_3] ?_
      with_reducible refine (florinlaw03_Mode.calls a0_3 t281 _ A2.out).mono ?_
      rintro e w' ⟨rfl, ⟨nd, rfl⟩⟩
      refine ⟨_, rfl, ?_⟩
      refine hK.out _ _ ⟨bc_ BK279 0, bc_ BK279 1, bc_ BK279 2, bc_ BK279 3, bc_ BK279 4, bc_ BK279 5, bc_ BK279 6⟩ (fun hHeld => ?_)
      clear hK K
      refine nm_ 14 ?_
      refine pu_ 14 18 (bm_ 17 65535) HT_ ?_
      exact norm_ (by simp only [putAll, Act.put, List.setIfInBounds_toArray, List.set_cons_zero, List.set_cons_succ]) (hCont (gb282) _ ⟨hHeld, (by (with_reducible repeat (first | refine blk_drewN ?_ _ | refine blk_drew ?_ | refine blk_alloc ?_ _)); exact BK279.out), (by (with_reducible repeat (first | refine blk_drewN ?_ _ | refine blk_drew ?_ | refine blk_alloc ?_ _)); exact BK280.out), (by (with_reducible repeat (first | refine blk_drewN ?_ _ | refine blk_drew ?_ | refine blk_alloc ?_ _)); exact BK282.out), GW282.out, GE282.out, NB279_282.out, NB282_279.out, NB280_282.out, NB282_280.out, (bl_ HB).out⟩)
  rintro gb282 w8 ⟨hS_, h0_, h1_, h2_, h3_, h4_, h5_, h6_, h7_, h8_, h9_⟩
  have n0_ : Aside0 (w8.heap[gb279]? = some (.cells #[.int .i64 a0_0, .int .i64 a0_1, .int .i64 a0_2, .int .i64 a0_3, .int .i64 a0_4, .int .i64 a0_5, .int .i64 a0_6] 26 (0, 0))) := ⟨h0_⟩
  have n1_ : Aside0 (w8.heap[gb280]? = some (.cells #[.int .i64 0, .int .i64 0, .int .i64 0, .bool false, .string (⟨#[]⟩ : ByteArray), .int .i64 0, .int .i64 0, .int .i64 0] 34 (0, 0))) := ⟨h1_⟩
  have n2_ : Aside0 (w8.heap[gb282]? = some (.cells #[.int .i64 0, .int .i64 0, .int .i64 0, .bool false, .string (⟨#[]⟩ : ByteArray), .int .i64 0, .int .i64 0, .int .i64 0] 34 (0, 0))) := ⟨h2_⟩
  have n3_ : Aside0 (w.heap.size ≤ gb282) := ⟨h3_⟩
  have n4_ : Aside0 (w.heap.size ≤ gb282) := ⟨h4_⟩
  have n5_ : Aside0 (gb279 ≠ gb282) := ⟨h5_⟩
  have n6_ : Aside0 (gb282 ≠ gb279) := ⟨h6_⟩
  have n7_ : Aside0 (gb280 ≠ gb282) := ⟨h7_⟩
  have n8_ : Aside0 (gb282 ≠ gb280) := ⟨h8_⟩
  have n9_ : Aside0 (Below w.heap.size w w8) := ⟨h9_⟩
  clear BK279
  clear BK280
  clear HB
  clear h0_ h1_ h2_ h3_ h4_ h5_ h6_ h7_ h8_ h9_
  have BK279 := n0_
  have BK280 := n1_
  have BK282 := n2_
  have GW282 := n3_
  have GE282 := n4_
  have NB279_282 := n5_
  have NB282_279 := n6_
  have NB280_282 := n7_
  have NB282_280 := n8_
  have HB := n9_
  clear n0_ n1_ n2_ n3_ n4_ n5_ n6_ n7_ n8_ n9_
  have hHeld : w8.cell? ⟨gb279, 0, none⟩ = some (.int .i64 a0_0) ∧ w8.cell? ⟨gb279, 1, none⟩ = some (.int .i64 a0_1) ∧ w8.cell? ⟨gb279, 2, none⟩ = some (.int .i64 a0_2) ∧ w8.cell? ⟨gb279, 3, none⟩ = some (.int .i64 a0_3) ∧ w8.cell? ⟨gb279, 4, none⟩ = some (.int .i64 a0_4) ∧ w8.cell? ⟨gb279, 5, none⟩ = some (.int .i64 a0_5) ∧ w8.cell? ⟨gb279, 6, none⟩ = some (.int .i64 a0_6) := hS_
  refine norm_ (a' := ?_) ?_ ?_
  rotate_left
  · simp only [putAll, Act.put, List.setIfInBounds_toArray, List.set_cons_zero, List.set_cons_succ]
    rfl
  refine one_ (i := 16) (N := none) (bm_ 17 131071) rfl rfl (one_of HT_.out (by kernel_rfl)) (by decide) (fun K hK => ?_)
  have hs9 : w8.cell? ⟨gb282, 0, none⟩ = some (.int .i64 0) := bc_ BK282 0
  have hfs9 := blk_frozen BK282.out 0
  have hns9_0 := NB279_282.out
  have hns9_1 := NB280_282.out
  have hms9_0 := NB282_279.out
  have hms9_1 := NB282_280.out
  have hs10 : w8.cell? ⟨gb282, 1, none⟩ = some (.int .i64 0) := bc_ BK282 1
  have hfs10 := blk_frozen BK282.out 1
  have hns10_0 := NB279_282.out
  have hns10_1 := NB280_282.out
  have hms10_0 := NB282_279.out
  have hms10_1 := NB282_280.out
  have hs11 : w8.cell? ⟨gb282, 2, none⟩ = some (.int .i64 0) := bc_ BK282 2
  have hfs11 := blk_frozen BK282.out 2
  have hns11_0 := NB279_282.out
  have hns11_1 := NB280_282.out
  have hms11_0 := NB282_279.out
  have hms11_1 := NB282_280.out
  have hs12 : w8.cell? ⟨gb282, 3, none⟩ = some (.bool false) := bc_ BK282 3
  have hfs12 := blk_frozen BK282.out 3
  have hns12_0 := NB279_282.out
  have hns12_1 := NB280_282.out
  have hms12_0 := NB282_279.out
  have hms12_1 := NB282_280.out
  have hs13 : w8.cell? ⟨gb282, 4, none⟩ = some (.string (⟨#[]⟩ : ByteArray)) := bc_ BK282 4
  have hfs13 := blk_frozen BK282.out 4
  have hns13_0 := NB279_282.out
  have hns13_1 := NB280_282.out
  have hms13_0 := NB282_279.out
  have hms13_1 := NB282_280.out
  have hs14 : w8.cell? ⟨gb282, 5, none⟩ = some (.int .i64 0) := bc_ BK282 5
  have hfs14 := blk_frozen BK282.out 5
  have hns14_0 := NB279_282.out
  have hns14_1 := NB280_282.out
  have hms14_0 := NB282_279.out
  have hms14_1 := NB282_280.out
  have hs15 : w8.cell? ⟨gb282, 6, none⟩ = some (.int .i64 0) := bc_ BK282 6
  have hfs15 := blk_frozen BK282.out 6
  have hns15_0 := NB279_282.out
  have hns15_1 := NB280_282.out
  have hms15_0 := NB282_279.out
  have hms15_1 := NB282_280.out
  have hs16 : w8.cell? ⟨gb282, 7, none⟩ = some (.int .i64 0) := bc_ BK282 7
  have hfs16 := blk_frozen BK282.out 7
  have hns16_0 := NB279_282.out
  have hns16_1 := NB280_282.out
  have hms16_0 := NB282_279.out
  have hms16_1 := NB282_280.out
  refine skip_ (w1 := ?_) (by rfl) rfl ?_ ?_
  rotate_left
  · go_simp
    rfl
  refine hK.out _ _ ⟨((cell_far (p := ⟨gb282, _, none⟩) NB279_282.out _).trans (((cell_far (p := ⟨gb282, _, none⟩) NB279_282.out _).trans (((cell_far (p := ⟨gb282, _, none⟩) NB279_282.out _).trans (((cell_far (p := ⟨gb282, _, none⟩) NB279_282.out _).trans (((cell_far (p := ⟨gb282, _, none⟩) NB279_282.out _).trans (((cell_far (p := ⟨gb282, _, none⟩) NB279_282.out _).trans (((cell_far (p := ⟨gb282, _, none⟩) NB279_282.out _).trans (((cell_far (p := ⟨gb282, _, none⟩) NB279_282.out _).trans (hHeld.1)))))))))))))))), ((cell_far (p := ⟨gb282, _, none⟩) NB279_282.out _).trans (((cell_far (p := ⟨gb282, _, none⟩) NB279_282.out _).trans (((cell_far (p := ⟨gb282, _, none⟩) NB279_282.out _).trans (((cell_far (p := ⟨gb282, _, none⟩) NB279_282.out _).trans (((cell_far (p := ⟨gb282, _, none⟩) NB279_282.out _).trans (((cell_far (p := ⟨gb282, _, none⟩) NB279_282.out _).trans (((cell_far (p := ⟨gb282, _, none⟩) NB279_282.out _).trans (((cell_far (p := ⟨gb282, _, none⟩) NB279_282.out _).trans (hHeld.2.1)))))))))))))))), ((cell_far (p := ⟨gb282, _, none⟩) NB279_282.out _).trans (((cell_far (p := ⟨gb282, _, none⟩) NB279_282.out _).trans (((cell_far (p := ⟨gb282, _, none⟩) NB279_282.out _).trans (((cell_far (p := ⟨gb282, _, none⟩) NB279_282.out _).trans (((cell_far (p := ⟨gb282, _, none⟩) NB279_282.out _).trans (((cell_far (p := ⟨gb282, _, none⟩) NB279_282.out _).trans (((cell_far (p := ⟨gb282, _, none⟩) NB279_282.out _).trans (((cell_far (p := ⟨gb282, _, none⟩) NB279_282.out _).trans (hHeld.2.2.1)))))))))))))))), ((cell_far (p := ⟨gb282, _, none⟩) NB279_282.out _).trans (((cell_far (p := ⟨gb282, _, none⟩) NB279_282.out _).trans (((cell_far (p := ⟨gb282, _, none⟩) NB279_282.out _).trans (((cell_far (p := ⟨gb282, _, none⟩) NB279_282.out _).trans (((cell_far (p := ⟨gb282, _, none⟩) NB279_282.out _).trans (((cell_far (p := ⟨gb282, _, none⟩) NB279_282.out _).trans (((cell_far (p := ⟨gb282, _, none⟩) NB279_282.out _).trans (((cell_far (p := ⟨gb282, _, none⟩) NB279_282.out _).trans (hHeld.2.2.2.1)))))))))))))))), ((cell_far (p := ⟨gb282, _, none⟩) NB279_282.out _).trans (((cell_far (p := ⟨gb282, _, none⟩) NB279_282.out _).trans (((cell_far (p := ⟨gb282, _, none⟩) NB279_282.out _).trans (((cell_far (p := ⟨gb282, _, none⟩) NB279_282.out _).trans (((cell_far (p := ⟨gb282, _, none⟩) NB279_282.out _).trans (((cell_far (p := ⟨gb282, _, none⟩) NB279_282.out _).trans (((cell_far (p := ⟨gb282, _, none⟩) NB279_282.out _).trans (((cell_far (p := ⟨gb282, _, none⟩) NB279_282.out _).trans (hHeld.2.2.2.2.1)))))))))))))))), ((cell_far (p := ⟨gb282, _, none⟩) NB279_282.out _).trans (((cell_far (p := ⟨gb282, _, none⟩) NB279_282.out _).trans (((cell_far (p := ⟨gb282, _, none⟩) NB279_282.out _).trans (((cell_far (p := ⟨gb282, _, none⟩) NB279_282.out _).trans (((cell_far (p := ⟨gb282, _, none⟩) NB279_282.out _).trans (((cell_far (p := ⟨gb282, _, none⟩) NB279_282.out _).trans (((cell_far (p := ⟨gb282, _, none⟩) NB279_282.out _).trans (((cell_far (p := ⟨gb282, _, none⟩) NB279_282.out _).trans (hHeld.2.2.2.2.2.1)))))))))))))))), ((cell_far (p := ⟨gb282, _, none⟩) NB279_282.out _).trans (((cell_far (p := ⟨gb282, _, none⟩) NB279_282.out _).trans (((cell_far (p := ⟨gb282, _, none⟩) NB279_282.out _).trans (((cell_far (p := ⟨gb282, _, none⟩) NB279_282.out _).trans (((cell_far (p := ⟨gb282, _, none⟩) NB279_282.out _).trans (((cell_far (p := ⟨gb282, _, none⟩) NB279_282.out _).trans (((cell_far (p := ⟨gb282, _, none⟩) NB279_282.out _).trans (((cell_far (p := ⟨gb282, _, none⟩) NB279_282.out _).trans (hHeld.2.2.2.2.2.2))))))))))))))))⟩ (fun hHeld => ?_)
  clear hK K
  refine done_ (done_of HT_.out (by kernel_rfl)) ?_
  have hnb17 := NB282_279.out
  have hnc17 := NB279_282.out
  have hnb18 := NB282_280.out
  have hnc18 := NB280_282.out
  obtain ⟨hcz19_0, hcz19_1, hcz19_2, hcz19_3, hcz19_4, hcz19_5, hcz19_6, hcz19_7, hfz19_0, hfz19_1, hfz19_2, hfz19_3, hfz19_4, hfz19_5, hfz19_6, hfz19_7⟩ := bo8_ BK282
  go_upto_if 21 with (fail)
  go_cut [] (fun wc => ∃ (kq : Nat) (x283001_2 : Int), Aside0 (florinlaw04_Ask_Prec.j0 kq a0_0 a0_1 a0_2 a0_3 a0_4 a0_5 a0_6 (wrap64 (Int.tmod (IntKind.u64.wrap (a0_0)) 3)) x283001_2 0 false (⟨#[]⟩ : ByteArray) 0 t281 (Go.bits .and .i64 a0_4 7) = some (r1, r2, r3, r4, r5, r6, r7, r8)) ∧ Aside0 (kq ≤ k) ∧ Aside0 (wc.heap[gb279]? = some (.cells #[.int .i64 a0_0, .int .i64 a0_1, .int .i64 a0_2, .int .i64 a0_3, .int .i64 a0_4, .int .i64 a0_5, .int .i64 a0_6] 26 (0, 0))) ∧ Aside0 (wc.heap[gb280]? = some (.cells #[.int .i64 0, .int .i64 0, .int .i64 0, .bool false, .string (⟨#[]⟩ : ByteArray), .int .i64 0, .int .i64 0, .int .i64 0] 34 (0, 0))) ∧ Aside0 (wc.heap[gb282]? = some (.cells #[.int .i64 (wrap64 (Int.tmod (IntKind.u64.wrap (a0_0)) 3)), .int .i64 x283001_2, .int .i64 0, .bool false, .string (⟨#[]⟩ : ByteArray), .int .i64 0, .int .i64 t281, .int .i64 (Go.bits .and .i64 a0_4 7)] 34 (0, 0))) ∧ Aside0 (Below w.heap.size w wc))
  case first =>
    have H := HC3.out
    clear HC3
    by_cases c20 : (wrap64 (Int.tmod (IntKind.u64.wrap (a0_0)) 3)) = 1
    · rw [if_pos c20] at H
      have c20b0 : ((wrap64 (Int.tmod (IntKind.u64.wrap (a0_0)) 3)) == 1) = true := beq_iff_eq.mpr c20
      have c20b1 : ((wrap64 (Int.tmod (IntKind.u64.wrap (a0_0)) 3)) != 1) = false := bne_eq_false_iff_eq.mpr c20
      clear c20
      (first | rw [c20b0] | (simp only [i64_w, i32_w]; rw [c20b0]) | skip)
      have H' := Aside0.mk H
      clear H
      have hnb21 := NB282_279.out
      have hnc21 := NB279_282.out
      have hnb22 := NB282_280.out
      have hnc22 := NB280_282.out
      obtain ⟨hcz23_0, hcz23_1, hcz23_2, hcz23_3, hcz23_4, hcz23_5, hcz23_6, hcz23_7, hfz23_0, hfz23_1, hfz23_2, hfz23_3, hfz23_4, hfz23_5, hfz23_6, hfz23_7⟩ := bo8_ BK282
      go_wp2
      go_meet
      case rel => exact ⟨_, (wrap64 ((Go.bits .and .i64 a0_1 7) + 1)), H', ⟨by first | omega | exact Nat.le_refl _⟩, ⟨by (with_reducible repeat (first | refine blk_drewN ?_ _ | refine blk_drew ?_ | refine blk_alloc ?_ _)); refine blk_far ?_ NB279_282.out _; (with_reducible repeat (first | refine blk_drewN ?_ _ | refine blk_drew ?_ | refine blk_alloc ?_ _)); refine blk_far ?_ NB279_282.out _; (with_reducible repeat (first | refine blk_drewN ?_ _ | refine blk_drew ?_ | refine blk_alloc ?_ _)); refine blk_far ?_ NB279_282.out _; (with_reducible repeat (first | refine blk_drewN ?_ _ | refine blk_drew ?_ | refine blk_alloc ?_ _)); refine blk_far ?_ NB279_282.out _; (with_reducible repeat (first | refine blk_drewN ?_ _ | refine blk_drew ?_ | refine blk_alloc ?_ _)); refine blk_far ?_ NB279_282.out _; (with_reducible repeat (first | refine blk_drewN ?_ _ | refine blk_drew ?_ | refine blk_alloc ?_ _)); refine blk_far ?_ NB279_282.out _; (with_reducible repeat (first | refine blk_drewN ?_ _ | refine blk_drew ?_ | refine blk_alloc ?_ _)); refine blk_far ?_ NB279_282.out _; (with_reducible repeat (first | refine blk_drewN ?_ _ | refine blk_drew ?_ | refine blk_alloc ?_ _)); refine blk_far ?_ NB279_282.out _; (with_reducible repeat (first | refine blk_drewN ?_ _ | refine blk_drew ?_ | refine blk_alloc ?_ _)); refine blk_far ?_ NB279_282.out _; (with_reducible repeat (first | refine blk_drewN ?_ _ | refine blk_drew ?_ | refine blk_alloc ?_ _)); exact BK279.out⟩, ⟨by (with_reducible repeat (first | refine blk_drewN ?_ _ | refine blk_drew ?_ | refine blk_alloc ?_ _)); refine blk_far ?_ NB280_282.out _; (with_reducible repeat (first | refine blk_drewN ?_ _ | refine blk_drew ?_ | refine blk_alloc ?_ _)); refine blk_far ?_ NB280_282.out _; (with_reducible repeat (first | refine blk_drewN ?_ _ | refine blk_drew ?_ | refine blk_alloc ?_ _)); refine blk_far ?_ NB280_282.out _; (with_reducible repeat (first | refine blk_drewN ?_ _ | refine blk_drew ?_ | refine blk_alloc ?_ _)); refine blk_far ?_ NB280_282.out _; (with_reducible repeat (first | refine blk_drewN ?_ _ | refine blk_drew ?_ | refine blk_alloc ?_ _)); refine blk_far ?_ NB280_282.out _; (with_reducible repeat (first | refine blk_drewN ?_ _ | refine blk_drew ?_ | refine blk_alloc ?_ _)); refine blk_far ?_ NB280_282.out _; (with_reducible repeat (first | refine blk_drewN ?_ _ | refine blk_drew ?_ | refine blk_alloc ?_ _)); refine blk_far ?_ NB280_282.out _; (with_reducible repeat (first | refine blk_drewN ?_ _ | refine blk_drew ?_ | refine blk_alloc ?_ _)); refine blk_far ?_ NB280_282.out _; (with_reducible repeat (first | refine blk_drewN ?_ _ | refine blk_drew ?_ | refine blk_alloc ?_ _)); refine blk_far ?_ NB280_282.out _; (with_reducible repeat (first | refine blk_drewN ?_ _ | refine blk_drew ?_ | refine blk_alloc ?_ _)); exact BK280.out⟩, ⟨by (with_reducible repeat (first | refine blk_drewN ?_ _ | refine blk_drew ?_ | refine blk_alloc ?_ _)); refine blk_put (cs := #[.int .i64 (wrap64 (Int.tmod (IntKind.u64.wrap (a0_0)) 3)), .int .i64 (Go.bits .and .i64 a0_1 7), .int .i64 0, .bool false, .string (⟨#[]⟩ : ByteArray), .int .i64 0, .int .i64 t281, .int .i64 (Go.bits .and .i64 a0_4 7)]) ?_ 1 _ rfl; (with_reducible repeat (first | refine blk_drewN ?_ _ | refine blk_drew ?_ | refine blk_alloc ?_ _)); refine blk_put (cs := #[.int .i64 (wrap64 (Int.tmod (IntKind.u64.wrap (a0_0)) 3)), .int .i64 (Go.bits .and .i64 a0_1 7), .int .i64 0, .bool false, .string (⟨#[]⟩ : ByteArray), .int .i64 0, .int .i64 t281, .int .i64 0]) ?_ 7 _ rfl; (with_reducible repeat (first | refine blk_drewN ?_ _ | refine blk_drew ?_ | refine blk_alloc ?_ _)); refine blk_put (cs := #[.int .i64 (wrap64 (Int.tmod (IntKind.u64.wrap (a0_0)) 3)), .int .i64 (Go.bits .and .i64 a0_1 7), .int .i64 0, .bool false, .string (⟨#[]⟩ : ByteArray), .int .i64 0, .int .i64 0, .int .i64 0]) ?_ 6 _ rfl; (with_reducible repeat (first | refine blk_drewN ?_ _ | refine blk_drew ?_ | refine blk_alloc ?_ _)); refine blk_put (cs := #[.int .i64 (wrap64 (Int.tmod (IntKind.u64.wrap (a0_0)) 3)), .int .i64 (Go.bits .and .i64 a0_1 7), .int .i64 0, .bool false, .string (⟨#[]⟩ : ByteArray), .int .i64 0, .int .i64 0, .int .i64 0]) ?_ 5 _ rfl; (with_reducible repeat (first | refine blk_drewN ?_ _ | refine blk_drew ?_ | refine blk_alloc ?_ _)); refine blk_put (cs := #[.int .i64 (wrap64 (Int.tmod (IntKind.u64.wrap (a0_0)) 3)), .int .i64 (Go.bits .and .i64 a0_1 7), .int .i64 0, .bool false, .string (⟨#[]⟩ : ByteArray), .int .i64 0, .int .i64 0, .int .i64 0]) ?_ 4 _ rfl; (with_reducible repeat (first | refine blk_drewN ?_ _ | refine blk_drew ?_ | refine blk_alloc ?_ _)); refine blk_put (cs := #[.int .i64 (wrap64 (Int.tmod (IntKind.u64.wrap (a0_0)) 3)), .int .i64 (Go.bits .and .i64 a0_1 7), .int .i64 0, .bool false, .string (⟨#[]⟩ : ByteArray), .int .i64 0, .int .i64 0, .int .i64 0]) ?_ 3 _ rfl; (with_reducible repeat (first | refine blk_drewN ?_ _ | refine blk_drew ?_ | refine blk_alloc ?_ _)); refine blk_put (cs := #[.int .i64 (wrap64 (Int.tmod (IntKind.u64.wrap (a0_0)) 3)), .int .i64 (Go.bits .and .i64 a0_1 7), .int .i64 0, .bool false, .string (⟨#[]⟩ : ByteArray), .int .i64 0, .int .i64 0, .int .i64 0]) ?_ 2 _ rfl; (with_reducible repeat (first | refine blk_drewN ?_ _ | refine blk_drew ?_ | refine blk_alloc ?_ _)); refine blk_put (cs := #[.int .i64 (wrap64 (Int.tmod (IntKind.u64.wrap (a0_0)) 3)), .int .i64 0, .int .i64 0, .bool false, .string (⟨#[]⟩ : ByteArray), .int .i64 0, .int .i64 0, .int .i64 0]) ?_ 1 _ rfl; (with_reducible repeat (first | refine blk_drewN ?_ _ | refine blk_drew ?_ | refine blk_alloc ?_ _)); refine blk_put (cs := #[.int .i64 0, .int .i64 0, .int .i64 0, .bool false, .string (⟨#[]⟩ : ByteArray), .int .i64 0, .int .i64 0, .int .i64 0]) ?_ 0 _ rfl; (with_reducible repeat (first | refine blk_drewN ?_ _ | refine blk_drew ?_ | refine blk_alloc ?_ _)); exact BK282.out⟩, (bl_ HB)⟩
    · rw [if_neg c20] at H
      have c20b0 : ((wrap64 (Int.tmod (IntKind.u64.wrap (a0_0)) 3)) == 1) = false := beq_eq_false_iff_ne.mpr c20
      have c20b1 : ((wrap64 (Int.tmod (IntKind.u64.wrap (a0_0)) 3)) != 1) = true := bne_iff_ne.mpr c20
      (first | rw [c20b0] | (simp only [i64_w, i32_w]; rw [c20b0]) | skip)
      have H' := Aside0.mk H
      clear H
      go_wp2
      go_meet
      case rel => exact ⟨_, (Go.bits .and .i64 a0_1 7), H', ⟨by first | omega | exact Nat.le_refl _⟩, ⟨by (with_reducible repeat (first | refine blk_drewN ?_ _ | refine blk_drew ?_ | refine blk_alloc ?_ _)); refine blk_far ?_ NB279_282.out _; (with_reducible repeat (first | refine blk_drewN ?_ _ | refine blk_drew ?_ | refine blk_alloc ?_ _)); refine blk_far ?_ NB279_282.out _; (with_reducible repeat (first | refine blk_drewN ?_ _ | refine blk_drew ?_ | refine blk_alloc ?_ _)); refine blk_far ?_ NB279_282.out _; (with_reducible repeat (first | refine blk_drewN ?_ _ | refine blk_drew ?_ | refine blk_alloc ?_ _)); refine blk_far ?_ NB279_282.out _; (with_reducible repeat (first | refine blk_drewN ?_ _ | refine blk_drew ?_ | refine blk_alloc ?_ _)); refine blk_far ?_ NB279_282.out _; (with_reducible repeat (first | refine blk_drewN ?_ _ | refine blk_drew ?_ | refine blk_alloc ?_ _)); refine blk_far ?_ NB279_282.out _; (with_reducible repeat (first | refine blk_drewN ?_ _ | refine blk_drew ?_ | refine blk_alloc ?_ _)); refine blk_far ?_ NB279_282.out _; (with_reducible repeat (first | refine blk_drewN ?_ _ | refine blk_drew ?_ | refine blk_alloc ?_ _)); refine blk_far ?_ NB279_282.out _; (with_reducible repeat (first | refine blk_drewN ?_ _ | refine blk_drew ?_ | refine blk_alloc ?_ _)); exact BK279.out⟩, ⟨by (with_reducible repeat (first | refine blk_drewN ?_ _ | refine blk_drew ?_ | refine blk_alloc ?_ _)); refine blk_far ?_ NB280_282.out _; (with_reducible repeat (first | refine blk_drewN ?_ _ | refine blk_drew ?_ | refine blk_alloc ?_ _)); refine blk_far ?_ NB280_282.out _; (with_reducible repeat (first | refine blk_drewN ?_ _ | refine blk_drew ?_ | refine blk_alloc ?_ _)); refine blk_far ?_ NB280_282.out _; (with_reducible repeat (first | refine blk_drewN ?_ _ | refine blk_drew ?_ | refine blk_alloc ?_ _)); refine blk_far ?_ NB280_282.out _; (with_reducible repeat (first | refine blk_drewN ?_ _ | refine blk_drew ?_ | refine blk_alloc ?_ _)); refine blk_far ?_ NB280_282.out _; (with_reducible repeat (first | refine blk_drewN ?_ _ | refine blk_drew ?_ | refine blk_alloc ?_ _)); refine blk_far ?_ NB280_282.out _; (with_reducible repeat (first | refine blk_drewN ?_ _ | refine blk_drew ?_ | refine blk_alloc ?_ _)); refine blk_far ?_ NB280_282.out _; (with_reducible repeat (first | refine blk_drewN ?_ _ | refine blk_drew ?_ | refine blk_alloc ?_ _)); refine blk_far ?_ NB280_282.out _; (with_reducible repeat (first | refine blk_drewN ?_ _ | refine blk_drew ?_ | refine blk_alloc ?_ _)); exact BK280.out⟩, ⟨by (with_reducible repeat (first | refine blk_drewN ?_ _ | refine blk_drew ?_ | refine blk_alloc ?_ _)); refine blk_put (cs := #[.int .i64 (wrap64 (Int.tmod (IntKind.u64.wrap (a0_0)) 3)), .int .i64 (Go.bits .and .i64 a0_1 7), .int .i64 0, .bool false, .string (⟨#[]⟩ : ByteArray), .int .i64 0, .int .i64 t281, .int .i64 0]) ?_ 7 _ rfl; (with_reducible repeat (first | refine blk_drewN ?_ _ | refine blk_drew ?_ | refine blk_alloc ?_ _)); refine blk_put (cs := #[.int .i64 (wrap64 (Int.tmod (IntKind.u64.wrap (a0_0)) 3)), .int .i64 (Go.bits .and .i64 a0_1 7), .int .i64 0, .bool false, .string (⟨#[]⟩ : ByteArray), .int .i64 0, .int .i64 0, .int .i64 0]) ?_ 6 _ rfl; (with_reducible repeat (first | refine blk_drewN ?_ _ | refine blk_drew ?_ | refine blk_alloc ?_ _)); refine blk_put (cs := #[.int .i64 (wrap64 (Int.tmod (IntKind.u64.wrap (a0_0)) 3)), .int .i64 (Go.bits .and .i64 a0_1 7), .int .i64 0, .bool false, .string (⟨#[]⟩ : ByteArray), .int .i64 0, .int .i64 0, .int .i64 0]) ?_ 5 _ rfl; (with_reducible repeat (first | refine blk_drewN ?_ _ | refine blk_drew ?_ | refine blk_alloc ?_ _)); refine blk_put (cs := #[.int .i64 (wrap64 (Int.tmod (IntKind.u64.wrap (a0_0)) 3)), .int .i64 (Go.bits .and .i64 a0_1 7), .int .i64 0, .bool false, .string (⟨#[]⟩ : ByteArray), .int .i64 0, .int .i64 0, .int .i64 0]) ?_ 4 _ rfl; (with_reducible repeat (first | refine blk_drewN ?_ _ | refine blk_drew ?_ | refine blk_alloc ?_ _)); refine blk_put (cs := #[.int .i64 (wrap64 (Int.tmod (IntKind.u64.wrap (a0_0)) 3)), .int .i64 (Go.bits .and .i64 a0_1 7), .int .i64 0, .bool false, .string (⟨#[]⟩ : ByteArray), .int .i64 0, .int .i64 0, .int .i64 0]) ?_ 3 _ rfl; (with_reducible repeat (first | refine blk_drewN ?_ _ | refine blk_drew ?_ | refine blk_alloc ?_ _)); refine blk_put (cs := #[.int .i64 (wrap64 (Int.tmod (IntKind.u64.wrap (a0_0)) 3)), .int .i64 (Go.bits .and .i64 a0_1 7), .int .i64 0, .bool false, .string (⟨#[]⟩ : ByteArray), .int .i64 0, .int .i64 0, .int .i64 0]) ?_ 2 _ rfl; (with_reducible repeat (first | refine blk_drewN ?_ _ | refine blk_drew ?_ | refine blk_alloc ?_ _)); refine blk_put (cs := #[.int .i64 (wrap64 (Int.tmod (IntKind.u64.wrap (a0_0)) 3)), .int .i64 0, .int .i64 0, .bool false, .string (⟨#[]⟩ : ByteArray), .int .i64 0, .int .i64 0, .int .i64 0]) ?_ 1 _ rfl; (with_reducible repeat (first | refine blk_drewN ?_ _ | refine blk_drew ?_ | refine blk_alloc ?_ _)); refine blk_put (cs := #[.int .i64 0, .int .i64 0, .int .i64 0, .bool false, .string (⟨#[]⟩ : ByteArray), .int .i64 0, .int .i64 0, .int .i64 0]) ?_ 0 _ rfl; (with_reducible repeat (first | refine blk_drewN ?_ _ | refine blk_drew ?_ | refine blk_alloc ?_ _)); exact BK282.out⟩, (bl_ HB)⟩
  case rest =>
    clear HC3
    try clear c1
    try clear c2
    try clear p2
    try clear c6
    try clear p6
    try clear c17
    try clear c18
    try clear c20
    try clear c20b0
    try clear c20b1
    try clear c21
    try clear c22
    try clear hcz19_0
    try clear hcz19_1
    try clear hcz19_2
    try clear hcz19_3
    try clear hcz19_4
    try clear hcz19_5
    try clear hcz19_6
    try clear hcz19_7
    try clear hcz23_0
    try clear hcz23_1
    try clear hcz23_2
    try clear hcz23_3
    try clear hcz23_4
    try clear hcz23_5
    try clear hcz23_6
    try clear hcz23_7
    try clear hfz19_0
    try clear hfz19_1
    try clear hfz19_2
    try clear hfz19_3
    try clear hfz19_4
    try clear hfz19_5
    try clear hfz19_6
    try clear hfz19_7
    try clear hfz23_0
    try clear hfz23_1
    try clear hfz23_2
    try clear hfz23_3
    try clear hfz23_4
    try clear hfz23_5
    try clear hfz23_6
    try clear hfz23_7
    obtain ⟨kq, x283001_2, HA, HJ2, BK279, BK280, BK282, HB⟩ := hcut
    cases kq with
    | zero => exact absurd HA.out (by simp [florinlaw04_Ask_Prec.j0])
    | succ kj2 =>
      have H := HA.out
      clear HA
      simp only [florinlaw04_Ask_Prec.j0] at H
      by_cases c24 : (wrap64 (Int.tmod (IntKind.u64.wrap (a0_0)) 3)) = 2
      · rw [if_pos c24] at H
        have c24b0 : ((wrap64 (Int.tmod (IntKind.u64.wrap (a0_0)) 3)) == 2) = true := beq_iff_eq.mpr c24
        have c24b1 : ((wrap64 (Int.tmod (IntKind.u64.wrap (a0_0)) 3)) != 2) = false := bne_eq_false_iff_eq.mpr c24
        clear c24
        replace H := Option.bind_eq_some_iff.mp H
        obtain ⟨t283, A250, H⟩ := H
        replace H : ((dec_Made.f kj2 false t283 (wrap64 ((Int.tmod a0_6 4) - 3))).bind fun bt284 => (some ((wrap64 (Int.tmod (IntKind.u64.wrap (a0_0)) 3)), x283001_2, wrap64 (x283001_2 + (Go.bits .and .i64 a0_2 7)), bt284.1, bt284.2.1, bt284.2.2, t281, (Go.bits .and .i64 a0_4 7)))) = some (r1, r2, r3, r4, r5, r6, r7, r8) := H
        have A25 := Aside0.mk A250
        clear A250
        replace H := Option.bind_eq_some_iff.mp H
        obtain ⟨⟨t284, t285, t286⟩, A260, H⟩ := H
        replace H : (some ((wrap64 (Int.tmod (IntKind.u64.wrap (a0_0)) 3)), x283001_2, wrap64 (x283001_2 + (Go.bits .and .i64 a0_2 7)), t284, t285, t286, t281, (Go.bits .and .i64 a0_4 7))) = some (r1, r2, r3, r4, r5, r6, r7, r8) := H
        have A26 := Aside0.mk A260
        clear A260
        simp only [Option.some.injEq, Prod.mk.injEq] at H
        obtain ⟨rfl, rfl, rfl, rfl, rfl, rfl, rfl, rfl⟩ := H
        have hnb27 := NB282_279.out
        have hnc27 := NB279_282.out
        have hnb28 := NB282_280.out
        have hnc28 := NB280_282.out
        obtain ⟨hcz29_0, hcz29_1, hcz29_2, hcz29_3, hcz29_4, hcz29_5, hcz29_6, hcz29_7, hfz29_0, hfz29_1, hfz29_2, hfz29_3, hfz29_4, hfz29_5, hfz29_6, hfz29_7⟩ := bo8_ BK282
        have hnb30 := NB279_280.out
        have hnc30 := NB280_279.out
        obtain ⟨hcz31_0, hcz31_1, hcz31_2, hcz31_3, hcz31_4, hcz31_5, hcz31_6, hfz31_0, hfz31_1, hfz31_2, hfz31_3, hfz31_4, hfz31_5, hfz31_6⟩ := bo7_ BK279
        try go_wp2
        have n0_ : Aside0 ((wc.setCell ⟨gb282, 2, none⟩ (.int .i64 (wrap64 (x283001_2 + (Go.bits .and .i64 a0_2 7))))).heap[gb279]? = _) := bf_ BK279
        have n1_ : Aside0 ((wc.setCell ⟨gb282, 2, none⟩ (.int .i64 (wrap64 (x283001_2 + (Go.bits .and .i64 a0_2 7))))).heap[gb280]? = _) := bf_ BK280
        have n2_ : Aside0 ((wc.setCell ⟨gb282, 2, none⟩ (.int .i64 (wrap64 (x283001_2 + (Go.bits .and .i64 a0_2 7))))).heap[gb282]? = some (.cells #[.int .i64 (wrap64 (Int.tmod (IntKind.u64.wrap (a0_0)) 3)), .int .i64 x283001_2, .int .i64 (wrap64 (x283001_2 + (Go.bits .and .i64 a0_2 7))), .bool false, .string (⟨#[]⟩ : ByteArray), .int .i64 0, .int .i64 t281, .int .i64 (Go.bits .and .i64 a0_4 7)] 34 (0, 0))) := ⟨by (with_reducible repeat (first | refine blk_drewN ?_ _ | refine blk_drew ?_ | refine blk_alloc ?_ _)); refine blk_put (cs := #[.int .i64 (wrap64 (Int.tmod (IntKind.u64.wrap (a0_0)) 3)), .int .i64 x283001_2, .int .i64 0, .bool false, .string (⟨#[]⟩ : ByteArray), .int .i64 0, .int .i64 t281, .int .i64 (Go.bits .and .i64 a0_4 7)]) ?_ 2 _ rfl; (with_reducible repeat (first | refine blk_drewN ?_ _ | refine blk_drew ?_ | refine blk_alloc ?_ _)); exact BK282.out⟩
        have n3_ : Aside0 (Below w.heap.size w (wc.setCell ⟨gb282, 2, none⟩ (.int .i64 (wrap64 (x283001_2 + (Go.bits .and .i64 a0_2 7)))))) := (bl_ HB)
        (try clear BK279)
        (try clear BK280)
        (try clear BK282)
        (try clear HB)
        generalize (wc.setCell ⟨gb282, 2, none⟩ (.int .i64 (wrap64 (x283001_2 + (Go.bits .and .i64 a0_2 7))))) = w32 at n0_ n1_ n2_ n3_ ⊢
        have BK279 := n0_
        have BK280 := n1_
        have BK282 := n2_
        have HB := n3_
        clear n0_ n1_ n2_ n3_
        replace BK279 := Aside0.mk (blk_drew BK279.out)
        replace BK280 := Aside0.mk (blk_drew BK280.out)
        replace BK282 := Aside0.mk (blk_drew BK282.out)
        replace HB := Aside0.mk (below_drew1 HB.out)
        refine start_ (n := 12) (S := fun w' => w'.cell? ⟨gb279, 0, none⟩ = some (.int .i64 a0_0) ∧ w'.cell? ⟨gb279, 1, none⟩ = some (.int .i64 a0_1) ∧ w'.cell? ⟨gb279, 2, none⟩ = some (.int .i64 a0_2) ∧ w'.cell? ⟨gb279, 3, none⟩ = some (.int .i64 a0_3) ∧ w'.cell? ⟨gb279, 4, none⟩ = some (.int .i64 a0_4) ∧ w'.cell? ⟨gb279, 5, none⟩ = some (.int .i64 a0_5) ∧ w'.cell? ⟨gb279, 6, none⟩ = some (.int .i64 a0_6)) (ds := []) #[false, false, false, false, false, false, false, false, false, false, false, false] (by kernel_rfl) rfl rfl ⟨bc_ BK279 0, bc_ BK279 1, bc_ BK279 2, bc_ BK279 3, bc_ BK279 4, bc_ BK279 5, bc_ BK279 6⟩ (fun hHeld => ?_); refine with_tabW florinlaw04_Ask_Prec.tab6 florinlaw04_Ask_Prec.bits6 (fun HT_ HW_ => ?_)
        generalize w32.drew = w33 at BK279 BK280 BK282 HB hHeld ⊢
        refine pu_ 0 36 (bm_ 12 1) HT_ ?_
        refine pu_ 5 41 (bm_ 12 33) HT_ ?_
        refine tk_ 1 37 (bm_ 12 35) HT_ HW_ hHeld rfl (by rintro w' ⟨s0, s1, s2, s3, s4, s5, s6⟩; go_simp; with_reducible rfl) ?_
        refine pu_ 2 38 (bm_ 12 39) HT_ ?_
        refine pu_ 3 39 (bm_ 12 47) HT_ ?_
        refine tk_ 6 42 (bm_ 12 111) HT_ HW_ hHeld rfl (by rintro w' ⟨s0, s1, s2, s3, s4, s5, s6⟩; go_simp; with_reducible rfl) ?_
        refine pu_ 7 43 (bm_ 12 239) HT_ ?_
        refine pu_ 8 44 (bm_ 12 495) HT_ ?_
        refine one_ (i := 4) (N := some 40) (bm_ 12 511) rfl rfl (one_of HT_.out (by kernel_rfl)) (by decide) (fun K hK => ?_)
        refine gs_ Tryz.func19 #[.int .i64 (wrap64 (1 + (Go.bits .and .i64 a0_5 65535)))] ?_
        with_reducible refine (num_Of.calls kj2 (wrap64 (1 + (Go.bits .and .i64 a0_5 65535))) t283 _ A25.out).mono ?_
        rintro e w34 ⟨rfl, hb⟩
        refine ⟨_, rfl, ?_⟩
        replace BK279 := bb_ BK279 hb
        replace BK280 := bb_ BK280 hb
        replace BK282 := bb_ BK282 hb
        replace HB := Aside0.mk (below_step (bl_ HB).out hb)
        (try clear hb)
        (try clear hb2)
        (try clear hk)
        (try clear hi)
        refine hK.out _ _ ⟨bc_ BK279 0, bc_ BK279 1, bc_ BK279 2, bc_ BK279 3, bc_ BK279 4, bc_ BK279 5, bc_ BK279 6⟩ (fun hHeld => ?_)
        clear hK K
        refine nm_ 40 ?_
        refine one_ (i := 9) (N := some 45) (bm_ 12 1023) rfl rfl (one_of HT_.out (by kernel_rfl)) (by decide) (fun K hK => ?_)
        refine gs_ Tryz.func16 #[.bool false, .string t283, .int .i64 (wrap64 ((Int.tmod a0_6 4) - 3))] ?_
        with_reducible refine (dec_Made.calls kj2 false t283 (wrap64 ((Int.tmod a0_6 4) - 3)) t284 t285 t286 _ A26.out).mono ?_
        rintro e w35 ⟨rfl, hb⟩
        refine ⟨_, rfl, ?_⟩
        replace BK279 := bb_ BK279 hb
        replace BK280 := bb_ BK280 hb
        replace BK282 := bb_ BK282 hb
        replace HB := Aside0.mk (below_step (bl_ HB).out hb)
        (try clear hb)
        (try clear hb2)
        (try clear hk)
        (try clear hi)
        refine hK.out _ _ ⟨bc_ BK279 0, bc_ BK279 1, bc_ BK279 2, bc_ BK279 3, bc_ BK279 4, bc_ BK279 5, bc_ BK279 6⟩ (fun hHeld => ?_)
        clear hK K
        refine nm_ 45 ?_
        refine pu_ 10 46 (bm_ 12 2047) HT_ ?_
        refine one_ (i := 11) (N := none) (bm_ 12 4095) rfl rfl (one_of HT_.out (by kernel_rfl)) (by decide) (fun K hK => ?_)
        have hs36 : w35.cell? ⟨gb282, 3, none⟩ = some (.bool false) := bc_ BK282 3
        have hfs36 := blk_frozen BK282.out 3
        have hns36_0 := NB279_282.out
        have hns36_1 := NB280_282.out
        have hms36_0 := NB282_279.out
        have hms36_1 := NB282_280.out
        have hs37 : w35.cell? ⟨gb282, 4, none⟩ = some (.string (⟨#[]⟩ : ByteArray)) := bc_ BK282 4
        have hfs37 := blk_frozen BK282.out 4
        have hns37_0 := NB279_282.out
        have hns37_1 := NB280_282.out
        have hms37_0 := NB282_279.out
        have hms37_1 := NB282_280.out
        have hs38 : w35.cell? ⟨gb282, 5, none⟩ = some (.int .i64 0) := bc_ BK282 5
        have hfs38 := blk_frozen BK282.out 5
        have hns38_0 := NB279_282.out
        have hns38_1 := NB280_282.out
        have hms38_0 := NB282_279.out
        have hms38_1 := NB282_280.out
        refine skip_ (w1 := ?_) (by rfl) rfl ?_ ?_
        rotate_left
        · go_simp
          rfl
        refine hK.out _ _ ⟨((cell_far (p := ⟨gb282, _, none⟩) NB279_282.out _).trans (((cell_far (p := ⟨gb282, _, none⟩) NB279_282.out _).trans (((cell_far (p := ⟨gb282, _, none⟩) NB279_282.out _).trans (hHeld.1)))))), ((cell_far (p := ⟨gb282, _, none⟩) NB279_282.out _).trans (((cell_far (p := ⟨gb282, _, none⟩) NB279_282.out _).trans (((cell_far (p := ⟨gb282, _, none⟩) NB279_282.out _).trans (hHeld.2.1)))))), ((cell_far (p := ⟨gb282, _, none⟩) NB279_282.out _).trans (((cell_far (p := ⟨gb282, _, none⟩) NB279_282.out _).trans (((cell_far (p := ⟨gb282, _, none⟩) NB279_282.out _).trans (hHeld.2.2.1)))))), ((cell_far (p := ⟨gb282, _, none⟩) NB279_282.out _).trans (((cell_far (p := ⟨gb282, _, none⟩) NB279_282.out _).trans (((cell_far (p := ⟨gb282, _, none⟩) NB279_282.out _).trans (hHeld.2.2.2.1)))))), ((cell_far (p := ⟨gb282, _, none⟩) NB279_282.out _).trans (((cell_far (p := ⟨gb282, _, none⟩) NB279_282.out _).trans (((cell_far (p := ⟨gb282, _, none⟩) NB279_282.out _).trans (hHeld.2.2.2.2.1)))))), ((cell_far (p := ⟨gb282, _, none⟩) NB279_282.out _).trans (((cell_far (p := ⟨gb282, _, none⟩) NB279_282.out _).trans (((cell_far (p := ⟨gb282, _, none⟩) NB279_282.out _).trans (hHeld.2.2.2.2.2.1)))))), ((cell_far (p := ⟨gb282, _, none⟩) NB279_282.out _).trans (((cell_far (p := ⟨gb282, _, none⟩) NB279_282.out _).trans (((cell_far (p := ⟨gb282, _, none⟩) NB279_282.out _).trans (hHeld.2.2.2.2.2.2))))))⟩ (fun hHeld => ?_)
        clear hK K
        refine done_ (done_of HT_.out (by kernel_rfl)) ?_
        obtain ⟨hcz39_0, hcz39_1, hcz39_2, hcz39_3, hcz39_4, hcz39_5, hcz39_6, hcz39_7, hfz39_0, hfz39_1, hfz39_2, hfz39_3, hfz39_4, hfz39_5, hfz39_6, hfz39_7⟩ := bo8_ BK282
        obtain ⟨hcz40_0, hcz40_1, hcz40_2, hcz40_3, hcz40_4, hcz40_5, hcz40_6, hcz40_7, hfz40_0, hfz40_1, hfz40_2, hfz40_3, hfz40_4, hfz40_5, hfz40_6, hfz40_7⟩ := bo8_ BK280
        try go_wp2
        refine bodyPost_ret (results_cell_row rfl _ _ gb280 34 #[.int .i64 (wrap64 (Int.tmod (IntKind.u64.wrap (a0_0)) 3)), .int .i64 x283001_2, .int .i64 (wrap64 (x283001_2 + (Go.bits .and .i64 a0_2 7))), .bool t284, .string t285, .int .i64 t286, .int .i64 t281, .int .i64 (Go.bits .and .i64 a0_4 7)] (0, 0) _ rfl (by (with_reducible repeat (first | refine blk_drewN ?_ _ | refine blk_drew ?_ | refine blk_alloc ?_ _)); refine blk_put (cs := #[.int .i64 (wrap64 (Int.tmod (IntKind.u64.wrap (a0_0)) 3)), .int .i64 x283001_2, .int .i64 (wrap64 (x283001_2 + (Go.bits .and .i64 a0_2 7))), .bool t284, .string t285, .int .i64 t286, .int .i64 t281, .int .i64 0]) ?_ 7 _ rfl; (with_reducible repeat (first | refine blk_drewN ?_ _ | refine blk_drew ?_ | refine blk_alloc ?_ _)); refine blk_put (cs := #[.int .i64 (wrap64 (Int.tmod (IntKind.u64.wrap (a0_0)) 3)), .int .i64 x283001_2, .int .i64 (wrap64 (x283001_2 + (Go.bits .and .i64 a0_2 7))), .bool t284, .string t285, .int .i64 t286, .int .i64 0, .int .i64 0]) ?_ 6 _ rfl; (with_reducible repeat (first | refine blk_drewN ?_ _ | refine blk_drew ?_ | refine blk_alloc ?_ _)); refine blk_put (cs := #[.int .i64 (wrap64 (Int.tmod (IntKind.u64.wrap (a0_0)) 3)), .int .i64 x283001_2, .int .i64 (wrap64 (x283001_2 + (Go.bits .and .i64 a0_2 7))), .bool t284, .string t285, .int .i64 0, .int .i64 0, .int .i64 0]) ?_ 5 _ rfl; (with_reducible repeat (first | refine blk_drewN ?_ _ | refine blk_drew ?_ | refine blk_alloc ?_ _)); refine blk_put (cs := #[.int .i64 (wrap64 (Int.tmod (IntKind.u64.wrap (a0_0)) 3)), .int .i64 x283001_2, .int .i64 (wrap64 (x283001_2 + (Go.bits .and .i64 a0_2 7))), .bool t284, .string (⟨#[]⟩ : ByteArray), .int .i64 0, .int .i64 0, .int .i64 0]) ?_ 4 _ rfl; (with_reducible repeat (first | refine blk_drewN ?_ _ | refine blk_drew ?_ | refine blk_alloc ?_ _)); refine blk_put (cs := #[.int .i64 (wrap64 (Int.tmod (IntKind.u64.wrap (a0_0)) 3)), .int .i64 x283001_2, .int .i64 (wrap64 (x283001_2 + (Go.bits .and .i64 a0_2 7))), .bool false, .string (⟨#[]⟩ : ByteArray), .int .i64 0, .int .i64 0, .int .i64 0]) ?_ 3 _ rfl; (with_reducible repeat (first | refine blk_drewN ?_ _ | refine blk_drew ?_ | refine blk_alloc ?_ _)); refine blk_put (cs := #[.int .i64 (wrap64 (Int.tmod (IntKind.u64.wrap (a0_0)) 3)), .int .i64 x283001_2, .int .i64 0, .bool false, .string (⟨#[]⟩ : ByteArray), .int .i64 0, .int .i64 0, .int .i64 0]) ?_ 2 _ rfl; (with_reducible repeat (first | refine blk_drewN ?_ _ | refine blk_drew ?_ | refine blk_alloc ?_ _)); refine blk_put (cs := #[.int .i64 (wrap64 (Int.tmod (IntKind.u64.wrap (a0_0)) 3)), .int .i64 0, .int .i64 0, .bool false, .string (⟨#[]⟩ : ByteArray), .int .i64 0, .int .i64 0, .int .i64 0]) ?_ 1 _ rfl; (with_reducible repeat (first | refine blk_drewN ?_ _ | refine blk_drew ?_ | refine blk_alloc ?_ _)); refine blk_put (cs := #[.int .i64 0, .int .i64 0, .int .i64 0, .bool false, .string (⟨#[]⟩ : ByteArray), .int .i64 0, .int .i64 0, .int .i64 0]) ?_ 0 _ rfl; (with_reducible repeat (first | refine blk_drewN ?_ _ | refine blk_drew ?_ | refine blk_alloc ?_ _)); refine blk_far ?_ NB280_282.out _; (with_reducible repeat (first | refine blk_drewN ?_ _ | refine blk_drew ?_ | refine blk_alloc ?_ _)); refine blk_far ?_ NB280_282.out _; (with_reducible repeat (first | refine blk_drewN ?_ _ | refine blk_drew ?_ | refine blk_alloc ?_ _)); refine blk_far ?_ NB280_282.out _; (with_reducible repeat (first | refine blk_drewN ?_ _ | refine blk_drew ?_ | refine blk_alloc ?_ _)); exact BK280.out) Tryz.underlying34 rfl (by kernel_rfl)) rfl ?_
        exact ⟨ew_, (bl_ HB).out⟩
      · rw [if_neg c24] at H
        have c24b0 : ((wrap64 (Int.tmod (IntKind.u64.wrap (a0_0)) 3)) == 2) = false := beq_eq_false_iff_ne.mpr c24
        have c24b1 : ((wrap64 (Int.tmod (IntKind.u64.wrap (a0_0)) 3)) != 2) = true := bne_iff_ne.mpr c24
        simp only [Option.some.injEq, Prod.mk.injEq] at H
        obtain ⟨rfl, rfl, rfl, rfl, rfl, rfl, rfl, rfl⟩ := H
        have hnb41 := NB282_279.out
        have hnc41 := NB279_282.out
        have hnb42 := NB282_280.out
        have hnc42 := NB280_282.out
        obtain ⟨hcz43_0, hcz43_1, hcz43_2, hcz43_3, hcz43_4, hcz43_5, hcz43_6, hcz43_7, hfz43_0, hfz43_1, hfz43_2, hfz43_3, hfz43_4, hfz43_5, hfz43_6, hfz43_7⟩ := bo8_ BK282
        have hnb44 := NB279_280.out
        have hnc44 := NB280_279.out
        obtain ⟨hcz45_0, hcz45_1, hcz45_2, hcz45_3, hcz45_4, hcz45_5, hcz45_6, hfz45_0, hfz45_1, hfz45_2, hfz45_3, hfz45_4, hfz45_5, hfz45_6⟩ := bo7_ BK279
        obtain ⟨hcz46_0, hcz46_1, hcz46_2, hcz46_3, hcz46_4, hcz46_5, hcz46_6, hcz46_7, hfz46_0, hfz46_1, hfz46_2, hfz46_3, hfz46_4, hfz46_5, hfz46_6, hfz46_7⟩ := bo8_ BK280
        go_wp2
        refine bodyPost_ret (results_cell_row rfl _ _ gb280 34 #[.int .i64 (wrap64 (Int.tmod (IntKind.u64.wrap (a0_0)) 3)), .int .i64 x283001_2, .int .i64 (wrap64 (x283001_2 + (Go.bits .and .i64 a0_2 7))), .bool false, .string (⟨#[]⟩ : ByteArray), .int .i64 0, .int .i64 t281, .int .i64 (Go.bits .and .i64 a0_4 7)] (0, 0) _ rfl (by (with_reducible repeat (first | refine blk_drewN ?_ _ | refine blk_drew ?_ | refine blk_alloc ?_ _)); refine blk_put (cs := #[.int .i64 (wrap64 (Int.tmod (IntKind.u64.wrap (a0_0)) 3)), .int .i64 x283001_2, .int .i64 (wrap64 (x283001_2 + (Go.bits .and .i64 a0_2 7))), .bool false, .string (⟨#[]⟩ : ByteArray), .int .i64 0, .int .i64 t281, .int .i64 0]) ?_ 7 _ rfl; (with_reducible repeat (first | refine blk_drewN ?_ _ | refine blk_drew ?_ | refine blk_alloc ?_ _)); refine blk_put (cs := #[.int .i64 (wrap64 (Int.tmod (IntKind.u64.wrap (a0_0)) 3)), .int .i64 x283001_2, .int .i64 (wrap64 (x283001_2 + (Go.bits .and .i64 a0_2 7))), .bool false, .string (⟨#[]⟩ : ByteArray), .int .i64 0, .int .i64 0, .int .i64 0]) ?_ 6 _ rfl; (with_reducible repeat (first | refine blk_drewN ?_ _ | refine blk_drew ?_ | refine blk_alloc ?_ _)); refine blk_put (cs := #[.int .i64 (wrap64 (Int.tmod (IntKind.u64.wrap (a0_0)) 3)), .int .i64 x283001_2, .int .i64 (wrap64 (x283001_2 + (Go.bits .and .i64 a0_2 7))), .bool false, .string (⟨#[]⟩ : ByteArray), .int .i64 0, .int .i64 0, .int .i64 0]) ?_ 5 _ rfl; (with_reducible repeat (first | refine blk_drewN ?_ _ | refine blk_drew ?_ | refine blk_alloc ?_ _)); refine blk_put (cs := #[.int .i64 (wrap64 (Int.tmod (IntKind.u64.wrap (a0_0)) 3)), .int .i64 x283001_2, .int .i64 (wrap64 (x283001_2 + (Go.bits .and .i64 a0_2 7))), .bool false, .string (⟨#[]⟩ : ByteArray), .int .i64 0, .int .i64 0, .int .i64 0]) ?_ 4 _ rfl; (with_reducible repeat (first | refine blk_drewN ?_ _ | refine blk_drew ?_ | refine blk_alloc ?_ _)); refine blk_put (cs := #[.int .i64 (wrap64 (Int.tmod (IntKind.u64.wrap (a0_0)) 3)), .int .i64 x283001_2, .int .i64 (wrap64 (x283001_2 + (Go.bits .and .i64 a0_2 7))), .bool false, .string (⟨#[]⟩ : ByteArray), .int .i64 0, .int .i64 0, .int .i64 0]) ?_ 3 _ rfl; (with_reducible repeat (first | refine blk_drewN ?_ _ | refine blk_drew ?_ | refine blk_alloc ?_ _)); refine blk_put (cs := #[.int .i64 (wrap64 (Int.tmod (IntKind.u64.wrap (a0_0)) 3)), .int .i64 x283001_2, .int .i64 0, .bool false, .string (⟨#[]⟩ : ByteArray), .int .i64 0, .int .i64 0, .int .i64 0]) ?_ 2 _ rfl; (with_reducible repeat (first | refine blk_drewN ?_ _ | refine blk_drew ?_ | refine blk_alloc ?_ _)); refine blk_put (cs := #[.int .i64 (wrap64 (Int.tmod (IntKind.u64.wrap (a0_0)) 3)), .int .i64 0, .int .i64 0, .bool false, .string (⟨#[]⟩ : ByteArray), .int .i64 0, .int .i64 0, .int .i64 0]) ?_ 1 _ rfl; (with_reducible repeat (first | refine blk_drewN ?_ _ | refine blk_drew ?_ | refine blk_alloc ?_ _)); refine blk_put (cs := #[.int .i64 0, .int .i64 0, .int .i64 0, .bool false, .string (⟨#[]⟩ : ByteArray), .int .i64 0, .int .i64 0, .int .i64 0]) ?_ 0 _ rfl; (with_reducible repeat (first | refine blk_drewN ?_ _ | refine blk_drew ?_ | refine blk_alloc ?_ _)); refine blk_far ?_ NB280_282.out _; (with_reducible repeat (first | refine blk_drewN ?_ _ | refine blk_drew ?_ | refine blk_alloc ?_ _)); exact BK280.out) Tryz.underlying34 rfl (by kernel_rfl)) rfl ?_
        exact ⟨ew_, (bl_ HB).out⟩

end Go.Proofs.YthkpmiajcmihjaaGreatDoor.P
