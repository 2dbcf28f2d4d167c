-- written by a program of this session (wip/p2)
import Derived.Test.YthkpmiajcmihjaaDoorPx0
import Derived.Test.YthkpmiajcmihjaaDoorPx3
import Derived.Test.YthkpmiajcmihjaaDoorPx4
import Derived.Test.YthkpmiajcmihjaaDoorPx13
namespace Go.Proofs.YthkpmiajcmihjaaDoor.P
open Go.RowKit Go.Proofs.YthkpmiajcmihjaaDoorW.PrintWords Go.Proofs.YthkpmiajcmihjaaDoorW.PrintLast Go.Proofs.YthkpmiajcmihjaaDoorW.PrintMore
attribute [local go_sem] max2_int min2_int max_two min_two max_three min_three max_four min_four   -- for this text's walks alone
set_option linter.unusedVariables false
set_option linter.unusedSimpArgs false

/-! ### num_Of: function 38 -/
def num_Of.l0 : Nat → Int → List Int → Option (ByteArray)
  | 0, _, _ => none
  | k + 1, x0, x3 => if x0 > 0 then (if x3.length < 140737488355328 then (num_Of.l0 k (wrap64 (Int.tdiv x0 10)) (x3 ++ [(48 + (Int.tmod x0 10)) % 256])) else (none)) else ((num_text.f k x3).bind fun t311 => (some t311))
def num_Of.f (k : Nat) (a0 : Int) : Option (ByteArray) := num_Of.l0 k a0 ([] : List Int)
theorem num_Of.mono_l : ∀ k, (∀ y0 y1, LeO (num_Of.l0 k y0 y1) (num_Of.l0 (k + 1) y0 y1))
  | 0 => fun _ _ r h => by simp [num_Of.l0] at h
  | k + 1 => by
    have ih0 := num_Of.mono_l k
    · intro y0 y1
      unfold num_Of.l0
      repeat' first
      | (with_reducible exact ih0 _ _)
      | (with_reducible exact num_text.mono _ _)
      | (with_reducible exact LeO.refl _)
      | (with_reducible exact LeO.none _)
      | (with_reducible refine LeO.ite ?_ ?_)
      | (with_reducible refine LeO.bind ?_ (fun _ => ?_))
      | exact ih0 _ _
      | exact num_text.mono _ _
      | exact LeO.none _
      | refine LeO.ite ?_ ?_
      | refine LeO.bind ?_ (fun _ => ?_)
theorem num_Of.mono : ∀ a0 k, LeO (num_Of.f k a0) (num_Of.f (k + 1) a0) := by
  intro a0 k
  have ih0 := num_Of.mono_l k
  unfold num_Of.f
  repeat' first
      | (with_reducible exact ih0 _ _)
      | (with_reducible exact num_text.mono _ _)
      | (with_reducible exact LeO.refl _)
      | (with_reducible exact LeO.none _)
      | (with_reducible refine LeO.ite ?_ ?_)
      | (with_reducible refine LeO.bind ?_ (fun _ => ?_))
      | exact ih0 _ _
      | exact num_text.mono _ _
      | exact LeO.none _
      | refine LeO.ite ?_ ?_
      | refine LeO.bind ?_ (fun _ => ?_)
set_option maxHeartbeats 8000000 in
set_option maxRecDepth 100000 in
theorem num_Of.calls (k : Nat) (a0 : Int) (r : ByteArray) (w : World) (h : num_Of.f k a0 = some r) :
    Calls Tryd.prog 38 #[.int .i64 a0] w fun e w' => e = .returned (.string r) ∧ Below w.heap.size w w' := by
  have HB := Aside0.mk (Below.refl w.heap.size w)
  have H : (num_Of.l0 k a0 ([] : List Int)) = some r := h
  clear h
  have H' := Aside0.mk H
  clear H
  go_enter Tryd.func38, Tryd.ntmps38
  go_wp2
  go_loopg [0, 3] k (fun kq v0 v3 w' => ∃ (x0_1 : Int) (x3_1 : List Int), v0 = .int .i64 x0_1 ∧ Aside0 (num_Of.l0 kq x0_1 x3_1 = some r) ∧ Aside0 (kq ≤ k) ∧ Aside0 (Kd.R (Kd.int .u8) 5 w' w.heap.size (fun _ => True) v3 x3_1) ∧ Aside0 (Below w.heap.size w w'))
  case atStart => exact ⟨(a0), (([] : List Int)), eq_, H', ⟨Nat.le_refl _⟩, ⟨by first | exact Kd.R_nil _ _ _ _ _ | exact Kd.N_nil _ _ _ _ _ | exact Kd.V_nil _ _ _ _ _ | exact Kd.Q_nil _ _ _ _ _ | exact Kd.S_nil _ _ _ _ _⟩, (bl_ HB)⟩
  case round =>
    clear H'
    obtain ⟨x0_1, x3_1, rfl, HA, HK1, HO_3, HB⟩ := hrel
    cases gk with
    | zero => exact absurd HA.out (by simp [num_Of.l0])
    | succ k1 =>
      have H := HA.out
      clear HA
      simp only [num_Of.l0] at H
      by_cases c2 : x0_1 > 0
      · rw [if_pos c2] at H
        have c2b0 : decide (0 < x0_1) = true := decide_eq_true c2
        clear c2
        by_cases c3 : x3_1.length < 140737488355328
        · rw [if_pos c3] at H
          have LMc3 := Aside0.mk c3
          clear c3
          obtain ⟨y308, hy308⟩ : ∃ y_ : List Int, y_ = (x3_1 ++ [(48 + (Int.tmod x0_1 10)) % 256]) := ⟨_, rfl⟩
          replace H : (num_Of.l0 k1 (wrap64 (Int.tdiv x0_1 10)) y308) = some r := by first | (rw [hy308]; with_reducible exact H) | (have H2_ := (Option.bind_some _ _).symm.trans H; rw [hy308]; with_reducible exact H2_) | (have H2_ := (Option.bind_some _ _).symm.trans H; with_reducible exact H2_) | with_reducible exact H | (rw [hy308]; exact H) | exact H
          have Ny308 := Aside0.mk hy308
          clear hy308
          have H' := Aside0.mk H
          clear H
          go_wp2_with (first | ((with_reducible refine gate_builtin (b := .append) (xs := #[.tmp 8, .tmp 13]) rfl ?_); at_builtin; refine Kd.R_append (Kd.int .u8) (w0 := w) w.heap.size rfl (.tmp 8) (.tmp 13) 22 5 (.int .u8 0) 1 rfl Tryd.underlying22 info5 rfl (by decide) (by omega) u3 x3_1 ((48 + (Int.tmod x0_1 10)) % 256) [.int .u8 ((48 + (Int.tmod x0_1 10)) % 256)] (fun _ => True) (fun _ => False) rfl rfl ?aP (fun _ hk => hk.elim) ?aF ?aO ?aB ?aS ?aL ?_; (case aP => exact rfl); (case aB => exact (bl_ HB).out); (case aF => exact (fun _ _ => trivial)); (case aO => exact (by (with_reducible repeat (first | apply Kd.R_alloc | apply Kd.R_drewN | apply Kd.R_drew)); exact HO_3.out)); (case aS => exact (below_size (bl_ HB).out)); (case aL => have := LMc3.out; omega); intro v309 w4 ho hb hg hat; rw [← Ny308.out] at ho; have n0_ := Aside0.mk (hb); have n1_ := Aside0.mk (ho); clear HB; clear HO_3; have HB := n0_; have HO310 := n1_; clear n0_ n1_; clear ho hb hg hat))
          go_roundg k1
          case measure => have := HK1.out; omega
          case rel => exact ⟨(wrap64 (Int.tdiv x0_1 10)), (y308), eq_, H', ⟨by have := HK1.out; omega⟩, ⟨by (with_reducible repeat (first | apply Kd.R_alloc | apply Kd.R_drewN | apply Kd.R_drew)); exact HO310.out⟩, (bl_ HB)⟩
        · rw [if_neg c3] at H
          exact absurd H (by simp)
      · rw [if_neg c2] at H
        have c2b0 : decide (0 < x0_1) = false := decide_eq_false c2
        clear c2
        replace H := Option.bind_eq_some_iff.mp H
        obtain ⟨t311, A50, H⟩ := H
        replace H : (some t311) = some r := H
        have A5 := Aside0.mk A50
        clear A50
        obtain rfl := Option.some.inj H
        obtain ⟨Ao6, co6, eo6⟩ := Kd.R_slice HO_3.out
        subst eo6
        go_wp2_with (first | ((with_reducible refine gate_callee (f := 62) rfl ?_); refine gl_ (some 16) Tryd.func62 #[.slice Ao6 x3_1.length co6] ?_; (with_reducible refine (num_text.calls k1 _ _ x3_1 t311 _ ?side1 ?side2 A5.out).mono ?_); (case side1 => repeat (first | exact (Kd.R_reads' HO_3.out).2.2 | (with_reducible refine Kd.C_alloc ?_ _) | (with_reducible refine Kd.C_drewN ?_ _) | (with_reducible refine Kd.C_drew ?_))); (case side2 => exact (Kd.R_reads' HO_3.out).2.1); rintro e w7 ⟨rfl, hb⟩; refine ⟨_, rfl, ?_⟩; have n0_ := Aside0.mk (Kd.R_below (by (with_reducible repeat (first | apply Kd.R_alloc | apply Kd.R_drewN | apply Kd.R_drew)); exact HO_3.out) hb); have n1_ := Aside0.mk (below_step (bl_ HB).out hb); clear HO_3; clear HB; have HO_3 := n0_; have HB := n1_; clear n0_ n1_; (try clear hb); (try clear hb2); (try clear hk); (try clear hi)))
        go_ret
        exact ⟨ew_, (bl_ HB).out⟩

/-! ### florinlaw04_Ask_Prec: function 16 -/
def florinlaw04_Ask_Prec.j0 : Nat → Int → Int → Int → Int → Int → Int → Int → Int → Int → Int → Bool → ByteArray → Int → Int → Int → Option (Int × Int × Int × Bool × ByteArray × Int × Int × Int)
  | 0, _, _, _, _, _, _, _, _, _, _, _, _, _, _, _ => none
  | k + 1, x313000, x313001, x313002, x313003, x313004, x313005, x313006, x316000, x316001, x316002, x316003, x316004, x316005, x316006, x316007 => if x316000 = 2 then ((num_Of.f k (wrap64 (1 + (Go.bits .and .i64 x313005 65535)))).bind fun t316 => ((dec_Made.f k false t316 (wrap64 ((Int.tmod x313006 4) - 3))).bind fun bt317 => (some (x316000, x316001, wrap64 (x316001 + (Go.bits .and .i64 x313002 7)), bt317.1, bt317.2.1, bt317.2.2, x316006, x316007)))) else (some (x316000, x316001, wrap64 (x316001 + (Go.bits .and .i64 x313002 7)), x316003, x316004, x316005, x316006, x316007))
def florinlaw04_Ask_Prec.f (k : Nat) (a0_0 : Int) (a0_1 : Int) (a0_2 : Int) (a0_3 : Int) (a0_4 : Int) (a0_5 : Int) (a0_6 : Int) : Option (Int × Int × Int × Bool × ByteArray × Int × Int × Int) := (florinlaw03_Mode.f a0_3).bind fun t314 => (if (wrap64 (Int.tmod (IntKind.u64.wrap (a0_0)) 3)) = 1 then (florinlaw04_Ask_Prec.j0 k a0_0 a0_1 a0_2 a0_3 a0_4 a0_5 a0_6 (wrap64 (Int.tmod (IntKind.u64.wrap (a0_0)) 3)) (wrap64 ((Go.bits .and .i64 a0_1 7) + 1)) 0 false (⟨#[]⟩ : ByteArray) 0 t314 (Go.bits .and .i64 a0_4 7)) else (florinlaw04_Ask_Prec.j0 k a0_0 a0_1 a0_2 a0_3 a0_4 a0_5 a0_6 (wrap64 (Int.tmod (IntKind.u64.wrap (a0_0)) 3)) (Go.bits .and .i64 a0_1 7) 0 false (⟨#[]⟩ : ByteArray) 0 t314 (Go.bits .and .i64 a0_4 7)))
theorem florinlaw04_Ask_Prec.mono_l : ∀ k, (∀ y0 y1 y2 y3 y4 y5 y6 y7 y8 y9 y10 y11 y12 y13 y14, LeO (florinlaw04_Ask_Prec.j0 k y0 y1 y2 y3 y4 y5 y6 y7 y8 y9 y10 y11 y12 y13 y14) (florinlaw04_Ask_Prec.j0 (k + 1) y0 y1 y2 y3 y4 y5 y6 y7 y8 y9 y10 y11 y12 y13 y14))
  | 0 => fun _ _ _ _ _ _ _ _ _ _ _ _ _ _ _ r h => by simp [florinlaw04_Ask_Prec.j0] at h
  | k + 1 => by
    have ih0 := florinlaw04_Ask_Prec.mono_l k
    · intro y0 y1 y2 y3 y4 y5 y6 y7 y8 y9 y10 y11 y12 y13 y14
      unfold florinlaw04_Ask_Prec.j0
      repeat' first
      | (with_reducible exact ih0 _ _ _ _ _ _ _ _ _ _ _ _ _ _ _)
      | (with_reducible exact dec_Made.mono _ _ _ _)
      | (with_reducible exact num_Of.mono _ _)
      | (with_reducible exact LeO.refl _)
      | (with_reducible exact LeO.none _)
      | (with_reducible refine LeO.ite ?_ ?_)
      | (with_reducible refine LeO.bind ?_ (fun _ => ?_))
      | exact ih0 _ _ _ _ _ _ _ _ _ _ _ _ _ _ _
      | exact dec_Made.mono _ _ _ _
      | exact num_Of.mono _ _
      | exact LeO.none _
      | refine LeO.ite ?_ ?_
      | refine LeO.bind ?_ (fun _ => ?_)
theorem florinlaw04_Ask_Prec.mono : ∀ a0 a1 a2 a3 a4 a5 a6 k, LeO (florinlaw04_Ask_Prec.f k a0 a1 a2 a3 a4 a5 a6) (florinlaw04_Ask_Prec.f (k + 1) a0 a1 a2 a3 a4 a5 a6) := by
  intro a0 a1 a2 a3 a4 a5 a6 k
  have ih0 := florinlaw04_Ask_Prec.mono_l k
  unfold florinlaw04_Ask_Prec.f
  repeat' first
      | (with_reducible exact ih0 _ _ _ _ _ _ _ _ _ _ _ _ _ _ _)
      | (with_reducible exact dec_Made.mono _ _ _ _)
      | (with_reducible exact num_Of.mono _ _)
      | (with_reducible exact LeO.refl _)
      | (with_reducible exact LeO.none _)
      | (with_reducible refine LeO.ite ?_ ?_)
      | (with_reducible refine LeO.bind ?_ (fun _ => ?_))
      | exact ih0 _ _ _ _ _ _ _ _ _ _ _ _ _ _ _
      | exact dec_Made.mono _ _ _ _
      | exact num_Of.mono _ _
      | exact LeO.none _
      | refine LeO.ite ?_ ?_
      | refine LeO.bind ?_ (fun _ => ?_)
def florinlaw04_Ask_Prec.T1 : Bool × List (List Nat × List Nat) := (true, [([], []), ([0], [0]), ([1], [1]), ([2], [2]), ([3], [3]), ([], []), ([5], [5]), ([6], [6]), ([], []), ([8], [8]), ([9], [9]), ([], []), ([11], [11]), ([12], [12]), ([4, 7, 10, 13], [4, 7, 10, 13]), ([], []), ([15, 14, 10, 0, 1, 2, 3, 4, 5, 6, 7, 8, 9, 10, 11, 12, 13, 14, 15], [14, 15])])
def florinlaw04_Ask_Prec.B1 : List Nat := [0, 1, 3, 7, 15, 0, 32, 96, 0, 256, 768, 0, 2048, 6144, 16383, 0, 65535]
theorem florinlaw04_Ask_Prec.tab1 : rtab .any (opsOf Tryd.f16 1) = florinlaw04_Ask_Prec.T1 := by kernel_rfl
theorem florinlaw04_Ask_Prec.bits1 : waitsOk florinlaw04_Ask_Prec.T1.2 florinlaw04_Ask_Prec.B1 = true := by kernel_rfl
def florinlaw04_Ask_Prec.T6 : Bool × List (List Nat × List Nat) := (true, [([], []), ([0], [0]), ([1], [1]), ([2], [2]), ([3], [3]), ([], []), ([5], [5]), ([6], [6]), ([7], [7]), ([4, 8, 4], [4, 8]), ([0, 1, 2, 3, 4, 5, 6, 7, 8, 9], []), ([10, 9, 9, 0, 1, 2, 3, 4, 5, 6, 7, 8, 9], [9, 10])])
def florinlaw04_Ask_Prec.B6 : List Nat := [0, 1, 3, 7, 15, 0, 32, 96, 224, 511, 1023, 2047]
theorem florinlaw04_Ask_Prec.tab6 : rtab .any (opsOf Tryd.f16 6) = florinlaw04_Ask_Prec.T6 := by kernel_rfl
theorem florinlaw04_Ask_Prec.bits6 : waitsOk florinlaw04_Ask_Prec.T6.2 florinlaw04_Ask_Prec.B6 = true := by kernel_rfl
set_option maxHeartbeats 8000000 in
set_option maxRecDepth 100000 in
theorem florinlaw04_Ask_Prec.calls (k : Nat) (a0_0 : Int) (a0_1 : Int) (a0_2 : Int) (a0_3 : Int) (a0_4 : Int) (a0_5 : Int) (a0_6 : Int) (r1 : Int) (r2 : Int) (r3 : Int) (r4 : Bool) (r5 : ByteArray) (r6 : Int) (r7 : Int) (r8 : Int) (w : World) (h : florinlaw04_Ask_Prec.f k a0_0 a0_1 a0_2 a0_3 a0_4 a0_5 a0_6 = some (r1, r2, r3, r4, r5, r6, r7, r8)) :
    Calls Tryd.prog 16 #[.agg #[.int .i64 a0_0, .int .i64 a0_1, .int .i64 a0_2, .int .i64 a0_3, .int .i64 a0_4, .int .i64 a0_5, .int .i64 a0_6]] w fun e w' => e = .returned (.agg #[.int .i64 r1, .int .i64 r2, .int .i64 r3, .bool r4, .string r5, .int .i64 r6, .int .i64 r7, .int .i64 r8]) ∧ Below w.heap.size w w' := by
  have hu42 := Tryd.underlying42
  have hu32 := Tryd.underlying32
  have hu29 := Tryd.underlying29
  have HB := Aside0.mk (Below.refl w.heap.size w)
  have H : ((florinlaw03_Mode.f a0_3).bind fun t314 => (if (wrap64 (Int.tmod (IntKind.u64.wrap (a0_0)) 3)) = 1 then (florinlaw04_Ask_Prec.j0 k a0_0 a0_1 a0_2 a0_3 a0_4 a0_5 a0_6 (wrap64 (Int.tmod (IntKind.u64.wrap (a0_0)) 3)) (wrap64 ((Go.bits .and .i64 a0_1 7) + 1)) 0 false (⟨#[]⟩ : ByteArray) 0 t314 (Go.bits .and .i64 a0_4 7)) else (florinlaw04_Ask_Prec.j0 k a0_0 a0_1 a0_2 a0_3 a0_4 a0_5 a0_6 (wrap64 (Int.tmod (IntKind.u64.wrap (a0_0)) 3)) (Go.bits .and .i64 a0_1 7) 0 false (⟨#[]⟩ : ByteArray) 0 t314 (Go.bits .and .i64 a0_4 7)))) = some (r1, r2, r3, r4, r5, r6, r7, r8) := h
  clear h
  replace H := Option.bind_eq_some_iff.mp H
  obtain ⟨t314, A20, H⟩ := H
  replace H : (if (wrap64 (Int.tmod (IntKind.u64.wrap (a0_0)) 3)) = 1 then (florinlaw04_Ask_Prec.j0 k a0_0 a0_1 a0_2 a0_3 a0_4 a0_5 a0_6 (wrap64 (Int.tmod (IntKind.u64.wrap (a0_0)) 3)) (wrap64 ((Go.bits .and .i64 a0_1 7) + 1)) 0 false (⟨#[]⟩ : ByteArray) 0 t314 (Go.bits .and .i64 a0_4 7)) else (florinlaw04_Ask_Prec.j0 k a0_0 a0_1 a0_2 a0_3 a0_4 a0_5 a0_6 (wrap64 (Int.tmod (IntKind.u64.wrap (a0_0)) 3)) (Go.bits .and .i64 a0_1 7) 0 false (⟨#[]⟩ : ByteArray) 0 t314 (Go.bits .and .i64 a0_4 7))) = some (r1, r2, r3, r4, r5, r6, r7, r8) := H
  have A2 := Aside0.mk A20
  clear A20
  have HC3 := Aside0.mk H
  clear H
  go_enter Tryd.func16, Tryd.ntmps16
  try go_wp2_with (first | ((with_reducible refine gate_dst (N := 1) rfl ?_); refine be_ 1 #[.int .i64 a0_0, .int .i64 a0_1, .int .i64 a0_2, .int .i64 a0_3, .int .i64 a0_4, .int .i64 a0_5, .int .i64 a0_6] 42 ?_; intro gb312 hg w4 hbox hb; have BK312 := Aside0.mk (hbox); have GW312 := sz_ HB hg; have GE312 := sz_ HB hg; replace HB := Aside0.mk (below_step (bl_ HB).out hb); clear hb hbox hg) | ((with_reducible refine gate_dst (N := 2) rfl ?_); refine be_ 2 #[.int .i64 0, .int .i64 0, .int .i64 0, .bool false, .string (⟨#[]⟩ : ByteArray), .int .i64 0, .int .i64 0, .int .i64 0] 32 ?_; intro gb313 hg w5 hbox hb; have BK313 := Aside0.mk (hbox); have GW313 := sz_ HB hg; have GE313 := sz_ HB hg; have NB312_313 := na_ BK312 hg; have NB313_312 := nb_ BK312 hg; replace BK312 := bb_ BK312 hb; replace HB := Aside0.mk (below_step (bl_ HB).out hb); clear hb hbox hg))
  replace BK312 := Aside0.mk (blk_drew BK312.out)
  replace BK313 := Aside0.mk (blk_drew BK313.out)
  replace HB := Aside0.mk (below_drew1 HB.out)
  refine start_ (n := 17) (S := fun w' => w'.cell? ⟨gb312, 0, none⟩ = some (.int .i64 a0_0) ∧ w'.cell? ⟨gb312, 1, none⟩ = some (.int .i64 a0_1) ∧ w'.cell? ⟨gb312, 2, none⟩ = some (.int .i64 a0_2) ∧ w'.cell? ⟨gb312, 3, none⟩ = some (.int .i64 a0_3) ∧ w'.cell? ⟨gb312, 4, none⟩ = some (.int .i64 a0_4) ∧ w'.cell? ⟨gb312, 5, none⟩ = some (.int .i64 a0_5) ∧ w'.cell? ⟨gb312, 6, none⟩ = some (.int .i64 a0_6)) (ds := []) #[false, false, false, false, false, false, false, false, false, false, false, false, false, false, false, false, false] (by kernel_rfl) rfl rfl ⟨bc_ BK312 0, bc_ BK312 1, bc_ BK312 2, bc_ BK312 3, bc_ BK312 4, bc_ BK312 5, bc_ BK312 6⟩ (fun hHeld => ?_); refine with_tabW florinlaw04_Ask_Prec.tab1 florinlaw04_Ask_Prec.bits1 (fun HT_ HW_ => ?_)
  generalize w5.drew = w6 at BK312 BK313 HB hHeld ⊢
  refine pu_ 0 4 (bm_ 17 1) HT_ ?_
  refine pu_ 5 9 (bm_ 17 33) HT_ ?_
  refine pu_ 8 12 (bm_ 17 289) HT_ ?_
  refine pu_ 11 15 (bm_ 17 2337) HT_ ?_
  refine tk_ 1 5 (bm_ 17 2339) HT_ HW_ hHeld rfl (by rintro w' ⟨s0, s1, s2, s3, s4, s5, s6⟩; go_simp; with_reducible rfl) ?_
  refine pu_ 2 6 (bm_ 17 2343) HT_ ?_
  refine pu_ 3 7 (bm_ 17 2351) HT_ ?_
  refine pu_ 4 8 (bm_ 17 2367) HT_ ?_
  refine tk_ 6 10 (bm_ 17 2431) HT_ HW_ hHeld rfl (by rintro w' ⟨s0, s1, s2, s3, s4, s5, s6⟩; go_simp; with_reducible rfl) ?_
  refine pu_ 7 11 (bm_ 17 2559) HT_ ?_
  refine tk_ 9 13 (bm_ 17 3071) HT_ HW_ hHeld rfl (by rintro w' ⟨s0, s1, s2, s3, s4, s5, s6⟩; go_simp; with_reducible rfl) ?_
  refine tk_ 12 16 (bm_ 17 7167) HT_ HW_ hHeld rfl (by rintro w' ⟨s0, s1, s2, s3, s4, s5, s6⟩; go_simp; with_reducible rfl) ?_
  refine pu_ 13 17 (bm_ 17 15359) HT_ ?_
  refine join_ (σ := Nat) 1 #[true, true, true, true, true, true, true, true, true, true, true, true, true, true, true, true, false] (fun s_ => [(14, .int .i64 t314), (3, .pointer (some ⟨s_, 0, none⟩)), (18, .agg #[.int .i64 (wrap64 (Int.tmod (IntKind.u64.wrap (a0_0)) 3)), .int .i64 (Go.bits .and .i64 a0_1 7), .int .i64 0, .bool false, .string (⟨#[]⟩ : ByteArray), .int .i64 0, .int .i64 t314, .int .i64 (Go.bits .and .i64 a0_4 7)])]) (fun s_ w' => (w'.cell? ⟨gb312, 0, none⟩ = some (.int .i64 a0_0) ∧ w'.cell? ⟨gb312, 1, none⟩ = some (.int .i64 a0_1) ∧ w'.cell? ⟨gb312, 2, none⟩ = some (.int .i64 a0_2) ∧ w'.cell? ⟨gb312, 3, none⟩ = some (.int .i64 a0_3) ∧ w'.cell? ⟨gb312, 4, none⟩ = some (.int .i64 a0_4) ∧ w'.cell? ⟨gb312, 5, none⟩ = some (.int .i64 a0_5) ∧ w'.cell? ⟨gb312, 6, none⟩ = some (.int .i64 a0_6)) ∧ (w'.heap[gb312]? = some (.cells #[.int .i64 a0_0, .int .i64 a0_1, .int .i64 a0_2, .int .i64 a0_3, .int .i64 a0_4, .int .i64 a0_5, .int .i64 a0_6] 42 (0, 0))) ∧ (w'.heap[gb313]? = some (.cells #[.int .i64 0, .int .i64 0, .int .i64 0, .bool false, .string (⟨#[]⟩ : ByteArray), .int .i64 0, .int .i64 0, .int .i64 0] 32 (0, 0))) ∧ (w'.heap[s_]? = some (.cells #[.int .i64 0, .int .i64 0, .int .i64 0, .bool false, .string (⟨#[]⟩ : ByteArray), .int .i64 0, .int .i64 0, .int .i64 0] 32 (0, 0))) ∧ (w.heap.size ≤ s_) ∧ (w.heap.size ≤ s_) ∧ (gb312 ≠ s_) ∧ (s_ ≠ gb312) ∧ (gb313 ≠ s_) ∧ (s_ ≠ gb313) ∧ (Below w.heap.size w w')) ?_ ?_
  rotate_left
  · intro hCont
    refine two_ (i := 10) (j := 15) (Ni := some 14) (Nj := some 3) #[true, true, true, true, true, true, true, true, true, true, true, true, true, true, false, false, false] #[true, true, true, true, true, true, true, true, true, true, false, true, true, true, false, true, false] rfl rfl rfl rfl (two_of HT_.out (by kernel_rfl)) (by decide) (by decide) (fun K hK => ?_) (fun K hK => ?_)
    · skip
      refine gs_ Tryd.func37 #[.int .i64 a0_3] ?_
      with_reducible refine (florinlaw03_Mode.calls a0_3 t314 _ A2.out).mono ?_
      rintro e w' ⟨rfl, ⟨nd, rfl⟩⟩
      refine ⟨_, rfl, ?_⟩
      refine hK.out _ _ ⟨bc_ BK312 0, bc_ BK312 1, bc_ BK312 2, bc_ BK312 3, bc_ BK312 4, bc_ BK312 5, bc_ BK312 6⟩ (fun hHeld => ?_)
      clear hK K
      refine nm_ 14 ?_
      refine pu_ 14 18 (bm_ 17 32767) HT_ ?_
      refine one_ (i := 15) (N := some 3) (bm_ 17 65535) rfl rfl (one_of HT_.out (by kernel_rfl)) (by decide) (fun K hK => ?_)
      refine box_step ?hg (N := 3) ?hd (cs := #[.int .i64 0, .int .i64 0, .int .i64 0, .bool false, .string (⟨#[]⟩ : ByteArray), .int .i64 0, .int .i64 0, .int .i64 0]) (t := 32) ?hr ?_; (case hd => rfl); (case hg => rfl); (case hr => first | (go_simp; done) | (go_simp; rfl))
      intro gb315 hg w7 hbox hb
      have n0_ := bb_ BK312 hb
      have n1_ := bb_ BK313 hb
      have n2_ := Aside0.mk (below_step (bl_ HB).out hb)
      have n3_ := Aside0.mk (hbox)
      have n4_ := sz_ HB hg
      have n5_ := sz_ HB hg
      have n6_ := na_ BK312 hg
      have n7_ := nb_ BK312 hg
      have n8_ := na_ BK313 hg
      have n9_ := nb_ BK313 hg
      clear BK312
      clear BK313
      clear HB
      have BK312 := n0_
      have BK313 := n1_
      have HB := n2_
      have BK315 := n3_
      have GW315 := n4_
      have GE315 := n5_
      have NB312_315 := n6_
      have NB315_312 := n7_
      have NB313_315 := n8_
      have NB315_313 := n9_
      clear n0_ n1_ n2_ n3_ n4_ n5_ n6_ n7_ n8_ n9_
      clear hb hbox hg
      refine hK.out _ _ ⟨bc_ BK312 0, bc_ BK312 1, bc_ BK312 2, bc_ BK312 3, bc_ BK312 4, bc_ BK312 5, bc_ BK312 6⟩ (fun hHeld => ?_)
      clear hK K
      refine nm_ 3 ?_
      exact norm_ (by simp only [putAll, Act.put, List.setIfInBounds_toArray, List.set_cons_zero, List.set_cons_succ]) (hCont (gb315) _ ⟨hHeld, (by (with_reducible repeat (first | refine blk_drewN ?_ _ | refine blk_drew ?_ | refine blk_alloc ?_ _)); exact BK312.out), (by (with_reducible repeat (first | refine blk_drewN ?_ _ | refine blk_drew ?_ | refine blk_alloc ?_ _)); exact BK313.out), (by (with_reducible repeat (first | refine blk_drewN ?_ _ | refine blk_drew ?_ | refine blk_alloc ?_ _)); exact BK315.out), GW315.out, GE315.out, NB312_315.out, NB315_312.out, NB313_315.out, NB315_313.out, (bl_ HB).out⟩)
    · skip
      refine box_step ?hg (N := 3) ?hd (cs := #[.int .i64 0, .int .i64 0, .int .i64 0, .bool false, .string (⟨#[]⟩ : ByteArray), .int .i64 0, .int .i64 0, .int .i64 0]) (t := 32) ?hr ?_; (case hd => rfl); (case hg => rfl); (case hr => first | (go_simp; done) | (go_simp; rfl))
      intro gb315 hg w7 hbox hb
      have n0_ := bb_ BK312 hb
      have n1_ := bb_ BK313 hb
      have n2_ := Aside0.mk (below_step (bl_ HB).out hb)
      have n3_ := Aside0.mk (hbox)
      have n4_ := sz_ HB hg
      have n5_ := sz_ HB hg
      have n6_ := na_ BK312 hg
      have n7_ := nb_ BK312 hg
      have n8_ := na_ BK313 hg
      have n9_ := nb_ BK313 hg
      clear BK312
      clear BK313
      clear HB
      have BK312 := n0_
      have BK313 := n1_
      have HB := n2_
      have BK315 := n3_
      have GW315 := n4_
      have GE315 := n5_
      have NB312_315 := n6_
      have NB315_312 := n7_
      have NB313_315 := n8_
      have NB315_313 := n9_
      clear n0_ n1_ n2_ n3_ n4_ n5_ n6_ n7_ n8_ n9_
      clear hb hbox hg
      refine hK.out _ _ ⟨bc_ BK312 0, bc_ BK312 1, bc_ BK312 2, bc_ BK312 3, bc_ BK312 4, bc_ BK312 5, bc_ BK312 6⟩ (fun hHeld => ?_)
      clear hK K
      refine nm_ 3 ?_
      refine one_ (i := 10) (N := some 14) (bm_ 17 49151) rfl rfl (one_of HT_.out (by kernel_rfl)) (by decide) (fun K hK => ?_)
      refine gs_ Tryd.func37 #[.int .i64 a0_3] ?_
      with_reducible refine (florinlaw03_Mode.calls a0_3 t314 _ A2.out).mono ?_
      rintro e w' ⟨rfl, ⟨nd, rfl⟩⟩
      refine ⟨_, rfl, ?_⟩
      refine hK.out _ _ ⟨bc_ BK312 0, bc_ BK312 1, bc_ BK312 2, bc_ BK312 3, bc_ BK312 4, bc_ BK312 5, bc_ BK312 6⟩ (fun hHeld => ?_)
      clear hK K
      refine nm_ 14 ?_
      refine pu_ 14 18 (bm_ 17 65535) HT_ ?_
      exact norm_ (by simp only [putAll, Act.put, List.setIfInBounds_toArray, List.set_cons_zero, List.set_cons_succ]) (hCont (gb315) _ ⟨hHeld, (by (with_reducible repeat (first | refine blk_drewN ?_ _ | refine blk_drew ?_ | refine blk_alloc ?_ _)); exact BK312.out), (by (with_reducible repeat (first | refine blk_drewN ?_ _ | refine blk_drew ?_ | refine blk_alloc ?_ _)); exact BK313.out), (by (with_reducible repeat (first | refine blk_drewN ?_ _ | refine blk_drew ?_ | refine blk_alloc ?_ _)); exact BK315.out), GW315.out, GE315.out, NB312_315.out, NB315_312.out, NB313_315.out, NB315_313.out, (bl_ HB).out⟩)
  rintro gb315 w8 ⟨hS_, h0_, h1_, h2_, h3_, h4_, h5_, h6_, h7_, h8_, h9_⟩
  have n0_ : Aside0 (w8.heap[gb312]? = some (.cells #[.int .i64 a0_0, .int .i64 a0_1, .int .i64 a0_2, .int .i64 a0_3, .int .i64 a0_4, .int .i64 a0_5, .int .i64 a0_6] 42 (0, 0))) := ⟨h0_⟩
  have n1_ : Aside0 (w8.heap[gb313]? = some (.cells #[.int .i64 0, .int .i64 0, .int .i64 0, .bool false, .string (⟨#[]⟩ : ByteArray), .int .i64 0, .int .i64 0, .int .i64 0] 32 (0, 0))) := ⟨h1_⟩
  have n2_ : Aside0 (w8.heap[gb315]? = some (.cells #[.int .i64 0, .int .i64 0, .int .i64 0, .bool false, .string (⟨#[]⟩ : ByteArray), .int .i64 0, .int .i64 0, .int .i64 0] 32 (0, 0))) := ⟨h2_⟩
  have n3_ : Aside0 (w.heap.size ≤ gb315) := ⟨h3_⟩
  have n4_ : Aside0 (w.heap.size ≤ gb315) := ⟨h4_⟩
  have n5_ : Aside0 (gb312 ≠ gb315) := ⟨h5_⟩
  have n6_ : Aside0 (gb315 ≠ gb312) := ⟨h6_⟩
  have n7_ : Aside0 (gb313 ≠ gb315) := ⟨h7_⟩
  have n8_ : Aside0 (gb315 ≠ gb313) := ⟨h8_⟩
  have n9_ : Aside0 (Below w.heap.size w w8) := ⟨h9_⟩
  clear BK312
  clear BK313
  clear HB
  clear h0_ h1_ h2_ h3_ h4_ h5_ h6_ h7_ h8_ h9_
  have BK312 := n0_
  have BK313 := n1_
  have BK315 := n2_
  have GW315 := n3_
  have GE315 := n4_
  have NB312_315 := n5_
  have NB315_312 := n6_
  have NB313_315 := n7_
  have NB315_313 := n8_
  have HB := n9_
  clear n0_ n1_ n2_ n3_ n4_ n5_ n6_ n7_ n8_ n9_
  have hHeld : w8.cell? ⟨gb312, 0, none⟩ = some (.int .i64 a0_0) ∧ w8.cell? ⟨gb312, 1, none⟩ = some (.int .i64 a0_1) ∧ w8.cell? ⟨gb312, 2, none⟩ = some (.int .i64 a0_2) ∧ w8.cell? ⟨gb312, 3, none⟩ = some (.int .i64 a0_3) ∧ w8.cell? ⟨gb312, 4, none⟩ = some (.int .i64 a0_4) ∧ w8.cell? ⟨gb312, 5, none⟩ = some (.int .i64 a0_5) ∧ w8.cell? ⟨gb312, 6, none⟩ = some (.int .i64 a0_6) := hS_
  refine norm_ (a' := ?_) ?_ ?_
  rotate_left
  · simp only [putAll, Act.put, List.setIfInBounds_toArray, List.set_cons_zero, List.set_cons_succ]
    rfl
  refine one_ (i := 16) (N := none) (bm_ 17 131071) rfl rfl (one_of HT_.out (by kernel_rfl)) (by decide) (fun K hK => ?_)
  have hs9 : w8.cell? ⟨gb315, 0, none⟩ = some (.int .i64 0) := bc_ BK315 0
  have hfs9 := blk_frozen BK315.out 0
  have hns9_0 := NB312_315.out
  have hns9_1 := NB313_315.out
  have hms9_0 := NB315_312.out
  have hms9_1 := NB315_313.out
  have hs10 : w8.cell? ⟨gb315, 1, none⟩ = some (.int .i64 0) := bc_ BK315 1
  have hfs10 := blk_frozen BK315.out 1
  have hns10_0 := NB312_315.out
  have hns10_1 := NB313_315.out
  have hms10_0 := NB315_312.out
  have hms10_1 := NB315_313.out
  have hs11 : w8.cell? ⟨gb315, 2, none⟩ = some (.int .i64 0) := bc_ BK315 2
  have hfs11 := blk_frozen BK315.out 2
  have hns11_0 := NB312_315.out
  have hns11_1 := NB313_315.out
  have hms11_0 := NB315_312.out
  have hms11_1 := NB315_313.out
  have hs12 : w8.cell? ⟨gb315, 3, none⟩ = some (.bool false) := bc_ BK315 3
  have hfs12 := blk_frozen BK315.out 3
  have hns12_0 := NB312_315.out
  have hns12_1 := NB313_315.out
  have hms12_0 := NB315_312.out
  have hms12_1 := NB315_313.out
  have hs13 : w8.cell? ⟨gb315, 4, none⟩ = some (.string (⟨#[]⟩ : ByteArray)) := bc_ BK315 4
  have hfs13 := blk_frozen BK315.out 4
  have hns13_0 := NB312_315.out
  have hns13_1 := NB313_315.out
  have hms13_0 := NB315_312.out
  have hms13_1 := NB315_313.out
  have hs14 : w8.cell? ⟨gb315, 5, none⟩ = some (.int .i64 0) := bc_ BK315 5
  have hfs14 := blk_frozen BK315.out 5
  have hns14_0 := NB312_315.out
  have hns14_1 := NB313_315.out
  have hms14_0 := NB315_312.out
  have hms14_1 := NB315_313.out
  have hs15 : w8.cell? ⟨gb315, 6, none⟩ = some (.int .i64 0) := bc_ BK315 6
  have hfs15 := blk_frozen BK315.out 6
  have hns15_0 := NB312_315.out
  have hns15_1 := NB313_315.out
  have hms15_0 := NB315_312.out
  have hms15_1 := NB315_313.out
  have hs16 : w8.cell? ⟨gb315, 7, none⟩ = some (.int .i64 0) := bc_ BK315 7
  have hfs16 := blk_frozen BK315.out 7
  have hns16_0 := NB312_315.out
  have hns16_1 := NB313_315.out
  have hms16_0 := NB315_312.out
  have hms16_1 := NB315_313.out
  refine skip_ (w1 := ?_) (by rfl) rfl ?_ ?_
  rotate_left
  · go_simp
    rfl
  refine hK.out _ _ ⟨((cell_far (p := ⟨gb315, _, none⟩) NB312_315.out _).trans (((cell_far (p := ⟨gb315, _, none⟩) NB312_315.out _).trans (((cell_far (p := ⟨gb315, _, none⟩) NB312_315.out _).trans (((cell_far (p := ⟨gb315, _, none⟩) NB312_315.out _).trans (((cell_far (p := ⟨gb315, _, none⟩) NB312_315.out _).trans (((cell_far (p := ⟨gb315, _, none⟩) NB312_315.out _).trans (((cell_far (p := ⟨gb315, _, none⟩) NB312_315.out _).trans (((cell_far (p := ⟨gb315, _, none⟩) NB312_315.out _).trans (hHeld.1)))))))))))))))), ((cell_far (p := ⟨gb315, _, none⟩) NB312_315.out _).trans (((cell_far (p := ⟨gb315, _, none⟩) NB312_315.out _).trans (((cell_far (p := ⟨gb315, _, none⟩) NB312_315.out _).trans (((cell_far (p := ⟨gb315, _, none⟩) NB312_315.out _).trans (((cell_far (p := ⟨gb315, _, none⟩) NB312_315.out _).trans (((cell_far (p := ⟨gb315, _, none⟩) NB312_315.out _).trans (((cell_far (p := ⟨gb315, _, none⟩) NB312_315.out _).trans (((cell_far (p := ⟨gb315, _, none⟩) NB312_315.out _).trans (hHeld.2.1)))))))))))))))), ((cell_far (p := ⟨gb315, _, none⟩) NB312_315.out _).trans (((cell_far (p := ⟨gb315, _, none⟩) NB312_315.out _).trans (((cell_far (p := ⟨gb315, _, none⟩) NB312_315.out _).trans (((cell_far (p := ⟨gb315, _, none⟩) NB312_315.out _).trans (((cell_far (p := ⟨gb315, _, none⟩) NB312_315.out _).trans (((cell_far (p := ⟨gb315, _, none⟩) NB312_315.out _).trans (((cell_far (p := ⟨gb315, _, none⟩) NB312_315.out _).trans (((cell_far (p := ⟨gb315, _, none⟩) NB312_315.out _).trans (hHeld.2.2.1)))))))))))))))), ((cell_far (p := ⟨gb315, _, none⟩) NB312_315.out _).trans (((cell_far (p := ⟨gb315, _, none⟩) NB312_315.out _).trans (((cell_far (p := ⟨gb315, _, none⟩) NB312_315.out _).trans (((cell_far (p := ⟨gb315, _, none⟩) NB312_315.out _).trans (((cell_far (p := ⟨gb315, _, none⟩) NB312_315.out _).trans (((cell_far (p := ⟨gb315, _, none⟩) NB312_315.out _).trans (((cell_far (p := ⟨gb315, _, none⟩) NB312_315.out _).trans (((cell_far (p := ⟨gb315, _, none⟩) NB312_315.out _).trans (hHeld.2.2.2.1)))))))))))))))), ((cell_far (p := ⟨gb315, _, none⟩) NB312_315.out _).trans (((cell_far (p := ⟨gb315, _, none⟩) NB312_315.out _).trans (((cell_far (p := ⟨gb315, _, none⟩) NB312_315.out _).trans (((cell_far (p := ⟨gb315, _, none⟩) NB312_315.out _).trans (((cell_far (p := ⟨gb315, _, none⟩) NB312_315.out _).trans (((cell_far (p := ⟨gb315, _, none⟩) NB312_315.out _).trans (((cell_far (p := ⟨gb315, _, none⟩) NB312_315.out _).trans (((cell_far (p := ⟨gb315, _, none⟩) NB312_315.out _).trans (hHeld.2.2.2.2.1)))))))))))))))), ((cell_far (p := ⟨gb315, _, none⟩) NB312_315.out _).trans (((cell_far (p := ⟨gb315, _, none⟩) NB312_315.out _).trans (((cell_far (p := ⟨gb315, _, none⟩) NB312_315.out _).trans (((cell_far (p := ⟨gb315, _, none⟩) NB312_315.out _).trans (((cell_far (p := ⟨gb315, _, none⟩) NB312_315.out _).trans (((cell_far (p := ⟨gb315, _, none⟩) NB312_315.out _).trans (((cell_far (p := ⟨gb315, _, none⟩) NB312_315.out _).trans (((cell_far (p := ⟨gb315, _, none⟩) NB312_315.out _).trans (hHeld.2.2.2.2.2.1)))))))))))))))), ((cell_far (p := ⟨gb315, _, none⟩) NB312_315.out _).trans (((cell_far (p := ⟨gb315, _, none⟩) NB312_315.out _).trans (((cell_far (p := ⟨gb315, _, none⟩) NB312_315.out _).trans (((cell_far (p := ⟨gb315, _, none⟩) NB312_315.out _).trans (((cell_far (p := ⟨gb315, _, none⟩) NB312_315.out _).trans (((cell_far (p := ⟨gb315, _, none⟩) NB312_315.out _).trans (((cell_far (p := ⟨gb315, _, none⟩) NB312_315.out _).trans (((cell_far (p := ⟨gb315, _, none⟩) NB312_315.out _).trans (hHeld.2.2.2.2.2.2))))))))))))))))⟩ (fun hHeld => ?_)
  clear hK K
  refine done_ (done_of HT_.out (by kernel_rfl)) ?_
  have hnb17 := NB315_312.out
  have hnc17 := NB312_315.out
  have hnb18 := NB315_313.out
  have hnc18 := NB313_315.out
  obtain ⟨hcz19_0, hcz19_1, hcz19_2, hcz19_3, hcz19_4, hcz19_5, hcz19_6, hcz19_7, hfz19_0, hfz19_1, hfz19_2, hfz19_3, hfz19_4, hfz19_5, hfz19_6, hfz19_7⟩ := bo8_ BK315
  go_upto_if 21 with (fail)
  go_cut [] (fun wc => ∃ (kq : Nat) (x316001_2 : Int), Aside0 (florinlaw04_Ask_Prec.j0 kq a0_0 a0_1 a0_2 a0_3 a0_4 a0_5 a0_6 (wrap64 (Int.tmod (IntKind.u64.wrap (a0_0)) 3)) x316001_2 0 false (⟨#[]⟩ : ByteArray) 0 t314 (Go.bits .and .i64 a0_4 7) = some (r1, r2, r3, r4, r5, r6, r7, r8)) ∧ Aside0 (kq ≤ k) ∧ Aside0 (wc.heap[gb312]? = some (.cells #[.int .i64 a0_0, .int .i64 a0_1, .int .i64 a0_2, .int .i64 a0_3, .int .i64 a0_4, .int .i64 a0_5, .int .i64 a0_6] 42 (0, 0))) ∧ Aside0 (wc.heap[gb313]? = some (.cells #[.int .i64 0, .int .i64 0, .int .i64 0, .bool false, .string (⟨#[]⟩ : ByteArray), .int .i64 0, .int .i64 0, .int .i64 0] 32 (0, 0))) ∧ Aside0 (wc.heap[gb315]? = some (.cells #[.int .i64 (wrap64 (Int.tmod (IntKind.u64.wrap (a0_0)) 3)), .int .i64 x316001_2, .int .i64 0, .bool false, .string (⟨#[]⟩ : ByteArray), .int .i64 0, .int .i64 t314, .int .i64 (Go.bits .and .i64 a0_4 7)] 32 (0, 0))) ∧ Aside0 (Below w.heap.size w wc))
  case first =>
    have H := HC3.out
    clear HC3
    by_cases c20 : (wrap64 (Int.tmod (IntKind.u64.wrap (a0_0)) 3)) = 1
    · rw [if_pos c20] at H
      have c20b0 : ((wrap64 (Int.tmod (IntKind.u64.wrap (a0_0)) 3)) == 1) = true := beq_iff_eq.mpr c20
      have c20b1 : ((wrap64 (Int.tmod (IntKind.u64.wrap (a0_0)) 3)) != 1) = false := bne_eq_false_iff_eq.mpr c20
      clear c20
      (first | rw [c20b0] | (simp only [i64_w, i32_w]; rw [c20b0]) | skip)
      have H' := Aside0.mk H
      clear H
      have hnb21 := NB315_312.out
      have hnc21 := NB312_315.out
      have hnb22 := NB315_313.out
      have hnc22 := NB313_315.out
      obtain ⟨hcz23_0, hcz23_1, hcz23_2, hcz23_3, hcz23_4, hcz23_5, hcz23_6, hcz23_7, hfz23_0, hfz23_1, hfz23_2, hfz23_3, hfz23_4, hfz23_5, hfz23_6, hfz23_7⟩ := bo8_ BK315
      go_wp2
      go_meet
      case rel => exact ⟨_, (wrap64 ((Go.bits .and .i64 a0_1 7) + 1)), H', ⟨by first | omega | exact Nat.le_refl _⟩, ⟨by (with_reducible repeat (first | refine blk_drewN ?_ _ | refine blk_drew ?_ | refine blk_alloc ?_ _)); refine blk_far ?_ NB312_315.out _; (with_reducible repeat (first | refine blk_drewN ?_ _ | refine blk_drew ?_ | refine blk_alloc ?_ _)); refine blk_far ?_ NB312_315.out _; (with_reducible repeat (first | refine blk_drewN ?_ _ | refine blk_drew ?_ | refine blk_alloc ?_ _)); refine blk_far ?_ NB312_315.out _; (with_reducible repeat (first | refine blk_drewN ?_ _ | refine blk_drew ?_ | refine blk_alloc ?_ _)); refine blk_far ?_ NB312_315.out _; (with_reducible repeat (first | refine blk_drewN ?_ _ | refine blk_drew ?_ | refine blk_alloc ?_ _)); refine blk_far ?_ NB312_315.out _; (with_reducible repeat (first | refine blk_drewN ?_ _ | refine blk_drew ?_ | refine blk_alloc ?_ _)); refine blk_far ?_ NB312_315.out _; (with_reducible repeat (first | refine blk_drewN ?_ _ | refine blk_drew ?_ | refine blk_alloc ?_ _)); refine blk_far ?_ NB312_315.out _; (with_reducible repeat (first | refine blk_drewN ?_ _ | refine blk_drew ?_ | refine blk_alloc ?_ _)); refine blk_far ?_ NB312_315.out _; (with_reducible repeat (first | refine blk_drewN ?_ _ | refine blk_drew ?_ | refine blk_alloc ?_ _)); refine blk_far ?_ NB312_315.out _; (with_reducible repeat (first | refine blk_drewN ?_ _ | refine blk_drew ?_ | refine blk_alloc ?_ _)); exact BK312.out⟩, ⟨by (with_reducible repeat (first | refine blk_drewN ?_ _ | refine blk_drew ?_ | refine blk_alloc ?_ _)); refine blk_far ?_ NB313_315.out _; (with_reducible repeat (first | refine blk_drewN ?_ _ | refine blk_drew ?_ | refine blk_alloc ?_ _)); refine blk_far ?_ NB313_315.out _; (with_reducible repeat (first | refine blk_drewN ?_ _ | refine blk_drew ?_ | refine blk_alloc ?_ _)); refine blk_far ?_ NB313_315.out _; (with_reducible repeat (first | refine blk_drewN ?_ _ | refine blk_drew ?_ | refine blk_alloc ?_ _)); refine blk_far ?_ NB313_315.out _; (with_reducible repeat (first | refine blk_drewN ?_ _ | refine blk_drew ?_ | refine blk_alloc ?_ _)); refine blk_far ?_ NB313_315.out _; (with_reducible repeat (first | refine blk_drewN ?_ _ | refine blk_drew ?_ | refine blk_alloc ?_ _)); refine blk_far ?_ NB313_315.out _; (with_reducible repeat (first | refine blk_drewN ?_ _ | refine blk_drew ?_ | refine blk_alloc ?_ _)); refine blk_far ?_ NB313_315.out _; (with_reducible repeat (first | refine blk_drewN ?_ _ | refine blk_drew ?_ | refine blk_alloc ?_ _)); refine blk_far ?_ NB313_315.out _; (with_reducible repeat (first | refine blk_drewN ?_ _ | refine blk_drew ?_ | refine blk_alloc ?_ _)); refine blk_far ?_ NB313_315.out _; (with_reducible repeat (first | refine blk_drewN ?_ _ | refine blk_drew ?_ | refine blk_alloc ?_ _)); exact BK313.out⟩, ⟨by (with_reducible repeat (first | refine blk_drewN ?_ _ | refine blk_drew ?_ | refine blk_alloc ?_ _)); refine blk_put (cs := #[.int .i64 (wrap64 (Int.tmod (IntKind.u64.wrap (a0_0)) 3)), .int .i64 (Go.bits .and .i64 a0_1 7), .int .i64 0, .bool false, .string (⟨#[]⟩ : ByteArray), .int .i64 0, .int .i64 t314, .int .i64 (Go.bits .and .i64 a0_4 7)]) ?_ 1 _ rfl; (with_reducible repeat (first | refine blk_drewN ?_ _ | refine blk_drew ?_ | refine blk_alloc ?_ _)); refine blk_put (cs := #[.int .i64 (wrap64 (Int.tmod (IntKind.u64.wrap (a0_0)) 3)), .int .i64 (Go.bits .and .i64 a0_1 7), .int .i64 0, .bool false, .string (⟨#[]⟩ : ByteArray), .int .i64 0, .int .i64 t314, .int .i64 0]) ?_ 7 _ rfl; (with_reducible repeat (first | refine blk_drewN ?_ _ | refine blk_drew ?_ | refine blk_alloc ?_ _)); refine blk_put (cs := #[.int .i64 (wrap64 (Int.tmod (IntKind.u64.wrap (a0_0)) 3)), .int .i64 (Go.bits .and .i64 a0_1 7), .int .i64 0, .bool false, .string (⟨#[]⟩ : ByteArray), .int .i64 0, .int .i64 0, .int .i64 0]) ?_ 6 _ rfl; (with_reducible repeat (first | refine blk_drewN ?_ _ | refine blk_drew ?_ | refine blk_alloc ?_ _)); refine blk_put (cs := #[.int .i64 (wrap64 (Int.tmod (IntKind.u64.wrap (a0_0)) 3)), .int .i64 (Go.bits .and .i64 a0_1 7), .int .i64 0, .bool false, .string (⟨#[]⟩ : ByteArray), .int .i64 0, .int .i64 0, .int .i64 0]) ?_ 5 _ rfl; (with_reducible repeat (first | refine blk_drewN ?_ _ | refine blk_drew ?_ | refine blk_alloc ?_ _)); refine blk_put (cs := #[.int .i64 (wrap64 (Int.tmod (IntKind.u64.wrap (a0_0)) 3)), .int .i64 (Go.bits .and .i64 a0_1 7), .int .i64 0, .bool false, .string (⟨#[]⟩ : ByteArray), .int .i64 0, .int .i64 0, .int .i64 0]) ?_ 4 _ rfl; (with_reducible repeat (first | refine blk_drewN ?_ _ | refine blk_drew ?_ | refine blk_alloc ?_ _)); refine blk_put (cs := #[.int .i64 (wrap64 (Int.tmod (IntKind.u64.wrap (a0_0)) 3)), .int .i64 (Go.bits .and .i64 a0_1 7), .int .i64 0, .bool false, .string (⟨#[]⟩ : ByteArray), .int .i64 0, .int .i64 0, .int .i64 0]) ?_ 3 _ rfl; (with_reducible repeat (first | refine blk_drewN ?_ _ | refine blk_drew ?_ | refine blk_alloc ?_ _)); refine blk_put (cs := #[.int .i64 (wrap64 (Int.tmod (IntKind.u64.wrap (a0_0)) 3)), .int .i64 (Go.bits .and .i64 a0_1 7), .int .i64 0, .bool false, .string (⟨#[]⟩ : ByteArray), .int .i64 0, .int .i64 0, .int .i64 0]) ?_ 2 _ rfl; (with_reducible repeat (first | refine blk_drewN ?_ _ | refine blk_drew ?_ | refine blk_alloc ?_ _)); refine blk_put (cs := #[.int .i64 (wrap64 (Int.tmod (IntKind.u64.wrap (a0_0)) 3)), .int .i64 0, .int .i64 0, .bool false, .string (⟨#[]⟩ : ByteArray), .int .i64 0, .int .i64 0, .int .i64 0]) ?_ 1 _ rfl; (with_reducible repeat (first | refine blk_drewN ?_ _ | refine blk_drew ?_ | refine blk_alloc ?_ _)); refine blk_put (cs := #[.int .i64 0, .int .i64 0, .int .i64 0, .bool false, .string (⟨#[]⟩ : ByteArray), .int .i64 0, .int .i64 0, .int .i64 0]) ?_ 0 _ rfl; (with_reducible repeat (first | refine blk_drewN ?_ _ | refine blk_drew ?_ | refine blk_alloc ?_ _)); exact BK315.out⟩, (bl_ HB)⟩
    · rw [if_neg c20] at H
      have c20b0 : ((wrap64 (Int.tmod (IntKind.u64.wrap (a0_0)) 3)) == 1) = false := beq_eq_false_iff_ne.mpr c20
      have c20b1 : ((wrap64 (Int.tmod (IntKind.u64.wrap (a0_0)) 3)) != 1) = true := bne_iff_ne.mpr c20
      (first | rw [c20b0] | (simp only [i64_w, i32_w]; rw [c20b0]) | skip)
      have H' := Aside0.mk H
      clear H
      go_wp2
      go_meet
      case rel => exact ⟨_, (Go.bits .and .i64 a0_1 7), H', ⟨by first | omega | exact Nat.le_refl _⟩, ⟨by (with_reducible repeat (first | refine blk_drewN ?_ _ | refine blk_drew ?_ | refine blk_alloc ?_ _)); refine blk_far ?_ NB312_315.out _; (with_reducible repeat (first | refine blk_drewN ?_ _ | refine blk_drew ?_ | refine blk_alloc ?_ _)); refine blk_far ?_ NB312_315.out _; (with_reducible repeat (first | refine blk_drewN ?_ _ | refine blk_drew ?_ | refine blk_alloc ?_ _)); refine blk_far ?_ NB312_315.out _; (with_reducible repeat (first | refine blk_drewN ?_ _ | refine blk_drew ?_ | refine blk_alloc ?_ _)); refine blk_far ?_ NB312_315.out _; (with_reducible repeat (first | refine blk_drewN ?_ _ | refine blk_drew ?_ | refine blk_alloc ?_ _)); refine blk_far ?_ NB312_315.out _; (with_reducible repeat (first | refine blk_drewN ?_ _ | refine blk_drew ?_ | refine blk_alloc ?_ _)); refine blk_far ?_ NB312_315.out _; (with_reducible repeat (first | refine blk_drewN ?_ _ | refine blk_drew ?_ | refine blk_alloc ?_ _)); refine blk_far ?_ NB312_315.out _; (with_reducible repeat (first | refine blk_drewN ?_ _ | refine blk_drew ?_ | refine blk_alloc ?_ _)); refine blk_far ?_ NB312_315.out _; (with_reducible repeat (first | refine blk_drewN ?_ _ | refine blk_drew ?_ | refine blk_alloc ?_ _)); exact BK312.out⟩, ⟨by (with_reducible repeat (first | refine blk_drewN ?_ _ | refine blk_drew ?_ | refine blk_alloc ?_ _)); refine blk_far ?_ NB313_315.out _; (with_reducible repeat (first | refine blk_drewN ?_ _ | refine blk_drew ?_ | refine blk_alloc ?_ _)); refine blk_far ?_ NB313_315.out _; (with_reducible repeat (first | refine blk_drewN ?_ _ | refine blk_drew ?_ | refine blk_alloc ?_ _)); refine blk_far ?_ NB313_315.out _; (with_reducible repeat (first | refine blk_drewN ?_ _ | refine blk_drew ?_ | refine blk_alloc ?_ _)); refine blk_far ?_ NB313_315.out _; (with_reducible repeat (first | refine blk_drewN ?_ _ | refine blk_drew ?_ | refine blk_alloc ?_ _)); refine blk_far ?_ NB313_315.out _; (with_reducible repeat (first | refine blk_drewN ?_ _ | refine blk_drew ?_ | refine blk_alloc ?_ _)); refine blk_far ?_ NB313_315.out _; (with_reducible repeat (first | refine blk_drewN ?_ _ | refine blk_drew ?_ | refine blk_alloc ?_ _)); refine blk_far ?_ NB313_315.out _; (with_reducible repeat (first | refine blk_drewN ?_ _ | refine blk_drew ?_ | refine blk_alloc ?_ _)); refine blk_far ?_ NB313_315.out _; (with_reducible repeat (first | refine blk_drewN ?_ _ | refine blk_drew ?_ | refine blk_alloc ?_ _)); exact BK313.out⟩, ⟨by (with_reducible repeat (first | refine blk_drewN ?_ _ | refine blk_drew ?_ | refine blk_alloc ?_ _)); refine blk_put (cs := #[.int .i64 (wrap64 (Int.tmod (IntKind.u64.wrap (a0_0)) 3)), .int .i64 (Go.bits .and .i64 a0_1 7), .int .i64 0, .bool false, .string (⟨#[]⟩ : ByteArray), .int .i64 0, .int .i64 t314, .int .i64 0]) ?_ 7 _ rfl; (with_reducible repeat (first | refine blk_drewN ?_ _ | refine blk_drew ?_ | refine blk_alloc ?_ _)); refine blk_put (cs := #[.int .i64 (wrap64 (Int.tmod (IntKind.u64.wrap (a0_0)) 3)), .int .i64 (Go.bits .and .i64 a0_1 7), .int .i64 0, .bool false, .string (⟨#[]⟩ : ByteArray), .int .i64 0, .int .i64 0, .int .i64 0]) ?_ 6 _ rfl; (with_reducible repeat (first | refine blk_drewN ?_ _ | refine blk_drew ?_ | refine blk_alloc ?_ _)); refine blk_put (cs := #[.int .i64 (wrap64 (Int.tmod (IntKind.u64.wrap (a0_0)) 3)), .int .i64 (Go.bits .and .i64 a0_1 7), .int .i64 0, .bool false, .string (⟨#[]⟩ : ByteArray), .int .i64 0, .int .i64 0, .int .i64 0]) ?_ 5 _ rfl; (with_reducible repeat (first | refine blk_drewN ?_ _ | refine blk_drew ?_ | refine blk_alloc ?_ _)); refine blk_put (cs := #[.int .i64 (wrap64 (Int.tmod (IntKind.u64.wrap (a0_0)) 3)), .int .i64 (Go.bits .and .i64 a0_1 7), .int .i64 0, .bool false, .string (⟨#[]⟩ : ByteArray), .int .i64 0, .int .i64 0, .int .i64 0]) ?_ 4 _ rfl; (with_reducible repeat (first | refine blk_drewN ?_ _ | refine blk_drew ?_ | refine blk_alloc ?_ _)); refine blk_put (cs := #[.int .i64 (wrap64 (Int.tmod (IntKind.u64.wrap (a0_0)) 3)), .int .i64 (Go.bits .and .i64 a0_1 7), .int .i64 0, .bool false, .string (⟨#[]⟩ : ByteArray), .int .i64 0, .int .i64 0, .int .i64 0]) ?_ 3 _ rfl; (with_reducible repeat (first | refine blk_drewN ?_ _ | refine blk_drew ?_ | refine blk_alloc ?_ _)); refine blk_put (cs := #[.int .i64 (wrap64 (Int.tmod (IntKind.u64.wrap (a0_0)) 3)), .int .i64 (Go.bits .and .i64 a0_1 7), .int .i64 0, .bool false, .string (⟨#[]⟩ : ByteArray), .int .i64 0, .int .i64 0, .int .i64 0]) ?_ 2 _ rfl; (with_reducible repeat (first | refine blk_drewN ?_ _ | refine blk_drew ?_ | refine blk_alloc ?_ _)); refine blk_put (cs := #[.int .i64 (wrap64 (Int.tmod (IntKind.u64.wrap (a0_0)) 3)), .int .i64 0, .int .i64 0, .bool false, .string (⟨#[]⟩ : ByteArray), .int .i64 0, .int .i64 0, .int .i64 0]) ?_ 1 _ rfl; (with_reducible repeat (first | refine blk_drewN ?_ _ | refine blk_drew ?_ | refine blk_alloc ?_ _)); refine blk_put (cs := #[.int .i64 0, .int .i64 0, .int .i64 0, .bool false, .string (⟨#[]⟩ : ByteArray), .int .i64 0, .int .i64 0, .int .i64 0]) ?_ 0 _ rfl; (with_reducible repeat (first | refine blk_drewN ?_ _ | refine blk_drew ?_ | refine blk_alloc ?_ _)); exact BK315.out⟩, (bl_ HB)⟩
  case rest =>
    clear HC3
    try clear c1
    try clear c2
    try clear p2
    try clear c3
    try clear p6
    try clear c16
    try clear c17
    try clear c18
    try clear c20
    try clear c20b0
    try clear c20b1
    try clear c21
    try clear c22
    try clear hcz19_0
    try clear hcz19_1
    try clear hcz19_2
    try clear hcz19_3
    try clear hcz19_4
    try clear hcz19_5
    try clear hcz19_6
    try clear hcz19_7
    try clear hcz23_0
    try clear hcz23_1
    try clear hcz23_2
    try clear hcz23_3
    try clear hcz23_4
    try clear hcz23_5
    try clear hcz23_6
    try clear hcz23_7
    try clear hfz19_0
    try clear hfz19_1
    try clear hfz19_2
    try clear hfz19_3
    try clear hfz19_4
    try clear hfz19_5
    try clear hfz19_6
    try clear hfz19_7
    try clear hfz23_0
    try clear hfz23_1
    try clear hfz23_2
    try clear hfz23_3
    try clear hfz23_4
    try clear hfz23_5
    try clear hfz23_6
    try clear hfz23_7
    obtain ⟨kq, x316001_2, HA, HJ2, BK312, BK313, BK315, HB⟩ := hcut
    cases kq with
    | zero => exact absurd HA.out (by simp [florinlaw04_Ask_Prec.j0])
    | succ kj2 =>
      have H := HA.out
      clear HA
      simp only [florinlaw04_Ask_Prec.j0] at H
      by_cases c24 : (wrap64 (Int.tmod (IntKind.u64.wrap (a0_0)) 3)) = 2
      · rw [if_pos c24] at H
        have c24b0 : ((wrap64 (Int.tmod (IntKind.u64.wrap (a0_0)) 3)) == 2) = true := beq_iff_eq.mpr c24
        have c24b1 : ((wrap64 (Int.tmod (IntKind.u64.wrap (a0_0)) 3)) != 2) = false := bne_eq_false_iff_eq.mpr c24
        clear c24
        replace H := Option.bind_eq_some_iff.mp H
        obtain ⟨t316, A250, H⟩ := H
        replace H : ((dec_Made.f kj2 false t316 (wrap64 ((Int.tmod a0_6 4) - 3))).bind fun bt317 => (some ((wrap64 (Int.tmod (IntKind.u64.wrap (a0_0)) 3)), x316001_2, wrap64 (x316001_2 + (Go.bits .and .i64 a0_2 7)), bt317.1, bt317.2.1, bt317.2.2, t314, (Go.bits .and .i64 a0_4 7)))) = some (r1, r2, r3, r4, r5, r6, r7, r8) := H
        have A25 := Aside0.mk A250
        clear A250
        replace H := Option.bind_eq_some_iff.mp H
        obtain ⟨⟨t317, t318, t319⟩, A260, H⟩ := H
        replace H : (some ((wrap64 (Int.tmod (IntKind.u64.wrap (a0_0)) 3)), x316001_2, wrap64 (x316001_2 + (Go.bits .and .i64 a0_2 7)), t317, t318, t319, t314, (Go.bits .and .i64 a0_4 7))) = some (r1, r2, r3, r4, r5, r6, r7, r8) := H
        have A26 := Aside0.mk A260
        clear A260
        simp only [Option.some.injEq, Prod.mk.injEq] at H
        obtain ⟨rfl, rfl, rfl, rfl, rfl, rfl, rfl, rfl⟩ := H
        have hnb27 := NB315_312.out
        have hnc27 := NB312_315.out
        have hnb28 := NB315_313.out
        have hnc28 := NB313_315.out
        obtain ⟨hcz29_0, hcz29_1, hcz29_2, hcz29_3, hcz29_4, hcz29_5, hcz29_6, hcz29_7, hfz29_0, hfz29_1, hfz29_2, hfz29_3, hfz29_4, hfz29_5, hfz29_6, hfz29_7⟩ := bo8_ BK315
        have hnb30 := NB312_313.out
        have hnc30 := NB313_312.out
        obtain ⟨hcz31_0, hcz31_1, hcz31_2, hcz31_3, hcz31_4, hcz31_5, hcz31_6, hfz31_0, hfz31_1, hfz31_2, hfz31_3, hfz31_4, hfz31_5, hfz31_6⟩ := bo7_ BK312
        try go_wp2
        have n0_ : Aside0 ((wc.setCell ⟨gb315, 2, none⟩ (.int .i64 (wrap64 (x316001_2 + (Go.bits .and .i64 a0_2 7))))).heap[gb312]? = _) := bf_ BK312
        have n1_ : Aside0 ((wc.setCell ⟨gb315, 2, none⟩ (.int .i64 (wrap64 (x316001_2 + (Go.bits .and .i64 a0_2 7))))).heap[gb313]? = _) := bf_ BK313
        have n2_ : Aside0 ((wc.setCell ⟨gb315, 2, none⟩ (.int .i64 (wrap64 (x316001_2 + (Go.bits .and .i64 a0_2 7))))).heap[gb315]? = some (.cells #[.int .i64 (wrap64 (Int.tmod (IntKind.u64.wrap (a0_0)) 3)), .int .i64 x316001_2, .int .i64 (wrap64 (x316001_2 + (Go.bits .and .i64 a0_2 7))), .bool false, .string (⟨#[]⟩ : ByteArray), .int .i64 0, .int .i64 t314, .int .i64 (Go.bits .and .i64 a0_4 7)] 32 (0, 0))) := ⟨by (with_reducible repeat (first | refine blk_drewN ?_ _ | refine blk_drew ?_ | refine blk_alloc ?_ _)); refine blk_put (cs := #[.int .i64 (wrap64 (Int.tmod (IntKind.u64.wrap (a0_0)) 3)), .int .i64 x316001_2, .int .i64 0, .bool false, .string (⟨#[]⟩ : ByteArray), .int .i64 0, .int .i64 t314, .int .i64 (Go.bits .and .i64 a0_4 7)]) ?_ 2 _ rfl; (with_reducible repeat (first | refine blk_drewN ?_ _ | refine blk_drew ?_ | refine blk_alloc ?_ _)); exact BK315.out⟩
        have n3_ : Aside0 (Below w.heap.size w (wc.setCell ⟨gb315, 2, none⟩ (.int .i64 (wrap64 (x316001_2 + (Go.bits .and .i64 a0_2 7)))))) := (bl_ HB)
        (try clear BK312)
        (try clear BK313)
        (try clear BK315)
        (try clear HB)
        generalize (wc.setCell ⟨gb315, 2, none⟩ (.int .i64 (wrap64 (x316001_2 + (Go.bits .and .i64 a0_2 7))))) = w32 at n0_ n1_ n2_ n3_ ⊢
        have BK312 := n0_
        have BK313 := n1_
        have BK315 := n2_
        have HB := n3_
        clear n0_ n1_ n2_ n3_
        replace BK312 := Aside0.mk (blk_drew BK312.out)
        replace BK313 := Aside0.mk (blk_drew BK313.out)
        replace BK315 := Aside0.mk (blk_drew BK315.out)
        replace HB := Aside0.mk (below_drew1 HB.out)
        refine start_ (n := 12) (S := fun w' => w'.cell? ⟨gb312, 0, none⟩ = some (.int .i64 a0_0) ∧ w'.cell? ⟨gb312, 1, none⟩ = some (.int .i64 a0_1) ∧ w'.cell? ⟨gb312, 2, none⟩ = some (.int .i64 a0_2) ∧ w'.cell? ⟨gb312, 3, none⟩ = some (.int .i64 a0_3) ∧ w'.cell? ⟨gb312, 4, none⟩ = some (.int .i64 a0_4) ∧ w'.cell? ⟨gb312, 5, none⟩ = some (.int .i64 a0_5) ∧ w'.cell? ⟨gb312, 6, none⟩ = some (.int .i64 a0_6)) (ds := []) #[false, false, false, false, false, false, false, false, false, false, false, false] (by kernel_rfl) rfl rfl ⟨bc_ BK312 0, bc_ BK312 1, bc_ BK312 2, bc_ BK312 3, bc_ BK312 4, bc_ BK312 5, bc_ BK312 6⟩ (fun hHeld => ?_); refine with_tabW florinlaw04_Ask_Prec.tab6 florinlaw04_Ask_Prec.bits6 (fun HT_ HW_ => ?_)
        generalize w32.drew = w33 at BK312 BK313 BK315 HB hHeld ⊢
        refine pu_ 0 36 (bm_ 12 1) HT_ ?_
        refine pu_ 5 41 (bm_ 12 33) HT_ ?_
        refine tk_ 1 37 (bm_ 12 35) HT_ HW_ hHeld rfl (by rintro w' ⟨s0, s1, s2, s3, s4, s5, s6⟩; go_simp; with_reducible rfl) ?_
        refine pu_ 2 38 (bm_ 12 39) HT_ ?_
        refine pu_ 3 39 (bm_ 12 47) HT_ ?_
        refine tk_ 6 42 (bm_ 12 111) HT_ HW_ hHeld rfl (by rintro w' ⟨s0, s1, s2, s3, s4, s5, s6⟩; go_simp; with_reducible rfl) ?_
        refine pu_ 7 43 (bm_ 12 239) HT_ ?_
        refine pu_ 8 44 (bm_ 12 495) HT_ ?_
        refine one_ (i := 4) (N := some 40) (bm_ 12 511) rfl rfl (one_of HT_.out (by kernel_rfl)) (by decide) (fun K hK => ?_)
        refine gs_ Tryd.func38 #[.int .i64 (wrap64 (1 + (Go.bits .and .i64 a0_5 65535)))] ?_
        with_reducible refine (num_Of.calls kj2 (wrap64 (1 + (Go.bits .and .i64 a0_5 65535))) t316 _ A25.out).mono ?_
        rintro e w34 ⟨rfl, hb⟩
        refine ⟨_, rfl, ?_⟩
        replace BK312 := bb_ BK312 hb
        replace BK313 := bb_ BK313 hb
        replace BK315 := bb_ BK315 hb
        replace HB := Aside0.mk (below_step (bl_ HB).out hb)
        (try clear hb)
        (try clear hb2)
        (try clear hk)
        (try clear hi)
        refine hK.out _ _ ⟨bc_ BK312 0, bc_ BK312 1, bc_ BK312 2, bc_ BK312 3, bc_ BK312 4, bc_ BK312 5, bc_ BK312 6⟩ (fun hHeld => ?_)
        clear hK K
        refine nm_ 40 ?_
        refine one_ (i := 9) (N := some 45) (bm_ 12 1023) rfl rfl (one_of HT_.out (by kernel_rfl)) (by decide) (fun K hK => ?_)
        refine gs_ Tryd.func12 #[.bool false, .string t316, .int .i64 (wrap64 ((Int.tmod a0_6 4) - 3))] ?_
        with_reducible refine (dec_Made.calls kj2 false t316 (wrap64 ((Int.tmod a0_6 4) - 3)) t317 t318 t319 _ A26.out).mono ?_
        rintro e w35 ⟨rfl, hb⟩
        refine ⟨_, rfl, ?_⟩
        replace BK312 := bb_ BK312 hb
        replace BK313 := bb_ BK313 hb
        replace BK315 := bb_ BK315 hb
        replace HB := Aside0.mk (below_step (bl_ HB).out hb)
        (try clear hb)
        (try clear hb2)
        (try clear hk)
        (try clear hi)
        refine hK.out _ _ ⟨bc_ BK312 0, bc_ BK312 1, bc_ BK312 2, bc_ BK312 3, bc_ BK312 4, bc_ BK312 5, bc_ BK312 6⟩ (fun hHeld => ?_)
        clear hK K
        refine nm_ 45 ?_
        refine pu_ 10 46 (bm_ 12 2047) HT_ ?_
        refine one_ (i := 11) (N := none) (bm_ 12 4095) rfl rfl (one_of HT_.out (by kernel_rfl)) (by decide) (fun K hK => ?_)
        have hs36 : w35.cell? ⟨gb315, 3, none⟩ = some (.bool false) := bc_ BK315 3
        have hfs36 := blk_frozen BK315.out 3
        have hns36_0 := NB312_315.out
        have hns36_1 := NB313_315.out
        have hms36_0 := NB315_312.out
        have hms36_1 := NB315_313.out
        have hs37 : w35.cell? ⟨gb315, 4, none⟩ = some (.string (⟨#[]⟩ : ByteArray)) := bc_ BK315 4
        have hfs37 := blk_frozen BK315.out 4
        have hns37_0 := NB312_315.out
        have hns37_1 := NB313_315.out
        have hms37_0 := NB315_312.out
        have hms37_1 := NB315_313.out
        have hs38 : w35.cell? ⟨gb315, 5, none⟩ = some (.int .i64 0) := bc_ BK315 5
        have hfs38 := blk_frozen BK315.out 5
        have hns38_0 := NB312_315.out
        have hns38_1 := NB313_315.out
        have hms38_0 := NB315_312.out
        have hms38_1 := NB315_313.out
        refine skip_ (w1 := ?_) (by rfl) rfl ?_ ?_
        rotate_left
        · go_simp
          rfl
        refine hK.out _ _ ⟨((cell_far (p := ⟨gb315, _, none⟩) NB312_315.out _).trans (((cell_far (p := ⟨gb315, _, none⟩) NB312_315.out _).trans (((cell_far (p := ⟨gb315, _, none⟩) NB312_315.out _).trans (hHeld.1)))))), ((cell_far (p := ⟨gb315, _, none⟩) NB312_315.out _).trans (((cell_far (p := ⟨gb315, _, none⟩) NB312_315.out _).trans (((cell_far (p := ⟨gb315, _, none⟩) NB312_315.out _).trans (hHeld.2.1)))))), ((cell_far (p := ⟨gb315, _, none⟩) NB312_315.out _).trans (((cell_far (p := ⟨gb315, _, none⟩) NB312_315.out _).trans (((cell_far (p := ⟨gb315, _, none⟩) NB312_315.out _).trans (hHeld.2.2.1)))))), ((cell_far (p := ⟨gb315, _, none⟩) NB312_315.out _).trans (((cell_far (p := ⟨gb315, _, none⟩) NB312_315.out _).trans (((cell_far (p := ⟨gb315, _, none⟩) NB312_315.out _).trans (hHeld.2.2.2.1)))))), ((cell_far (p := ⟨gb315, _, none⟩) NB312_315.out _).trans (((cell_far (p := ⟨gb315, _, none⟩) NB312_315.out _).trans (((cell_far (p := ⟨gb315, _, none⟩) NB312_315.out _).trans (hHeld.2.2.2.2.1)))))), ((cell_far (p := ⟨gb315, _, none⟩) NB312_315.out _).trans (((cell_far (p := ⟨gb315, _, none⟩) NB312_315.out _).trans (((cell_far (p := ⟨gb315, _, none⟩) NB312_315.out _).trans (hHeld.2.2.2.2.2.1)))))), ((cell_far (p := ⟨gb315, _, none⟩) NB312_315.out _).trans (((cell_far (p := ⟨gb315, _, none⟩) NB312_315.out _).trans (((cell_far (p := ⟨gb315, _, none⟩) NB312_315.out _).trans (hHeld.2.2.2.2.2.2))))))⟩ (fun hHeld => ?_)
        clear hK K
        refine done_ (done_of HT_.out (by kernel_rfl)) ?_
        obtain ⟨hcz39_0, hcz39_1, hcz39_2, hcz39_3, hcz39_4, hcz39_5, hcz39_6, hcz39_7, hfz39_0, hfz39_1, hfz39_2, hfz39_3, hfz39_4, hfz39_5, hfz39_6, hfz39_7⟩ := bo8_ BK315
        obtain ⟨hcz40_0, hcz40_1, hcz40_2, hcz40_3, hcz40_4, hcz40_5, hcz40_6, hcz40_7, hfz40_0, hfz40_1, hfz40_2, hfz40_3, hfz40_4, hfz40_5, hfz40_6, hfz40_7⟩ := bo8_ BK313
        try go_wp2
        refine bodyPost_ret (results_cell_row rfl _ _ gb313 32 #[.int .i64 (wrap64 (Int.tmod (IntKind.u64.wrap (a0_0)) 3)), .int .i64 x316001_2, .int .i64 (wrap64 (x316001_2 + (Go.bits .and .i64 a0_2 7))), .bool t317, .string t318, .int .i64 t319, .int .i64 t314, .int .i64 (Go.bits .and .i64 a0_4 7)] (0, 0) _ rfl (by (with_reducible repeat (first | refine blk_drewN ?_ _ | refine blk_drew ?_ | refine blk_alloc ?_ _)); refine blk_put (cs := #[.int .i64 (wrap64 (Int.tmod (IntKind.u64.wrap (a0_0)) 3)), .int .i64 x316001_2, .int .i64 (wrap64 (x316001_2 + (Go.bits .and .i64 a0_2 7))), .bool t317, .string t318, .int .i64 t319, .int .i64 t314, .int .i64 0]) ?_ 7 _ rfl; (with_reducible repeat (first | refine blk_drewN ?_ _ | refine blk_drew ?_ | refine blk_alloc ?_ _)); refine blk_put (cs := #[.int .i64 (wrap64 (Int.tmod (IntKind.u64.wrap (a0_0)) 3)), .int .i64 x316001_2, .int .i64 (wrap64 (x316001_2 + (Go.bits .and .i64 a0_2 7))), .bool t317, .string t318, .int .i64 t319, .int .i64 0, .int .i64 0]) ?_ 6 _ rfl; (with_reducible repeat (first | refine blk_drewN ?_ _ | refine blk_drew ?_ | refine blk_alloc ?_ _)); refine blk_put (cs := #[.int .i64 (wrap64 (Int.tmod (IntKind.u64.wrap (a0_0)) 3)), .int .i64 x316001_2, .int .i64 (wrap64 (x316001_2 + (Go.bits .and .i64 a0_2 7))), .bool t317, .string t318, .int .i64 0, .int .i64 0, .int .i64 0]) ?_ 5 _ rfl; (with_reducible repeat (first | refine blk_drewN ?_ _ | refine blk_drew ?_ | refine blk_alloc ?_ _)); refine blk_put (cs := #[.int .i64 (wrap64 (Int.tmod (IntKind.u64.wrap (a0_0)) 3)), .int .i64 x316001_2, .int .i64 (wrap64 (x316001_2 + (Go.bits .and .i64 a0_2 7))), .bool t317, .string (⟨#[]⟩ : ByteArray), .int .i64 0, .int .i64 0, .int .i64 0]) ?_ 4 _ rfl; (with_reducible repeat (first | refine blk_drewN ?_ _ | refine blk_drew ?_ | refine blk_alloc ?_ _)); refine blk_put (cs := #[.int .i64 (wrap64 (Int.tmod (IntKind.u64.wrap (a0_0)) 3)), .int .i64 x316001_2, .int .i64 (wrap64 (x316001_2 + (Go.bits .and .i64 a0_2 7))), .bool false, .string (⟨#[]⟩ : ByteArray), .int .i64 0, .int .i64 0, .int .i64 0]) ?_ 3 _ rfl; (with_reducible repeat (first | refine blk_drewN ?_ _ | refine blk_drew ?_ | refine blk_alloc ?_ _)); refine blk_put (cs := #[.int .i64 (wrap64 (Int.tmod (IntKind.u64.wrap (a0_0)) 3)), .int .i64 x316001_2, .int .i64 0, .bool false, .string (⟨#[]⟩ : ByteArray), .int .i64 0, .int .i64 0, .int .i64 0]) ?_ 2 _ rfl; (with_reducible repeat (first | refine blk_drewN ?_ _ | refine blk_drew ?_ | refine blk_alloc ?_ _)); refine blk_put (cs := #[.int .i64 (wrap64 (Int.tmod (IntKind.u64.wrap (a0_0)) 3)), .int .i64 0, .int .i64 0, .bool false, .string (⟨#[]⟩ : ByteArray), .int .i64 0, .int .i64 0, .int .i64 0]) ?_ 1 _ rfl; (with_reducible repeat (first | refine blk_drewN ?_ _ | refine blk_drew ?_ | refine blk_alloc ?_ _)); refine blk_put (cs := #[.int .i64 0, .int .i64 0, .int .i64 0, .bool false, .string (⟨#[]⟩ : ByteArray), .int .i64 0, .int .i64 0, .int .i64 0]) ?_ 0 _ rfl; (with_reducible repeat (first | refine blk_drewN ?_ _ | refine blk_drew ?_ | refine blk_alloc ?_ _)); refine blk_far ?_ NB313_315.out _; (with_reducible repeat (first | refine blk_drewN ?_ _ | refine blk_drew ?_ | refine blk_alloc ?_ _)); refine blk_far ?_ NB313_315.out _; (with_reducible repeat (first | refine blk_drewN ?_ _ | refine blk_drew ?_ | refine blk_alloc ?_ _)); refine blk_far ?_ NB313_315.out _; (with_reducible repeat (first | refine blk_drewN ?_ _ | refine blk_drew ?_ | refine blk_alloc ?_ _)); exact BK313.out) Tryd.underlying32 rfl (by kernel_rfl)) rfl ?_
        exact ⟨ew_, (bl_ HB).out⟩
      · rw [if_neg c24] at H
        have c24b0 : ((wrap64 (Int.tmod (IntKind.u64.wrap (a0_0)) 3)) == 2) = false := beq_eq_false_iff_ne.mpr c24
        have c24b1 : ((wrap64 (Int.tmod (IntKind.u64.wrap (a0_0)) 3)) != 2) = true := bne_iff_ne.mpr c24
        simp only [Option.some.injEq, Prod.mk.injEq] at H
        obtain ⟨rfl, rfl, rfl, rfl, rfl, rfl, rfl, rfl⟩ := H
        have hnb41 := NB315_312.out
        have hnc41 := NB312_315.out
        have hnb42 := NB315_313.out
        have hnc42 := NB313_315.out
        obtain ⟨hcz43_0, hcz43_1, hcz43_2, hcz43_3, hcz43_4, hcz43_5, hcz43_6, hcz43_7, hfz43_0, hfz43_1, hfz43_2, hfz43_3, hfz43_4, hfz43_5, hfz43_6, hfz43_7⟩ := bo8_ BK315
        have hnb44 := NB312_313.out
        have hnc44 := NB313_312.out
        obtain ⟨hcz45_0, hcz45_1, hcz45_2, hcz45_3, hcz45_4, hcz45_5, hcz45_6, hfz45_0, hfz45_1, hfz45_2, hfz45_3, hfz45_4, hfz45_5, hfz45_6⟩ := bo7_ BK312
        obtain ⟨hcz46_0, hcz46_1, hcz46_2, hcz46_3, hcz46_4, hcz46_5, hcz46_6, hcz46_7, hfz46_0, hfz46_1, hfz46_2, hfz46_3, hfz46_4, hfz46_5, hfz46_6, hfz46_7⟩ := bo8_ BK313
        go_wp2
        refine bodyPost_ret (results_cell_row rfl _ _ gb313 32 #[.int .i64 (wrap64 (Int.tmod (IntKind.u64.wrap (a0_0)) 3)), .int .i64 x316001_2, .int .i64 (wrap64 (x316001_2 + (Go.bits .and .i64 a0_2 7))), .bool false, .string (⟨#[]⟩ : ByteArray), .int .i64 0, .int .i64 t314, .int .i64 (Go.bits .and .i64 a0_4 7)] (0, 0) _ rfl (by (with_reducible repeat (first | refine blk_drewN ?_ _ | refine blk_drew ?_ | refine blk_alloc ?_ _)); refine blk_put (cs := #[.int .i64 (wrap64 (Int.tmod (IntKind.u64.wrap (a0_0)) 3)), .int .i64 x316001_2, .int .i64 (wrap64 (x316001_2 + (Go.bits .and .i64 a0_2 7))), .bool false, .string (⟨#[]⟩ : ByteArray), .int .i64 0, .int .i64 t314, .int .i64 0]) ?_ 7 _ rfl; (with_reducible repeat (first | refine blk_drewN ?_ _ | refine blk_drew ?_ | refine blk_alloc ?_ _)); refine blk_put (cs := #[.int .i64 (wrap64 (Int.tmod (IntKind.u64.wrap (a0_0)) 3)), .int .i64 x316001_2, .int .i64 (wrap64 (x316001_2 + (Go.bits .and .i64 a0_2 7))), .bool false, .string (⟨#[]⟩ : ByteArray), .int .i64 0, .int .i64 0, .int .i64 0]) ?_ 6 _ rfl; (with_reducible repeat (first | refine blk_drewN ?_ _ | refine blk_drew ?_ | refine blk_alloc ?_ _)); refine blk_put (cs := #[.int .i64 (wrap64 (Int.tmod (IntKind.u64.wrap (a0_0)) 3)), .int .i64 x316001_2, .int .i64 (wrap64 (x316001_2 + (Go.bits .and .i64 a0_2 7))), .bool false, .string (⟨#[]⟩ : ByteArray), .int .i64 0, .int .i64 0, .int .i64 0]) ?_ 5 _ rfl; (with_reducible repeat (first | refine blk_drewN ?_ _ | refine blk_drew ?_ | refine blk_alloc ?_ _)); refine blk_put (cs := #[.int .i64 (wrap64 (Int.tmod (IntKind.u64.wrap (a0_0)) 3)), .int .i64 x316001_2, .int .i64 (wrap64 (x316001_2 + (Go.bits .and .i64 a0_2 7))), .bool false, .string (⟨#[]⟩ : ByteArray), .int .i64 0, .int .i64 0, .int .i64 0]) ?_ 4 _ rfl; (with_reducible repeat (first | refine blk_drewN ?_ _ | refine blk_drew ?_ | refine blk_alloc ?_ _)); refine blk_put (cs := #[.int .i64 (wrap64 (Int.tmod (IntKind.u64.wrap (a0_0)) 3)), .int .i64 x316001_2, .int .i64 (wrap64 (x316001_2 + (Go.bits .and .i64 a0_2 7))), .bool false, .string (⟨#[]⟩ : ByteArray), .int .i64 0, .int .i64 0, .int .i64 0]) ?_ 3 _ rfl; (with_reducible repeat (first | refine blk_drewN ?_ _ | refine blk_drew ?_ | refine blk_alloc ?_ _)); refine blk_put (cs := #[.int .i64 (wrap64 (Int.tmod (IntKind.u64.wrap (a0_0)) 3)), .int .i64 x316001_2, .int .i64 0, .bool false, .string (⟨#[]⟩ : ByteArray), .int .i64 0, .int .i64 0, .int .i64 0]) ?_ 2 _ rfl; (with_reducible repeat (first | refine blk_drewN ?_ _ | refine blk_drew ?_ | refine blk_alloc ?_ _)); refine blk_put (cs := #[.int .i64 (wrap64 (Int.tmod (IntKind.u64.wrap (a0_0)) 3)), .int .i64 0, .int .i64 0, .bool false, .string (⟨#[]⟩ : ByteArray), .int .i64 0, .int .i64 0, .int .i64 0]) ?_ 1 _ rfl; (with_reducible repeat (first | refine blk_drewN ?_ _ | refine blk_drew ?_ | refine blk_alloc ?_ _)); refine blk_put (cs := #[.int .i64 0, .int .i64 0, .int .i64 0, .bool false, .string (⟨#[]⟩ : ByteArray), .int .i64 0, .int .i64 0, .int .i64 0]) ?_ 0 _ rfl; (with_reducible repeat (first | refine blk_drewN ?_ _ | refine blk_drew ?_ | refine blk_alloc ?_ _)); refine blk_far ?_ NB313_315.out _; (with_reducible repeat (first | refine blk_drewN ?_ _ | refine blk_drew ?_ | refine blk_alloc ?_ _)); exact BK313.out) Tryd.underlying32 rfl (by kernel_rfl)) rfl ?_
        exact ⟨ew_, (bl_ HB).out⟩

/-! ### florinlaw04_trimEnd: function 20 -/
def florinlaw04_trimEnd.l0 : Nat → ByteArray → Option (ByteArray)
  | 0, _ => none
  | k + 1, x0 => if (x0.size : Int) > 0 then (if 0 ≤ (wrap64 ((x0.size : Int) - 1)) then (if (wrap64 ((x0.size : Int) - 1)) < (x0.size : Int) then (if (bt x0 (wrap64 ((x0.size : Int) - 1))) = 48 then (if (wrap64 ((x0.size : Int) - 1)) ≤ (x0.size : Int) then (florinlaw04_trimEnd.l0 k (x0.extract 0 ((wrap64 ((x0.size : Int) - 1)) : Int).toNat)) else (none)) else (some x0)) else (none)) else (none)) else (some x0)
def florinlaw04_trimEnd.f (k : Nat) (a0 : ByteArray) : Option (ByteArray) := florinlaw04_trimEnd.l0 k a0
theorem florinlaw04_trimEnd.mono_l : ∀ k, (∀ y0, LeO (florinlaw04_trimEnd.l0 k y0) (florinlaw04_trimEnd.l0 (k + 1) y0))
  | 0 => fun _ r h => by simp [florinlaw04_trimEnd.l0] at h
  | k + 1 => by
    have ih0 := florinlaw04_trimEnd.mono_l k
    · intro y0
      unfold florinlaw04_trimEnd.l0
      repeat' first
      | (with_reducible exact ih0 _)
      | (with_reducible exact LeO.refl _)
      | (with_reducible exact LeO.none _)
      | (with_reducible refine LeO.ite ?_ ?_)
      | (with_reducible refine LeO.bind ?_ (fun _ => ?_))
      | exact ih0 _
      | exact LeO.none _
      | refine LeO.ite ?_ ?_
      | refine LeO.bind ?_ (fun _ => ?_)
theorem florinlaw04_trimEnd.mono : ∀ a0 k, LeO (florinlaw04_trimEnd.f k a0) (florinlaw04_trimEnd.f (k + 1) a0) := by
  intro a0 k
  have ih0 := florinlaw04_trimEnd.mono_l k
  unfold florinlaw04_trimEnd.f
  repeat' first
      | (with_reducible exact ih0 _)
      | (with_reducible exact LeO.refl _)
      | (with_reducible exact LeO.none _)
      | (with_reducible refine LeO.ite ?_ ?_)
      | (with_reducible refine LeO.bind ?_ (fun _ => ?_))
      | exact ih0 _
      | exact LeO.none _
      | refine LeO.ite ?_ ?_
      | refine LeO.bind ?_ (fun _ => ?_)
set_option maxHeartbeats 8000000 in
set_option maxRecDepth 100000 in
theorem florinlaw04_trimEnd.calls (k : Nat) (a0 : ByteArray) (r : ByteArray) (w : World) (h : florinlaw04_trimEnd.f k a0 = some r) :
    Calls Tryd.prog 20 #[.string a0] w fun e w' => e = .returned (.string r) ∧ Drawn0 w w' := by
  have H : (florinlaw04_trimEnd.l0 k a0) = some r := h
  clear h
  have H' := Aside0.mk H
  clear H
  go_enter Tryd.func20, Tryd.ntmps20
  go_wp2
  go_loopg [0] k (fun kq v0 w' => ∃ (x0_1 : ByteArray), v0 = .string x0_1 ∧ Aside0 (florinlaw04_trimEnd.l0 kq x0_1 = some r) ∧ Aside0 (kq ≤ k) ∧ Drawn0 w w')
  case atStart => exact ⟨(a0), eq_, H', ⟨Nat.le_refl _⟩, by repeat (first | exact Drawn0.refl _ | apply Drawn0.step)⟩
  case round =>
    clear H'
    obtain ⟨x0_1, rfl, HA, HK1, ⟨m1, rfl⟩⟩ := hrel
    cases gk with
    | zero => exact absurd HA.out (by simp [florinlaw04_trimEnd.l0])
    | succ k1 =>
      have H := HA.out
      clear HA
      simp only [florinlaw04_trimEnd.l0] at H
      by_cases c2 : (x0_1.size : Int) > 0
      · rw [if_pos c2] at H
        have c2b0 : decide (0 < (x0_1.size : Int)) = true := decide_eq_true c2
        have c2b1 : decide (0 < x0_1.size) = true := decide_eq_true (by omega)
        clear c2
        obtain ⟨ji3, hji3⟩ : ∃ j_ : Int, (wrap64 ((x0_1.size : Int) - 1)) = j_ := ⟨_, rfl⟩
        replace H : (if 0 ≤ (ji3) then (if (ji3) < (x0_1.size : Int) then (if (bt x0_1 (ji3)) = 48 then (if (ji3) ≤ (x0_1.size : Int) then (florinlaw04_trimEnd.l0 k1 (x0_1.extract 0 ((ji3) : Int).toNat)) else (none)) else (some x0_1)) else (none)) else (none)) = some r := by first | (rw [hji3] at H; exact H) | (simp only [hji3] at H ⊢; exact H)
        have hji3w : (IntKind.i64.wrap ((x0_1.size : Int) - 1)) = ji3 := (i64_w _).trans hji3
        by_cases c4 : 0 ≤ (ji3)
        · rw [if_pos c4] at H
          have c4b0 : decide (0 ≤ (ji3)) = true := decide_eq_true c4
          clear c4
          by_cases c5 : (ji3) < (x0_1.size : Int)
          · rw [if_pos c5] at H
            have c5b0 : decide ((ji3) < (x0_1.size : Int)) = true := decide_eq_true c5
            clear c5
            by_cases c7 : (bt x0_1 (ji3)) = 48
            · rw [if_pos c7] at H
              have c7b0 : ((bt x0_1 (ji3)) == 48) = true := beq_iff_eq.mpr c7
              have c7b1 : ((bt x0_1 (ji3)) != 48) = false := bne_eq_false_iff_eq.mpr c7
              clear c7
              have c8b0 := eq_true (of_decide_eq_true (by first | (with_reducible assumption) | assumption) : 0 ≤ (ji3))
              by_cases c9 : (ji3) ≤ (x0_1.size : Int)
              · rw [if_pos c9] at H
                have c9b0 := eq_true c9
                have c9b1 : decide ((ji3) ≤ (x0_1.size : Int)) = true := decide_eq_true c9
                clear c9
                have H' := Aside0.mk H
                clear H
                have p6 : 0 ≤ ((ji3) : Int) := of_decide_eq_true (by first | (with_reducible assumption) | assumption)
                have q6 : (ji3) < (x0_1.size : Int) := of_decide_eq_true (by first | (with_reducible assumption) | assumption)
                have hx6 := bt_at x0_1 (ji3)
                replace p6 := eq_true p6
                replace q6 := eq_true q6
                go_wp2
                go_roundg k1
                case measure => have := HK1.out; omega
                case rel => exact ⟨(x0_1.extract 0 ((ji3) : Int).toNat), (by first | rfl | (simp; done) | (simp only [← hji3] <;> (first | rfl | simp)) | (simp [*]; done)), (by first | exact H' | (rw [hji3]; exact H') | (simp only [hji3]; exact H')), ⟨by have := HK1.out; omega⟩, by repeat (first | exact Drawn0.refl _ | apply Drawn0.step)⟩
              · rw [if_neg c9] at H
                exact absurd H (by simp)
            · rw [if_neg c7] at H
              have c7b0 : ((bt x0_1 (ji3)) == 48) = false := beq_eq_false_iff_ne.mpr c7
              have c7b1 : ((bt x0_1 (ji3)) != 48) = true := bne_iff_ne.mpr c7
              obtain rfl := Option.some.inj H
              have p6 : 0 ≤ ((ji3) : Int) := of_decide_eq_true (by first | (with_reducible assumption) | assumption)
              have q6 : (ji3) < (x0_1.size : Int) := of_decide_eq_true (by first | (with_reducible assumption) | assumption)
              have hx6 := bt_at x0_1 (ji3)
              replace p6 := eq_true p6
              replace q6 := eq_true q6
              go_wp2
              go_ret
              exact ⟨by first | rfl | (simp; done) | (simp only [← hji3] <;> (first | rfl | simp)) | (simp [*]; done), by repeat (first | exact Drawn0.refl _ | apply Drawn0.step)⟩
          · rw [if_neg c5] at H
            exact absurd H (by simp)
        · rw [if_neg c4] at H
          exact absurd H (by simp)
      · rw [if_neg c2] at H
        have c2b0 : decide (0 < (x0_1.size : Int)) = false := decide_eq_false c2
        have c2b1 : decide (0 < x0_1.size) = false := decide_eq_false (by omega)
        clear c2
        obtain rfl := Option.some.inj H
        go_wp2
        go_ret
        exact ⟨by first | rfl | (simp; done) | (simp [*]; done) | (simp; first | exact given_isEmpty _ | exact (given_isEmpty _).symm) | (unfold wrap64; omega) | (congr 1; unfold wrap64; omega), by repeat (first | exact Drawn0.refl _ | apply Drawn0.step)⟩

end Go.Proofs.YthkpmiajcmihjaaDoor.P
