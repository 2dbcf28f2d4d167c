-- written by a program of this session (wip/p2)
import Derived.Test.YtoegmienlhgjnaaDoorPx0
import Derived.Test.YtoegmienlhgjnaaDoorPx2
import Derived.Test.YtoegmienlhgjnaaDoorPx3
import Derived.Test.YtoegmienlhgjnaaDoorPx4
import Derived.Test.YtoegmienlhgjnaaDoorPx13
namespace Go.Proofs.YtoegmienlhgjnaaDoor.P
open Go.RowKit Go.Proofs.YtoegmienlhgjnaaDoorW.PrintWords Go.Proofs.YtoegmienlhgjnaaDoorW.PrintLast Go.Proofs.YtoegmienlhgjnaaDoorW.PrintMore
attribute [local go_sem] max2_int min2_int max_two min_two max_three min_three max_four min_four   -- for this text's walks alone
set_option linter.unusedVariables false
set_option linter.unusedSimpArgs false

/-! ### num_Times: function 46 -/
mutual
def num_Times.j0 : Nat → ByteArray → Int → Bool → Option (ByteArray)
  | 0, _, _, _ => none
  | k + 1, x0, x1, x19 => if x19 = true then (some (⟨#[]⟩ : ByteArray)) else (num_Times.l0 k x0 x1 ([] : List Int) 0 0)
def num_Times.l0 : Nat → ByteArray → Int → List Int → Int → Int → Option (ByteArray)
  | 0, _, _, _, _, _ => none
  | k + 1, x0, x1, x5, x6, x7 => if x7 < (x0.size : Int) then ((num_at.f x0 x7).bind fun t380 => (if x5.length < 140737488355328 then (num_Times.l0 k x0 x1 (x5 ++ [(48 + (Int.tmod (wrap64 ((wrap64 (t380 * x1)) + x6)) 10)) % 256]) (wrap64 (Int.tdiv (wrap64 ((wrap64 (t380 * x1)) + x6)) 10)) (wrap64 (x7 + 1))) else (none))) else (if x6 > 0 then ((num_at.f x0 x7).bind fun t384 => (if x5.length < 140737488355328 then (num_Times.l0 k x0 x1 (x5 ++ [(48 + (Int.tmod (wrap64 ((wrap64 (t384 * x1)) + x6)) 10)) % 256]) (wrap64 (Int.tdiv (wrap64 ((wrap64 (t384 * x1)) + x6)) 10)) (wrap64 (x7 + 1))) else (none))) else ((num_text.f k x5).bind fun t388 => (some t388)))
end
def num_Times.f (k : Nat) (a0 : ByteArray) (a1 : Int) : Option (ByteArray) := (num_Is.f k a0).bind fun t379 => (if t379 = true then (if a1 < 0 then (num_Times.j0 k a0 a1 true) else (num_Times.j0 k a0 a1 (decide (a1 > 1000000000)))) else (num_Times.j0 k a0 a1 true))
theorem num_Times.mono_l : ∀ k, (∀ y0 y1 y2, LeO (num_Times.j0 k y0 y1 y2) (num_Times.j0 (k + 1) y0 y1 y2)) ∧ (∀ y0 y1 y2 y3 y4, LeO (num_Times.l0 k y0 y1 y2 y3 y4) (num_Times.l0 (k + 1) y0 y1 y2 y3 y4))
  | 0 => ⟨fun _ _ _ r h => by simp [num_Times.j0] at h, fun _ _ _ _ _ r h => by simp [num_Times.l0] at h⟩
  | k + 1 => by
    obtain ⟨ih0, ih1⟩ := num_Times.mono_l k
    refine ⟨?_, ?_⟩
    · intro y0 y1 y2
      unfold num_Times.j0
      repeat' first
      | (with_reducible exact ih0 _ _ _)
      | (with_reducible exact ih1 _ _ _ _ _)
      | (with_reducible exact num_Is.mono _ _)
      | (with_reducible exact num_text.mono _ _)
      | (with_reducible exact LeO.refl _)
      | (with_reducible exact LeO.none _)
      | (with_reducible refine LeO.ite ?_ ?_)
      | (with_reducible refine LeO.bind ?_ (fun _ => ?_))
      | exact ih0 _ _ _
      | exact ih1 _ _ _ _ _
      | exact num_Is.mono _ _
      | exact num_text.mono _ _
      | exact LeO.none _
      | refine LeO.ite ?_ ?_
      | refine LeO.bind ?_ (fun _ => ?_)
    · intro y0 y1 y2 y3 y4
      unfold num_Times.l0
      repeat' first
      | (with_reducible exact ih0 _ _ _)
      | (with_reducible exact ih1 _ _ _ _ _)
      | (with_reducible exact num_Is.mono _ _)
      | (with_reducible exact num_text.mono _ _)
      | (with_reducible exact LeO.refl _)
      | (with_reducible exact LeO.none _)
      | (with_reducible refine LeO.ite ?_ ?_)
      | (with_reducible refine LeO.bind ?_ (fun _ => ?_))
      | exact ih0 _ _ _
      | exact ih1 _ _ _ _ _
      | exact num_Is.mono _ _
      | exact num_text.mono _ _
      | exact LeO.none _
      | refine LeO.ite ?_ ?_
      | refine LeO.bind ?_ (fun _ => ?_)
theorem num_Times.mono : ∀ a0 a1 k, LeO (num_Times.f k a0 a1) (num_Times.f (k + 1) a0 a1) := by
  intro a0 a1 k
  obtain ⟨ih0, ih1⟩ := num_Times.mono_l k
  unfold num_Times.f
  repeat' first
      | (with_reducible exact ih0 _ _ _)
      | (with_reducible exact ih1 _ _ _ _ _)
      | (with_reducible exact num_Is.mono _ _)
      | (with_reducible exact num_text.mono _ _)
      | (with_reducible exact LeO.refl _)
      | (with_reducible exact LeO.none _)
      | (with_reducible refine LeO.ite ?_ ?_)
      | (with_reducible refine LeO.bind ?_ (fun _ => ?_))
      | exact ih0 _ _ _
      | exact ih1 _ _ _ _ _
      | exact num_Is.mono _ _
      | exact num_text.mono _ _
      | exact LeO.none _
      | refine LeO.ite ?_ ?_
      | refine LeO.bind ?_ (fun _ => ?_)
set_option maxHeartbeats 8000000 in
set_option maxRecDepth 100000 in
theorem num_Times.calls (k : Nat) (a0 : ByteArray) (a1 : Int) (r : ByteArray) (w : World) (h : num_Times.f k a0 a1 = some r) :
    Calls Tryd.prog 46 #[.string a0, .int .i64 a1] w fun e w' => e = .returned (.string r) ∧ Below w.heap.size w w' := by
  have HB := Aside0.mk (Below.refl w.heap.size w)
  have H : ((num_Is.f k a0).bind fun t379 => (if t379 = true then (if a1 < 0 then (num_Times.j0 k a0 a1 true) else (num_Times.j0 k a0 a1 (decide (a1 > 1000000000)))) else (num_Times.j0 k a0 a1 true))) = some r := h
  clear h
  have HC3 := Aside0.mk H
  clear H
  go_enter Tryd.func46, Tryd.ntmps46
  go_upto_region 1 with (fail)
  go_cut [19] (fun v19 wc => ∃ (kq : Nat) (x19_2 : Bool), v19 = .bool x19_2 ∧ Aside0 (num_Times.j0 kq a0 a1 x19_2 = some r) ∧ Aside0 (kq ≤ k) ∧ Aside0 (Below w.heap.size w wc))
  case first =>
    have H := HC3.out
    clear HC3
    replace H := Option.bind_eq_some_iff.mp H
    obtain ⟨t379, A40, H⟩ := H
    replace H : (if t379 = true then (if a1 < 0 then (num_Times.j0 k a0 a1 true) else (num_Times.j0 k a0 a1 (decide (a1 > 1000000000)))) else (num_Times.j0 k a0 a1 true)) = some r := H
    have A4 := Aside0.mk A40
    clear A40
    by_cases c5 : t379 = true
    · subst c5
      have H1 : (if a1 < 0 then (num_Times.j0 k a0 a1 true) else (num_Times.j0 k a0 a1 (decide (a1 > 1000000000)))) = some r := by rw [if_pos rfl] at H; exact H
      clear H
      have H := H1
      clear H1
      by_cases c6 : a1 < 0
      · rw [if_pos c6] at H
        have c6b0 : decide (a1 < 0) = true := decide_eq_true c6
        clear c6
        (first | rw [c6b0] | (simp only [i64_w, i32_w]; rw [c6b0]) | skip)
        have H' := Aside0.mk H
        clear H
        go_wp2_with (first | ((with_reducible refine gate_callee (f := 55) rfl ?_); refine goesL_ (some 10) rfl rfl Tryd.func55 (by kernel_rfl) rfl #[.string a0] rfl (by (try simp only [List.map_toArray, List.map_cons, List.map_nil]); first | done | rfl | (simp only [List.length_drop, List.length_take]; rfl) | (have z_ : ∀ s_ : ByteArray, s_.size ≤ 9223372036854775807 → -(s_.size : Int) = wrap64 (-(s_.size : Int)) := (fun s_ h_ => by unfold wrap64; omega); rw [← z_ _ (by omega)]; rfl) | (simp only [ByteArray.size_append]; rfl)) ?_; (with_reducible refine (num_Is.calls k a0 true _ A4.out).mono ?_); rintro e w' ⟨rfl, ⟨nd, rfl⟩⟩; refine ⟨_, rfl, ?_⟩))
        go_meet
        case rel => exact ⟨_, (true), eq_, H', ⟨by first | omega | exact Nat.le_refl _⟩, (bl_ HB)⟩
      · rw [if_neg c6] at H
        have c6b0 : decide (a1 < 0) = false := decide_eq_false c6
        clear c6
        (first | rw [c6b0] | (simp only [i64_w, i32_w]; rw [c6b0]) | skip)
        have H' := Aside0.mk H
        clear H
        go_wp2_with (first | ((with_reducible refine gate_callee (f := 55) rfl ?_); refine goesL_ (some 10) rfl rfl Tryd.func55 (by kernel_rfl) rfl #[.string a0] rfl (by (try simp only [List.map_toArray, List.map_cons, List.map_nil]); first | done | rfl | (simp only [List.length_drop, List.length_take]; rfl) | (have z_ : ∀ s_ : ByteArray, s_.size ≤ 9223372036854775807 → -(s_.size : Int) = wrap64 (-(s_.size : Int)) := (fun s_ h_ => by unfold wrap64; omega); rw [← z_ _ (by omega)]; rfl) | (simp only [ByteArray.size_append]; rfl)) ?_; (with_reducible refine (num_Is.calls k a0 true _ A4.out).mono ?_); rintro e w' ⟨rfl, ⟨nd, rfl⟩⟩; refine ⟨_, rfl, ?_⟩))
        go_meet
        case rel => exact ⟨_, (decide (a1 > 1000000000)), eq_, H', ⟨by first | omega | exact Nat.le_refl _⟩, (bl_ HB)⟩
    · replace c5 := Bool.eq_false_iff.mpr c5
      subst c5
      have H1 : (num_Times.j0 k a0 a1 true) = some r := by rw [if_neg (show ¬ (false = true) by decide)] at H; exact H
      clear H
      have H := H1
      clear H1
      have H' := Aside0.mk H
      clear H
      go_wp2_with (first | ((with_reducible refine gate_callee (f := 55) rfl ?_); refine goesL_ (some 10) rfl rfl Tryd.func55 (by kernel_rfl) rfl #[.string a0] rfl (by (try simp only [List.map_toArray, List.map_cons, List.map_nil]); first | done | rfl | (simp only [List.length_drop, List.length_take]; rfl) | (have z_ : ∀ s_ : ByteArray, s_.size ≤ 9223372036854775807 → -(s_.size : Int) = wrap64 (-(s_.size : Int)) := (fun s_ h_ => by unfold wrap64; omega); rw [← z_ _ (by omega)]; rfl) | (simp only [ByteArray.size_append]; rfl)) ?_; (with_reducible refine (num_Is.calls k a0 false _ A4.out).mono ?_); rintro e w' ⟨rfl, ⟨nd, rfl⟩⟩; refine ⟨_, rfl, ?_⟩))
      go_meet
      case rel => exact ⟨_, (true), eq_, H', ⟨by first | omega | exact Nat.le_refl _⟩, (bl_ HB)⟩
  case rest =>
    clear HC3
    try clear p2
    try clear c4
    try clear c5
    try clear c6
    try clear c6b0
    try clear p6
    obtain ⟨kq, x19_2, rfl, HA, HJ2, HB⟩ := hcut
    cases kq with
    | zero => exact absurd HA.out (by simp [num_Times.j0])
    | succ kj2 =>
      have H := HA.out
      clear HA
      simp only [num_Times.j0] at H
      by_cases c7 : x19_2 = true
      · subst c7
        have H1 : (some (⟨#[]⟩ : ByteArray)) = some r := by rw [if_pos rfl] at H; exact H
        clear H
        have H := H1
        clear H1
        obtain rfl := Option.some.inj H
        go_wp2
        go_ret
        exact ⟨by first | rfl | (simp [errW_none, errW_some] <;> rfl) | (simp [*, errW_none, errW_some] <;> first | rfl | exact given_isEmpty _ | exact (given_isEmpty _).symm), by repeat (first | (with_reducible first | exact HB.out | apply below_alloc | apply pw_below_drewN | apply below_drew1) | exact HB.out)⟩
      · replace c7 := Bool.eq_false_iff.mpr c7
        subst c7
        have H1 : (num_Times.l0 kj2 a0 a1 ([] : List Int) 0 0) = some r := by rw [if_neg (show ¬ (false = true) by decide)] at H; exact H
        clear H
        have H := H1
        clear H1
        have H' := Aside0.mk H
        clear H
        go_wp2
        go_loopg [5, 6, 7] kj2 (fun kq v5 v6 v7 w' => ∃ (x5_2 : List Int) (x6_2 : Int) (x7_2 : Int), v6 = .int .i64 x6_2 ∧ v7 = .int .i64 x7_2 ∧ Aside0 (num_Times.l0 kq a0 a1 x5_2 x6_2 x7_2 = some r) ∧ Aside0 (kq ≤ kj2) ∧ Aside0 (Kd.R (Kd.int .u8) 5 w' w.heap.size (fun _ => True) v5 x5_2) ∧ Aside0 (Below w.heap.size w w'))
        case atStart => exact ⟨(([] : List Int)), (0), (0), eq_, eq_, H', ⟨Nat.le_refl _⟩, ⟨by first | exact Kd.R_nil _ _ _ _ _ | exact Kd.N_nil _ _ _ _ _ | exact Kd.V_nil _ _ _ _ _ | exact Kd.Q_nil _ _ _ _ _ | exact Kd.S_nil _ _ _ _ _⟩, (bl_ HB)⟩
        case round =>
          clear H'
          try clear p2
          try clear c4
          try clear c5
          try clear c6
          try clear c6b0
          try clear p6
          try clear c7
          try clear p2
          try clear p6
          obtain ⟨x5_2, x6_2, x7_2, rfl, rfl, HA, HK2, HO_5, HB⟩ := hrel
          cases gk with
          | zero => exact absurd HA.out (by simp [num_Times.l0])
          | succ k2 =>
            have H := HA.out
            clear HA
            simp only [num_Times.l0] at H
            by_cases c8 : x7_2 < (a0.size : Int)
            · rw [if_pos c8] at H
              have c8b0 : decide (x7_2 < (a0.size : Int)) = true := decide_eq_true c8
              clear c8
              replace H := Option.bind_eq_some_iff.mp H
              obtain ⟨t380, A90, H⟩ := H
              replace H : (if x5_2.length < 140737488355328 then (num_Times.l0 k2 a0 a1 (x5_2 ++ [(48 + (Int.tmod (wrap64 ((wrap64 (t380 * a1)) + x6_2)) 10)) % 256]) (wrap64 (Int.tdiv (wrap64 ((wrap64 (t380 * a1)) + x6_2)) 10)) (wrap64 (x7_2 + 1))) else (none)) = some r := H
              have A9 := Aside0.mk A90
              clear A90
              by_cases c10 : x5_2.length < 140737488355328
              · rw [if_pos c10] at H
                have LMc10 := Aside0.mk c10
                clear c10
                obtain ⟨y381, hy381⟩ : ∃ y_ : List Int, y_ = (x5_2 ++ [(48 + (Int.tmod (wrap64 ((wrap64 (t380 * a1)) + x6_2)) 10)) % 256]) := ⟨_, rfl⟩
                replace H : (num_Times.l0 k2 a0 a1 y381 (wrap64 (Int.tdiv (wrap64 ((wrap64 (t380 * a1)) + x6_2)) 10)) (wrap64 (x7_2 + 1))) = some r := by first | (rw [hy381]; with_reducible exact H) | (have H2_ := (Option.bind_some _ _).symm.trans H; rw [hy381]; with_reducible exact H2_) | (have H2_ := (Option.bind_some _ _).symm.trans H; with_reducible exact H2_) | with_reducible exact H | (rw [hy381]; exact H) | exact H
                have Ny381 := Aside0.mk hy381
                clear hy381
                have H' := Aside0.mk H
                clear H
                go_wp2_with (first | ((with_reducible refine gate_callee (f := 64) rfl ?_); refine goesL_ (some 32) rfl rfl Tryd.func64 (by kernel_rfl) rfl #[.string a0, .int .i64 x7_2] rfl (by (try simp only [List.map_toArray, List.map_cons, List.map_nil]); first | done | rfl | (simp only [List.length_drop, List.length_take]; rfl) | (have z_ : ∀ s_ : ByteArray, s_.size ≤ 9223372036854775807 → -(s_.size : Int) = wrap64 (-(s_.size : Int)) := (fun s_ h_ => by unfold wrap64; omega); rw [← z_ _ (by omega)]; rfl) | (simp only [ByteArray.size_append]; rfl)) ?_; (with_reducible refine (num_at.calls a0 x7_2 t380 _ A9.out).mono ?_); rintro e w' ⟨rfl, ⟨nd, rfl⟩⟩; refine ⟨_, rfl, ?_⟩) | ((with_reducible refine gate_builtin (b := .append) (xs := #[.tmp 37, .tmp 42]) rfl ?_); at_builtin; refine Kd.R_append (Kd.int .u8) (w0 := w) w.heap.size rfl (.tmp 37) (.tmp 42) 22 5 (.int .u8 0) 1 rfl Tryd.underlying22 info5 rfl (by decide) (by omega) u5 x5_2 ((48 + (Int.tmod (wrap64 ((wrap64 (t380 * a1)) + x6_2)) 10)) % 256) [.int .u8 ((48 + (Int.tmod (wrap64 ((wrap64 (t380 * a1)) + x6_2)) 10)) % 256)] (fun _ => True) (fun _ => False) rfl rfl ?aP (fun _ hk => hk.elim) ?aF ?aO ?aB ?aS ?aL ?_; (case aP => exact rfl); (case aB => exact (bl_ HB).out); (case aF => exact (fun _ _ => trivial)); (case aO => exact (by (with_reducible repeat (first | apply Kd.R_alloc | apply Kd.R_drewN | apply Kd.R_drew)); exact HO_5.out)); (case aS => exact (below_size (bl_ HB).out)); (case aL => have := LMc10.out; omega); intro v382 w11 ho hb hg hat; rw [← Ny381.out] at ho; have n0_ := Aside0.mk (hb); have n1_ := Aside0.mk (ho); clear HB; clear HO_5; have HB := n0_; have HO383 := n1_; clear n0_ n1_; clear ho hb hg hat))
                go_roundg k2
                case measure => have := HJ2.out; have := HK2.out; omega
                case rel => exact ⟨(y381), (wrap64 (Int.tdiv (wrap64 ((wrap64 (t380 * a1)) + x6_2)) 10)), (wrap64 (x7_2 + 1)), eq_, eq_, H', ⟨by have := HJ2.out; have := HK2.out; omega⟩, ⟨by (with_reducible repeat (first | apply Kd.R_alloc | apply Kd.R_drewN | apply Kd.R_drew)); exact HO383.out⟩, (bl_ HB)⟩
              · rw [if_neg c10] at H
                exact absurd H (by simp)
            · rw [if_neg c8] at H
              have c8b0 : decide (x7_2 < (a0.size : Int)) = false := decide_eq_false c8
              clear c8
              by_cases c12 : x6_2 > 0
              · rw [if_pos c12] at H
                have c12b0 : decide (0 < x6_2) = true := decide_eq_true c12
                clear c12
                replace H := Option.bind_eq_some_iff.mp H
                obtain ⟨t384, A130, H⟩ := H
                replace H : (if x5_2.length < 140737488355328 then (num_Times.l0 k2 a0 a1 (x5_2 ++ [(48 + (Int.tmod (wrap64 ((wrap64 (t384 * a1)) + x6_2)) 10)) % 256]) (wrap64 (Int.tdiv (wrap64 ((wrap64 (t384 * a1)) + x6_2)) 10)) (wrap64 (x7_2 + 1))) else (none)) = some r := H
                have A13 := Aside0.mk A130
                clear A130
                by_cases c14 : x5_2.length < 140737488355328
                · rw [if_pos c14] at H
                  have LMc14 := Aside0.mk c14
                  clear c14
                  obtain ⟨y385, hy385⟩ : ∃ y_ : List Int, y_ = (x5_2 ++ [(48 + (Int.tmod (wrap64 ((wrap64 (t384 * a1)) + x6_2)) 10)) % 256]) := ⟨_, rfl⟩
                  replace H : (num_Times.l0 k2 a0 a1 y385 (wrap64 (Int.tdiv (wrap64 ((wrap64 (t384 * a1)) + x6_2)) 10)) (wrap64 (x7_2 + 1))) = some r := by first | (rw [hy385]; with_reducible exact H) | (have H2_ := (Option.bind_some _ _).symm.trans H; rw [hy385]; with_reducible exact H2_) | (have H2_ := (Option.bind_some _ _).symm.trans H; with_reducible exact H2_) | with_reducible exact H | (rw [hy385]; exact H) | exact H
                  have Ny385 := Aside0.mk hy385
                  clear hy385
                  have H' := Aside0.mk H
                  clear H
                  go_wp2_with (first | ((with_reducible refine gate_callee (f := 64) rfl ?_); refine goesL_ (some 32) rfl rfl Tryd.func64 (by kernel_rfl) rfl #[.string a0, .int .i64 x7_2] rfl (by (try simp only [List.map_toArray, List.map_cons, List.map_nil]); first | done | rfl | (simp only [List.length_drop, List.length_take]; rfl) | (have z_ : ∀ s_ : ByteArray, s_.size ≤ 9223372036854775807 → -(s_.size : Int) = wrap64 (-(s_.size : Int)) := (fun s_ h_ => by unfold wrap64; omega); rw [← z_ _ (by omega)]; rfl) | (simp only [ByteArray.size_append]; rfl)) ?_; (with_reducible refine (num_at.calls a0 x7_2 t384 _ A13.out).mono ?_); rintro e w' ⟨rfl, ⟨nd, rfl⟩⟩; refine ⟨_, rfl, ?_⟩) | ((with_reducible refine gate_builtin (b := .append) (xs := #[.tmp 37, .tmp 42]) rfl ?_); at_builtin; refine Kd.R_append (Kd.int .u8) (w0 := w) w.heap.size rfl (.tmp 37) (.tmp 42) 22 5 (.int .u8 0) 1 rfl Tryd.underlying22 info5 rfl (by decide) (by omega) u5 x5_2 ((48 + (Int.tmod (wrap64 ((wrap64 (t384 * a1)) + x6_2)) 10)) % 256) [.int .u8 ((48 + (Int.tmod (wrap64 ((wrap64 (t384 * a1)) + x6_2)) 10)) % 256)] (fun _ => True) (fun _ => False) rfl rfl ?aP (fun _ hk => hk.elim) ?aF ?aO ?aB ?aS ?aL ?_; (case aP => exact rfl); (case aB => exact (bl_ HB).out); (case aF => exact (fun _ _ => trivial)); (case aO => exact (by (with_reducible repeat (first | apply Kd.R_alloc | apply Kd.R_drewN | apply Kd.R_drew)); exact HO_5.out)); (case aS => exact (below_size (bl_ HB).out)); (case aL => have := LMc14.out; omega); intro v386 w15 ho hb hg hat; rw [← Ny385.out] at ho; have n0_ := Aside0.mk (hb); have n1_ := Aside0.mk (ho); clear HB; clear HO_5; have HB := n0_; have HO387 := n1_; clear n0_ n1_; clear ho hb hg hat))
                  go_roundg k2
                  case measure => have := HJ2.out; have := HK2.out; omega
                  case rel => exact ⟨(y385), (wrap64 (Int.tdiv (wrap64 ((wrap64 (t384 * a1)) + x6_2)) 10)), (wrap64 (x7_2 + 1)), eq_, eq_, H', ⟨by have := HJ2.out; have := HK2.out; omega⟩, ⟨by (with_reducible repeat (first | apply Kd.R_alloc | apply Kd.R_drewN | apply Kd.R_drew)); exact HO387.out⟩, (bl_ HB)⟩
                · rw [if_neg c14] at H
                  exact absurd H (by simp)
              · rw [if_neg c12] at H
                have c12b0 : decide (0 < x6_2) = false := decide_eq_false c12
                clear c12
                replace H := Option.bind_eq_some_iff.mp H
                obtain ⟨t388, A160, H⟩ := H
                replace H : (some t388) = some r := H
                have A16 := Aside0.mk A160
                clear A160
                obtain rfl := Option.some.inj H
                obtain ⟨Ao17, co17, eo17⟩ := Kd.R_slice HO_5.out
                subst eo17
                go_wp2_with (first | ((with_reducible refine gate_callee (f := 49) rfl ?_); refine goesL_ (some 47) rfl rfl Tryd.func49 (by kernel_rfl) rfl #[.slice Ao17 x5_2.length co17] rfl (by (try simp only [List.map_toArray, List.map_cons, List.map_nil]); first | done | rfl | (simp only [List.length_drop, List.length_take]; rfl) | (have z_ : ∀ s_ : ByteArray, s_.size ≤ 9223372036854775807 → -(s_.size : Int) = wrap64 (-(s_.size : Int)) := (fun s_ h_ => by unfold wrap64; omega); rw [← z_ _ (by omega)]; rfl) | (simp only [ByteArray.size_append]; rfl)) ?_; (with_reducible refine (num_text.calls k2 _ _ x5_2 t388 _ ?side1 ?side2 A16.out).mono ?_); (case side1 => repeat (first | exact (Kd.R_reads' HO_5.out).2.2 | (with_reducible refine Kd.C_alloc ?_ _) | (with_reducible refine Kd.C_drewN ?_ _) | (with_reducible refine Kd.C_drew ?_))); (case side2 => exact (Kd.R_reads' HO_5.out).2.1); rintro e w18 ⟨rfl, hb⟩; refine ⟨_, rfl, ?_⟩; have n0_ := Aside0.mk (Kd.R_below (by (with_reducible repeat (first | apply Kd.R_alloc | apply Kd.R_drewN | apply Kd.R_drew)); exact HO_5.out) hb); have n1_ := Aside0.mk (below_step (bl_ HB).out hb); clear HO_5; clear HB; have HO_5 := n0_; have HB := n1_; clear n0_ n1_; (try clear hb); (try clear hb2); (try clear hk); (try clear hi)))
                go_ret
                exact ⟨by first | rfl | (simp [errW_none, errW_some] <;> rfl) | (simp [*, errW_none, errW_some] <;> first | rfl | exact given_isEmpty _ | exact (given_isEmpty _).symm), by repeat (first | (with_reducible first | exact HB.out | apply below_alloc | apply pw_below_drewN | apply below_drew1) | exact HB.out)⟩

/-! ### round_Step: function 26 -/
def round_Step.j0 : Nat → Int → Int → Bool → Bool → ByteArray → Int → Bool → ByteArray → Int → Option (Bool × ByteArray × Int)
  | 0, _, _, _, _, _, _, _, _, _ => none
  | k + 1, x2, x7, x29, x390000, x390001, x390002, x391000, x391001, x391002 => if x29 = true then (some (x390000, x390001, x390002)) else ((dec_Made.f k false x390001 (wrap64 (x390002 - x391002))).bind fun bt401 => ((dec_Dec_Parts.f k bt401.1 bt401.2.1 bt401.2.2).bind fun bt405 => ((num_Div.f k bt405.1 x7).bind fun bt407 => ((round_odd.f bt407.1).bind fun t409 => ((round_between.f k bt407.2 bt405.2 x7).bind fun t410 => ((round_Mode_up.f x2 x390000 t409 t410).bind fun t411 => ((round_step.f k bt407.1 t411).bind fun t412 => ((num_Times.f k t412 x7).bind fun t413 => ((dec_Made.f k x390000 t413 x391002).bind fun bt414 => (some (bt414.1, bt414.2.1, bt414.2.2)))))))))))
def round_Step.f (k : Nat) (a0_0 : Bool) (a0_1 : ByteArray) (a0_2 : Int) (a1_0 : Bool) (a1_1 : ByteArray) (a1_2 : Int) (a2 : Int) : Option (Bool × ByteArray × Int) := (dec_Dec_Norm.f k a0_0 a0_1 a0_2).bind fun bt392 => ((dec_Dec_Norm.f k a1_0 a1_1 a1_2).bind fun bt395 => ((round_whole.f k bt395.1 bt395.2.1 bt395.2.2).bind fun bt398 => (if bt398.2 = true then ((round_Mode_Valid.f a2).bind fun t400 => (round_Step.j0 k a2 bt398.1 (!t400) bt392.1 bt392.2.1 bt392.2.2 bt395.1 bt395.2.1 bt395.2.2)) else (round_Step.j0 k a2 bt398.1 true bt392.1 bt392.2.1 bt392.2.2 bt395.1 bt395.2.1 bt395.2.2))))
theorem round_Step.mono_l : ∀ k, (∀ y0 y1 y2 y3 y4 y5 y6 y7 y8, LeO (round_Step.j0 k y0 y1 y2 y3 y4 y5 y6 y7 y8) (round_Step.j0 (k + 1) y0 y1 y2 y3 y4 y5 y6 y7 y8))
  | 0 => fun _ _ _ _ _ _ _ _ _ r h => by simp [round_Step.j0] at h
  | k + 1 => by
    have ih0 := round_Step.mono_l k
    · intro y0 y1 y2 y3 y4 y5 y6 y7 y8
      unfold round_Step.j0
      repeat' first
      | (with_reducible exact ih0 _ _ _ _ _ _ _ _ _)
      | (with_reducible exact dec_Dec_Norm.mono _ _ _ _)
      | (with_reducible exact dec_Dec_Parts.mono _ _ _ _)
      | (with_reducible exact dec_Made.mono _ _ _ _)
      | (with_reducible exact num_Div.mono _ _ _)
      | (with_reducible exact num_Times.mono _ _ _)
      | (with_reducible exact round_between.mono _ _ _ _)
      | (with_reducible exact round_step.mono _ _ _)
      | (with_reducible exact round_whole.mono _ _ _ _)
      | (with_reducible exact LeO.refl _)
      | (with_reducible exact LeO.none _)
      | (with_reducible refine LeO.ite ?_ ?_)
      | (with_reducible refine LeO.bind ?_ (fun _ => ?_))
      | exact ih0 _ _ _ _ _ _ _ _ _
      | exact dec_Dec_Norm.mono _ _ _ _
      | exact dec_Dec_Parts.mono _ _ _ _
      | exact dec_Made.mono _ _ _ _
      | exact num_Div.mono _ _ _
      | exact num_Times.mono _ _ _
      | exact round_between.mono _ _ _ _
      | exact round_step.mono _ _ _
      | exact round_whole.mono _ _ _ _
      | exact LeO.none _
      | refine LeO.ite ?_ ?_
      | refine LeO.bind ?_ (fun _ => ?_)
theorem round_Step.mono : ∀ a0 a1 a2 a3 a4 a5 a6 k, LeO (round_Step.f k a0 a1 a2 a3 a4 a5 a6) (round_Step.f (k + 1) a0 a1 a2 a3 a4 a5 a6) := by
  intro a0 a1 a2 a3 a4 a5 a6 k
  have ih0 := round_Step.mono_l k
  unfold round_Step.f
  repeat' first
      | (with_reducible exact ih0 _ _ _ _ _ _ _ _ _)
      | (with_reducible exact dec_Dec_Norm.mono _ _ _ _)
      | (with_reducible exact dec_Dec_Parts.mono _ _ _ _)
      | (with_reducible exact dec_Made.mono _ _ _ _)
      | (with_reducible exact num_Div.mono _ _ _)
      | (with_reducible exact num_Times.mono _ _ _)
      | (with_reducible exact round_between.mono _ _ _ _)
      | (with_reducible exact round_step.mono _ _ _)
      | (with_reducible exact round_whole.mono _ _ _ _)
      | (with_reducible exact LeO.refl _)
      | (with_reducible exact LeO.none _)
      | (with_reducible refine LeO.ite ?_ ?_)
      | (with_reducible refine LeO.bind ?_ (fun _ => ?_))
      | exact ih0 _ _ _ _ _ _ _ _ _
      | exact dec_Dec_Norm.mono _ _ _ _
      | exact dec_Dec_Parts.mono _ _ _ _
      | exact dec_Made.mono _ _ _ _
      | exact num_Div.mono _ _ _
      | exact num_Times.mono _ _ _
      | exact round_between.mono _ _ _ _
      | exact round_step.mono _ _ _
      | exact round_whole.mono _ _ _ _
      | exact LeO.none _
      | refine LeO.ite ?_ ?_
      | refine LeO.bind ?_ (fun _ => ?_)
def round_Step.T8 : Bool × List (List Nat × List Nat) := (true, [([], []), ([], []), ([], []), ([2], [2]), ([], []), ([4], [4]), ([], []), ([], []), ([], []), ([6, 7, 8, 5], [6, 7, 8]), ([1, 3, 5, 9, 9], [1, 3, 5, 9]), ([0, 10, 10], [0, 10]), ([11, 11, 0, 1, 2, 3, 4, 5, 6, 7, 8, 9, 10, 11], [0, 4, 11])])
def round_Step.B8 : List Nat := [0, 0, 0, 4, 0, 16, 0, 0, 0, 496, 1022, 2047, 4095]
theorem round_Step.tab8 : rtab .any (opsOf Tryd.f26 8) = round_Step.T8 := by kernel_rfl
theorem round_Step.bits8 : waitsOk round_Step.T8.2 round_Step.B8 = true := by kernel_rfl
def round_Step.T9 : Bool × List (List Nat × List Nat) := (true, [([], []), ([0], [0]), ([], []), ([], []), ([2, 3], [2, 3]), ([], []), ([5], [5]), ([1, 4, 6, 4], [1, 4, 6]), ([7, 7, 0, 1, 2, 3, 4, 5, 6, 7], [7])])
def round_Step.B9 : List Nat := [0, 1, 0, 0, 12, 0, 32, 127, 255]
theorem round_Step.tab9 : rtab .any (opsOf Tryd.f26 9) = round_Step.T9 := by kernel_rfl
theorem round_Step.bits9 : waitsOk round_Step.T9.2 round_Step.B9 = true := by kernel_rfl
set_option maxHeartbeats 8000000 in
set_option maxRecDepth 100000 in
theorem round_Step.calls (k : Nat) (a0_0 : Bool) (a0_1 : ByteArray) (a0_2 : Int) (a1_0 : Bool) (a1_1 : ByteArray) (a1_2 : Int) (a2 : Int) (r1 : Bool) (r2 : ByteArray) (r3 : Int) (w : World) (h : round_Step.f k a0_0 a0_1 a0_2 a1_0 a1_1 a1_2 a2 = some (r1, r2, r3)) :
    Calls Tryd.prog 26 #[.agg #[.bool a0_0, .string a0_1, .int .i64 a0_2], .agg #[.bool a1_0, .string a1_1, .int .i64 a1_2], .int .i64 a2] w fun e w' => e = .returned (.agg #[.bool r1, .string r2, .int .i64 r3]) ∧ Below w.heap.size w w' := by
  have hu30 := Tryd.underlying30
  have HB := Aside0.mk (Below.refl w.heap.size w)
  have H : ((dec_Dec_Norm.f k a0_0 a0_1 a0_2).bind fun bt392 => ((dec_Dec_Norm.f k a1_0 a1_1 a1_2).bind fun bt395 => ((round_whole.f k bt395.1 bt395.2.1 bt395.2.2).bind fun bt398 => (if bt398.2 = true then ((round_Mode_Valid.f a2).bind fun t400 => (round_Step.j0 k a2 bt398.1 (!t400) bt392.1 bt392.2.1 bt392.2.2 bt395.1 bt395.2.1 bt395.2.2)) else (round_Step.j0 k a2 bt398.1 true bt392.1 bt392.2.1 bt392.2.2 bt395.1 bt395.2.1 bt395.2.2))))) = some (r1, r2, r3) := h
  clear h
  replace H := Option.bind_eq_some_iff.mp H
  obtain ⟨⟨t392, t393, t394⟩, A40, H⟩ := H
  replace H : ((dec_Dec_Norm.f k a1_0 a1_1 a1_2).bind fun bt395 => ((round_whole.f k bt395.1 bt395.2.1 bt395.2.2).bind fun bt398 => (if bt398.2 = true then ((round_Mode_Valid.f a2).bind fun t400 => (round_Step.j0 k a2 bt398.1 (!t400) t392 t393 t394 bt395.1 bt395.2.1 bt395.2.2)) else (round_Step.j0 k a2 bt398.1 true t392 t393 t394 bt395.1 bt395.2.1 bt395.2.2)))) = some (r1, r2, r3) := H
  have A4 := Aside0.mk A40
  clear A40
  replace H := Option.bind_eq_some_iff.mp H
  obtain ⟨⟨t395, t396, t397⟩, A50, H⟩ := H
  replace H : ((round_whole.f k t395 t396 t397).bind fun bt398 => (if bt398.2 = true then ((round_Mode_Valid.f a2).bind fun t400 => (round_Step.j0 k a2 bt398.1 (!t400) t392 t393 t394 t395 t396 t397)) else (round_Step.j0 k a2 bt398.1 true t392 t393 t394 t395 t396 t397))) = some (r1, r2, r3) := H
  have A5 := Aside0.mk A50
  clear A50
  replace H := Option.bind_eq_some_iff.mp H
  obtain ⟨⟨t398, t399⟩, A60, H⟩ := H
  replace H : (if t399 = true then ((round_Mode_Valid.f a2).bind fun t400 => (round_Step.j0 k a2 t398 (!t400) t392 t393 t394 t395 t396 t397)) else (round_Step.j0 k a2 t398 true t392 t393 t394 t395 t396 t397)) = some (r1, r2, r3) := H
  have A6 := Aside0.mk A60
  clear A60
  have HC7 := Aside0.mk H
  clear H
  go_enter Tryd.func26, Tryd.ntmps26
  try go_wp2_with (first | ((with_reducible refine gate_dst (N := 3) rfl ?_); refine box_event ?hg (N := 3) ?hd (cs := #[.bool a0_0, .string a0_1, .int .i64 a0_2]) (t := 30) ?hr ?_; (case hd => rfl); (case hg => rfl); (case hr => first | (go_simp; done) | (go_simp; rfl)); intro gb389 hg w8 hbox hb; have n0_ := Aside0.mk (below_step (bl_ HB).out hb); have n1_ := Aside0.mk (hbox); have n2_ := Aside0.mk ((by rw [hg]; exact (below_size (bl_ HB).out) : w.heap.size ≤ gb389)); have n3_ := Aside0.mk ((by rw [hg]; exact (below_size (bl_ HB).out) : w.heap.size ≤ gb389)); clear HB; have HB := n0_; have BK389 := n1_; have GW389 := n2_; have GE389 := n3_; clear n0_ n1_ n2_ n3_; clear hb hbox hg) | ((with_reducible refine gate_dst (N := 4) rfl ?_); refine box_event ?hg (N := 4) ?hd (cs := #[.bool a1_0, .string a1_1, .int .i64 a1_2]) (t := 30) ?hr ?_; (case hd => rfl); (case hg => rfl); (case hr => first | (go_simp; done) | (go_simp; rfl)); intro gb390 hg w9 hbox hb; have n0_ := bb_ BK389 hb; have n1_ := Aside0.mk (below_step (bl_ HB).out hb); have n2_ := Aside0.mk (hbox); have n3_ := Aside0.mk ((by rw [hg]; exact (below_size (bl_ HB).out) : w.heap.size ≤ gb390)); have n4_ := Aside0.mk ((by rw [hg]; exact (below_size (bl_ HB).out) : w.heap.size ≤ gb390)); have n5_ := Aside0.mk ((by rw [hg]; exact Nat.ne_of_lt (blk_lt (g := gb389) (o := .cells #[.bool a0_0, .string a0_1, .int .i64 a0_2] 30 (0, 0)) (by (with_reducible repeat (first | refine blk_drewN ?_ _ | refine blk_drew ?_ | refine blk_alloc ?_ _)); exact BK389.out)) : gb389 ≠ gb390)); have n6_ := Aside0.mk ((by rw [hg]; exact Nat.ne_of_gt (blk_lt (g := gb389) (o := .cells #[.bool a0_0, .string a0_1, .int .i64 a0_2] 30 (0, 0)) (by (with_reducible repeat (first | refine blk_drewN ?_ _ | refine blk_drew ?_ | refine blk_alloc ?_ _)); exact BK389.out)) : gb390 ≠ gb389)); clear BK389; clear HB; have BK389 := n0_; have HB := n1_; have BK390 := n2_; have GW390 := n3_; have GE390 := n4_; have NB389_390 := n5_; have NB390_389 := n6_; clear n0_ n1_ n2_ n3_ n4_ n5_ n6_; clear hb hbox hg) | ((with_reducible refine gate_dst (N := 6) rfl ?_); refine box_event ?hg (N := 6) ?hd (cs := #[.bool false, .string (⟨#[]⟩ : ByteArray), .int .i64 0]) (t := 30) ?hr ?_; (case hd => rfl); (case hg => rfl); (case hr => first | (go_simp; done) | (go_simp; rfl)); intro gb391 hg w10 hbox hb; have n0_ := bb_ BK389 hb; have n1_ := bb_ BK390 hb; have n2_ := Aside0.mk (below_step (bl_ HB).out hb); have n3_ := Aside0.mk (hbox); have n4_ := Aside0.mk ((by rw [hg]; exact (below_size (bl_ HB).out) : w.heap.size ≤ gb391)); have n5_ := Aside0.mk ((by rw [hg]; exact (below_size (bl_ HB).out) : w.heap.size ≤ gb391)); have n6_ := Aside0.mk ((by rw [hg]; exact Nat.ne_of_lt (blk_lt (g := gb389) (o := .cells #[.bool a0_0, .string a0_1, .int .i64 a0_2] 30 (0, 0)) (by (with_reducible repeat (first | refine blk_drewN ?_ _ | refine blk_drew ?_ | refine blk_alloc ?_ _)); exact BK389.out)) : gb389 ≠ gb391)); have n7_ := Aside0.mk ((by rw [hg]; exact Nat.ne_of_gt (blk_lt (g := gb389) (o := .cells #[.bool a0_0, .string a0_1, .int .i64 a0_2] 30 (0, 0)) (by (with_reducible repeat (first | refine blk_drewN ?_ _ | refine blk_drew ?_ | refine blk_alloc ?_ _)); exact BK389.out)) : gb391 ≠ gb389)); have n8_ := Aside0.mk ((by rw [hg]; exact Nat.ne_of_lt (blk_lt (g := gb390) (o := .cells #[.bool a1_0, .string a1_1, .int .i64 a1_2] 30 (0, 0)) (by (with_reducible repeat (first | refine blk_drewN ?_ _ | refine blk_drew ?_ | refine blk_alloc ?_ _)); exact BK390.out)) : gb390 ≠ gb391)); have n9_ := Aside0.mk ((by rw [hg]; exact Nat.ne_of_gt (blk_lt (g := gb390) (o := .cells #[.bool a1_0, .string a1_1, .int .i64 a1_2] 30 (0, 0)) (by (with_reducible repeat (first | refine blk_drewN ?_ _ | refine blk_drew ?_ | refine blk_alloc ?_ _)); exact BK390.out)) : gb391 ≠ gb390)); clear BK389; clear BK390; clear HB; have BK389 := n0_; have BK390 := n1_; have HB := n2_; have BK391 := n3_; have GW391 := n4_; have GE391 := n5_; have NB389_391 := n6_; have NB391_389 := n7_; have NB390_391 := n8_; have NB391_390 := n9_; clear n0_ n1_ n2_ n3_ n4_ n5_ n6_ n7_ n8_ n9_; clear hb hbox hg))
  replace BK389 := Aside0.mk (blk_drew BK389.out)
  replace BK390 := Aside0.mk (blk_drew BK390.out)
  replace BK391 := Aside0.mk (blk_drew BK391.out)
  replace HB := Aside0.mk (below_drew1 HB.out)
  refine start_ (n := 6) (S := fun w' => w'.cell? ⟨gb389, 0, none⟩ = some (.bool a0_0) ∧ w'.cell? ⟨gb389, 1, none⟩ = some (.string a0_1) ∧ w'.cell? ⟨gb389, 2, none⟩ = some (.int .i64 a0_2) ∧ w'.cell? ⟨gb390, 0, none⟩ = some (.bool a1_0) ∧ w'.cell? ⟨gb390, 1, none⟩ = some (.string a1_1) ∧ w'.cell? ⟨gb390, 2, none⟩ = some (.int .i64 a1_2)) (ds := [4, 5]) #[false, false, false, false, false, false] (by kernel_rfl) rfl rfl ⟨bc_ BK389 0, bc_ BK389 1, bc_ BK389 2, bc_ BK390 0, bc_ BK390 1, bc_ BK390 2⟩ (fun hHeld => ?_)
  generalize w10.drew = w11 at BK389 BK390 BK391 HB hHeld ⊢
  refine tk0_ 0 14 #[true, false, false, false, false, false] hHeld rfl (by rintro w' ⟨s0, s1, s2, s3, s4, s5⟩; go_simp; with_reducible rfl) ?_
  refine tk0_ 2 16 #[true, false, true, false, false, false] hHeld rfl (by rintro w' ⟨s0, s1, s2, s3, s4, s5⟩; go_simp; with_reducible rfl) ?_
  refine one_ (i := 1) (N := some 15) #[true, true, true, false, false, false] rfl rfl (by kernel_rfl) (by decide) (fun K hK => ?_)
  refine gs_ Tryd.func22 #[.agg #[.bool a0_0, .string a0_1, .int .i64 a0_2]] ?_
  with_reducible refine (dec_Dec_Norm.calls k a0_0 a0_1 a0_2 t392 t393 t394 _ A4.out).mono ?_
  rintro e w12 ⟨rfl, hb⟩
  refine ⟨_, rfl, ?_⟩
  replace BK389 := bb_ BK389 hb
  replace BK390 := bb_ BK390 hb
  replace BK391 := bb_ BK391 hb
  replace HB := Aside0.mk (below_step (bl_ HB).out hb)
  (try clear hb)
  (try clear hb2)
  (try clear hk)
  (try clear hi)
  refine hK.out _ _ ⟨bc_ BK389 0, bc_ BK389 1, bc_ BK389 2, bc_ BK390 0, bc_ BK390 1, bc_ BK390 2⟩ (fun hHeld => ?_)
  clear hK K
  refine nm_ 15 ?_
  refine one_ (i := 3) (N := some 17) #[true, true, true, true, false, false] rfl rfl (by kernel_rfl) (by decide) (fun K hK => ?_)
  refine gs_ Tryd.func22 #[.agg #[.bool a1_0, .string a1_1, .int .i64 a1_2]] ?_
  with_reducible refine (dec_Dec_Norm.calls k a1_0 a1_1 a1_2 t395 t396 t397 _ A5.out).mono ?_
  rintro e w13 ⟨rfl, hb⟩
  refine ⟨_, rfl, ?_⟩
  replace BK389 := bb_ BK389 hb
  replace BK390 := bb_ BK390 hb
  replace BK391 := bb_ BK391 hb
  replace HB := Aside0.mk (below_step (bl_ HB).out hb)
  (try clear hb)
  (try clear hb2)
  (try clear hk)
  (try clear hi)
  refine hK.out _ _ ⟨bc_ BK389 0, bc_ BK389 1, bc_ BK389 2, bc_ BK390 0, bc_ BK390 1, bc_ BK390 2⟩ (fun hHeld => ?_)
  clear hK K
  refine nm_ 17 ?_
  refine last_ (i := 4) (N := none) #[true, true, true, true, true, false] rfl rfl (by kernel_rfl) (by decide) (fun K hK => ?_)
  have hs14 : w13.cell? ⟨gb389, 0, none⟩ = some (.bool a0_0) := bc_ BK389 0
  have hfs14 := blk_frozen BK389.out 0
  have hns14_1 := NB390_389.out
  have hns14_2 := NB391_389.out
  have hms14_1 := NB389_390.out
  have hms14_2 := NB389_391.out
  have hs15 : w13.cell? ⟨gb389, 1, none⟩ = some (.string a0_1) := bc_ BK389 1
  have hfs15 := blk_frozen BK389.out 1
  have hns15_1 := NB390_389.out
  have hns15_2 := NB391_389.out
  have hms15_1 := NB389_390.out
  have hms15_2 := NB389_391.out
  have hs16 : w13.cell? ⟨gb389, 2, none⟩ = some (.int .i64 a0_2) := bc_ BK389 2
  have hfs16 := blk_frozen BK389.out 2
  have hns16_1 := NB390_389.out
  have hns16_2 := NB391_389.out
  have hms16_1 := NB389_390.out
  have hms16_2 := NB389_391.out
  refine skip_ (w1 := ?_) (by rfl) rfl ?_ ?_
  rotate_left
  · go_simp
    rfl
  refine hK.out _ _ ?_
  clear hK K
  refine last_ (i := 5) (N := none) #[true, true, true, true, true, true] rfl rfl (by kernel_rfl) (by decide) (fun K hK => ?_)
  have hs17 : w13.cell? ⟨gb390, 0, none⟩ = some (.bool a1_0) := bc_ BK390 0
  have hfs17 := blk_frozen BK390.out 0
  have hns17_0 := NB389_390.out
  have hns17_2 := NB391_390.out
  have hms17_0 := NB390_389.out
  have hms17_2 := NB390_391.out
  have hs18 : w13.cell? ⟨gb390, 1, none⟩ = some (.string a1_1) := bc_ BK390 1
  have hfs18 := blk_frozen BK390.out 1
  have hns18_0 := NB389_390.out
  have hns18_2 := NB391_390.out
  have hms18_0 := NB390_389.out
  have hms18_2 := NB390_391.out
  have hs19 : w13.cell? ⟨gb390, 2, none⟩ = some (.int .i64 a1_2) := bc_ BK390 2
  have hfs19 := blk_frozen BK390.out 2
  have hns19_0 := NB389_390.out
  have hns19_2 := NB391_390.out
  have hms19_0 := NB390_389.out
  have hms19_2 := NB390_391.out
  refine skip_ (w1 := ?_) (by rfl) rfl ?_ ?_
  rotate_left
  · go_simp
    rfl
  refine hK.out _ _ ?_
  clear hK K
  refine done_ (by kernel_rfl) ?_
  have hnb20 := NB390_389.out
  have hnc20 := NB389_390.out
  have hnb21 := NB390_391.out
  have hnc21 := NB391_390.out
  have hcz22_0 : w13.cell? ⟨gb390, 0, none⟩ = some (.bool a1_0) := bc_ BK390 0
  have hcz22_1 : w13.cell? ⟨gb390, 1, none⟩ = some (.string a1_1) := bc_ BK390 1
  have hcz22_2 : w13.cell? ⟨gb390, 2, none⟩ = some (.int .i64 a1_2) := bc_ BK390 2
  have hfz22_0 := blk_frozen BK390.out 0
  have hfz22_1 := blk_frozen BK390.out 1
  have hfz22_2 := blk_frozen BK390.out 2
  go_upto_region 3 with (first | ((with_reducible refine gate_callee (f := 42) rfl ?_); refine goesL_ (some 20) rfl rfl Tryd.func42 (by kernel_rfl) rfl #[.agg #[.bool t395, .string t396, .int .i64 t397]] rfl (by (try simp only [List.map_toArray, List.map_cons, List.map_nil]); first | done | rfl | (simp only [List.length_drop, List.length_take]; rfl) | (have z_ : ∀ s_ : ByteArray, s_.size ≤ 9223372036854775807 → -(s_.size : Int) = wrap64 (-(s_.size : Int)) := (fun s_ h_ => by unfold wrap64; omega); rw [← z_ _ (by omega)]; rfl) | (simp only [ByteArray.size_append]; rfl)) ?_; (with_reducible refine (round_whole.calls k t395 t396 t397 t398 t399 _ A6.out).mono ?_); rintro e w23 ⟨rfl, hb⟩; refine ⟨_, rfl, ?_⟩; have n0_ := Aside0.mk (blk_below (g := gb389) (o := .cells #[.bool t392, .string t393, .int .i64 t394] 30 (0, 0)) (by (with_reducible repeat (first | refine blk_drewN ?_ _ | refine blk_drew ?_ | refine blk_alloc ?_ _)); refine blk_far ?_ NB389_390.out _; (with_reducible repeat (first | refine blk_drewN ?_ _ | refine blk_drew ?_ | refine blk_alloc ?_ _)); refine blk_far ?_ NB389_390.out _; (with_reducible repeat (first | refine blk_drewN ?_ _ | refine blk_drew ?_ | refine blk_alloc ?_ _)); refine blk_far ?_ NB389_390.out _; (with_reducible repeat (first | refine blk_drewN ?_ _ | refine blk_drew ?_ | refine blk_alloc ?_ _)); refine blk_put (cs := #[.bool t392, .string t393, .int .i64 a0_2]) ?_ 2 _ rfl; (with_reducible repeat (first | refine blk_drewN ?_ _ | refine blk_drew ?_ | refine blk_alloc ?_ _)); refine blk_put (cs := #[.bool t392, .string a0_1, .int .i64 a0_2]) ?_ 1 _ rfl; (with_reducible repeat (first | refine blk_drewN ?_ _ | refine blk_drew ?_ | refine blk_alloc ?_ _)); refine blk_put (cs := #[.bool a0_0, .string a0_1, .int .i64 a0_2]) ?_ 0 _ rfl; (with_reducible repeat (first | refine blk_drewN ?_ _ | refine blk_drew ?_ | refine blk_alloc ?_ _)); exact BK389.out) hb); have n1_ := Aside0.mk (blk_below (g := gb390) (o := .cells #[.bool t395, .string t396, .int .i64 t397] 30 (0, 0)) (by (with_reducible repeat (first | refine blk_drewN ?_ _ | refine blk_drew ?_ | refine blk_alloc ?_ _)); refine blk_put (cs := #[.bool t395, .string t396, .int .i64 a1_2]) ?_ 2 _ rfl; (with_reducible repeat (first | refine blk_drewN ?_ _ | refine blk_drew ?_ | refine blk_alloc ?_ _)); refine blk_put (cs := #[.bool t395, .string a1_1, .int .i64 a1_2]) ?_ 1 _ rfl; (with_reducible repeat (first | refine blk_drewN ?_ _ | refine blk_drew ?_ | refine blk_alloc ?_ _)); refine blk_put (cs := #[.bool a1_0, .string a1_1, .int .i64 a1_2]) ?_ 0 _ rfl; (with_reducible repeat (first | refine blk_drewN ?_ _ | refine blk_drew ?_ | refine blk_alloc ?_ _)); refine blk_far ?_ NB390_389.out _; (with_reducible repeat (first | refine blk_drewN ?_ _ | refine blk_drew ?_ | refine blk_alloc ?_ _)); refine blk_far ?_ NB390_389.out _; (with_reducible repeat (first | refine blk_drewN ?_ _ | refine blk_drew ?_ | refine blk_alloc ?_ _)); refine blk_far ?_ NB390_389.out _; (with_reducible repeat (first | refine blk_drewN ?_ _ | refine blk_drew ?_ | refine blk_alloc ?_ _)); exact BK390.out) hb); have n2_ := Aside0.mk (blk_below (g := gb391) (o := .cells #[.bool false, .string (⟨#[]⟩ : ByteArray), .int .i64 0] 30 (0, 0)) (by (with_reducible repeat (first | refine blk_drewN ?_ _ | refine blk_drew ?_ | refine blk_alloc ?_ _)); refine blk_far ?_ NB391_390.out _; (with_reducible repeat (first | refine blk_drewN ?_ _ | refine blk_drew ?_ | refine blk_alloc ?_ _)); refine blk_far ?_ NB391_390.out _; (with_reducible repeat (first | refine blk_drewN ?_ _ | refine blk_drew ?_ | refine blk_alloc ?_ _)); refine blk_far ?_ NB391_390.out _; (with_reducible repeat (first | refine blk_drewN ?_ _ | refine blk_drew ?_ | refine blk_alloc ?_ _)); refine blk_far ?_ NB391_389.out _; (with_reducible repeat (first | refine blk_drewN ?_ _ | refine blk_drew ?_ | refine blk_alloc ?_ _)); refine blk_far ?_ NB391_389.out _; (with_reducible repeat (first | refine blk_drewN ?_ _ | refine blk_drew ?_ | refine blk_alloc ?_ _)); refine blk_far ?_ NB391_389.out _; (with_reducible repeat (first | refine blk_drewN ?_ _ | refine blk_drew ?_ | refine blk_alloc ?_ _)); exact BK391.out) hb); have n3_ := Aside0.mk (below_step (bl_ HB).out hb); clear BK389; clear BK390; clear BK391; clear HB; have BK389 := n0_; have BK390 := n1_; have BK391 := n2_; have HB := n3_; clear n0_ n1_ n2_ n3_; (try clear hb); (try clear hb2); (try clear hk); (try clear hi)))
  (try simp only [Act.put, List.setIfInBounds_toArray, List.set_cons_zero, List.set_cons_succ])
  go_cut [29] (fun v29 wc => ∃ (kq : Nat) (x29_6 : Bool), v29 = .bool x29_6 ∧ Aside0 (round_Step.j0 kq a2 t398 x29_6 t392 t393 t394 t395 t396 t397 = some (r1, r2, r3)) ∧ Aside0 (kq ≤ k) ∧ Aside0 (wc.heap[gb389]? = some (.cells #[.bool t392, .string t393, .int .i64 t394] 30 (0, 0))) ∧ Aside0 (wc.heap[gb390]? = some (.cells #[.bool t395, .string t396, .int .i64 t397] 30 (0, 0))) ∧ Aside0 (wc.heap[gb391]? = some (.cells #[.bool false, .string (⟨#[]⟩ : ByteArray), .int .i64 0] 30 (0, 0))) ∧ Aside0 (Below w.heap.size w wc))
  case first =>
    have H := HC7.out
    clear HC7
    by_cases c24 : t399 = true
    · subst c24
      have H1 : ((round_Mode_Valid.f a2).bind fun t400 => (round_Step.j0 k a2 t398 (!t400) t392 t393 t394 t395 t396 t397)) = some (r1, r2, r3) := by rw [if_pos rfl] at H; exact H
      clear H
      have H := H1
      clear H1
      replace H := Option.bind_eq_some_iff.mp H
      obtain ⟨t400, A250, H⟩ := H
      replace H : (round_Step.j0 k a2 t398 (!t400) t392 t393 t394 t395 t396 t397) = some (r1, r2, r3) := H
      have A25 := Aside0.mk A250
      clear A250
      have H' := Aside0.mk H
      clear H
      go_wp2_with (first | (go_at_call 24; (with_reducible refine (round_Mode_Valid.calls a2 t400 _ A25.out).mono ?_); rintro e w' ⟨rfl, ⟨nd, rfl⟩⟩))
      go_meet
      case rel => exact ⟨_, (!t400), eq_, H', ⟨by first | omega | exact Nat.le_refl _⟩, (bk_ BK389), (bk_ BK390), (bk_ BK391), (bl_ HB)⟩
    · replace c24 := Bool.eq_false_iff.mpr c24
      subst c24
      have H1 : (round_Step.j0 k a2 t398 true t392 t393 t394 t395 t396 t397) = some (r1, r2, r3) := by rw [if_neg (show ¬ (false = true) by decide)] at H; exact H
      clear H
      have H := H1
      clear H1
      have H' := Aside0.mk H
      clear H
      go_wp2
      go_meet
      case rel => exact ⟨_, (true), eq_, H', ⟨by first | omega | exact Nat.le_refl _⟩, (bk_ BK389), (bk_ BK390), (bk_ BK391), (bl_ HB)⟩
  case rest =>
    clear HC7
    try clear c2
    try clear p2
    try clear c4
    try clear p6
    try clear c20
    try clear c21
    try clear c22
    try clear c24
    try clear hcz22_0
    try clear hcz22_1
    try clear hcz22_2
    try clear hfz22_0
    try clear hfz22_1
    try clear hfz22_2
    obtain ⟨kq, x29_6, rfl, HA, HJ6, BK389, BK390, BK391, HB⟩ := hcut
    cases kq with
    | zero => exact absurd HA.out (by simp [round_Step.j0])
    | succ kj6 =>
      have H := HA.out
      clear HA
      simp only [round_Step.j0] at H
      by_cases c26 : x29_6 = true
      · subst c26
        have H1 : (some (t392, t393, t394)) = some (r1, r2, r3) := by rw [if_pos rfl] at H; exact H
        clear H
        have H := H1
        clear H1
        simp only [Option.some.injEq, Prod.mk.injEq] at H
        obtain ⟨rfl, rfl, rfl⟩ := H
        have hnb27 := NB389_390.out
        have hnc27 := NB390_389.out
        have hnb28 := NB389_391.out
        have hnc28 := NB391_389.out
        have hcz29_0 : wc.cell? ⟨gb389, 0, none⟩ = some (.bool t392) := bc_ BK389 0
        have hcz29_1 : wc.cell? ⟨gb389, 1, none⟩ = some (.string t393) := bc_ BK389 1
        have hcz29_2 : wc.cell? ⟨gb389, 2, none⟩ = some (.int .i64 t394) := bc_ BK389 2
        have hfz29_0 := blk_frozen BK389.out 0
        have hfz29_1 := blk_frozen BK389.out 1
        have hfz29_2 := blk_frozen BK389.out 2
        have hnb30 := NB391_390.out
        have hnc30 := NB390_391.out
        have hcz31_0 : wc.cell? ⟨gb391, 0, none⟩ = some (.bool false) := bc_ BK391 0
        have hcz31_1 : wc.cell? ⟨gb391, 1, none⟩ = some (.string (⟨#[]⟩ : ByteArray)) := bc_ BK391 1
        have hcz31_2 : wc.cell? ⟨gb391, 2, none⟩ = some (.int .i64 0) := bc_ BK391 2
        have hfz31_0 := blk_frozen BK391.out 0
        have hfz31_1 := blk_frozen BK391.out 1
        have hfz31_2 := blk_frozen BK391.out 2
        go_wp2
        refine bodyPost_ret (results_cell_row rfl _ _ gb391 30 #[.bool t392, .string t393, .int .i64 t394] (0, 0) _ rfl (by (with_reducible repeat (first | refine blk_drewN ?_ _ | refine blk_drew ?_ | refine blk_alloc ?_ _)); refine blk_put (cs := #[.bool t392, .string t393, .int .i64 0]) ?_ 2 _ rfl; (with_reducible repeat (first | refine blk_drewN ?_ _ | refine blk_drew ?_ | refine blk_alloc ?_ _)); refine blk_put (cs := #[.bool t392, .string (⟨#[]⟩ : ByteArray), .int .i64 0]) ?_ 1 _ rfl; (with_reducible repeat (first | refine blk_drewN ?_ _ | refine blk_drew ?_ | refine blk_alloc ?_ _)); refine blk_put (cs := #[.bool false, .string (⟨#[]⟩ : ByteArray), .int .i64 0]) ?_ 0 _ rfl; (with_reducible repeat (first | refine blk_drewN ?_ _ | refine blk_drew ?_ | refine blk_alloc ?_ _)); exact BK391.out) Tryd.underlying30 rfl (by kernel_rfl)) rfl ?_
        exact ⟨by first | rfl | (simp [errW_none, errW_some] <;> rfl) | (simp [*, errW_none, errW_some] <;> first | rfl | exact given_isEmpty _ | exact (given_isEmpty _).symm), by repeat (first | (with_reducible first | exact HB.out | apply below_alloc | apply pw_below_drewN | apply below_drew1 | refine below_set ?_ GE389.out | refine below_set ?_ GE390.out | refine below_set ?_ GE391.out) | exact HB.out)⟩
      · replace c26 := Bool.eq_false_iff.mpr c26
        subst c26
        have H1 : ((dec_Made.f kj6 false t393 (wrap64 (t394 - t397))).bind fun bt401 => ((dec_Dec_Parts.f kj6 bt401.1 bt401.2.1 bt401.2.2).bind fun bt405 => ((num_Div.f kj6 bt405.1 t398).bind fun bt407 => ((round_odd.f bt407.1).bind fun t409 => ((round_between.f kj6 bt407.2 bt405.2 t398).bind fun t410 => ((round_Mode_up.f a2 t392 t409 t410).bind fun t411 => ((round_step.f kj6 bt407.1 t411).bind fun t412 => ((num_Times.f kj6 t412 t398).bind fun t413 => ((dec_Made.f kj6 t392 t413 t397).bind fun bt414 => (some (bt414.1, bt414.2.1, bt414.2.2))))))))))) = some (r1, r2, r3) := by rw [if_neg (show ¬ (false = true) by decide)] at H; exact H
        clear H
        have H := H1
        clear H1
        replace H := Option.bind_eq_some_iff.mp H
        obtain ⟨⟨t401, t402, t403⟩, A320, H⟩ := H
        replace H : ((dec_Dec_Parts.f kj6 t401 t402 t403).bind fun bt405 => ((num_Div.f kj6 bt405.1 t398).bind fun bt407 => ((round_odd.f bt407.1).bind fun t409 => ((round_between.f kj6 bt407.2 bt405.2 t398).bind fun t410 => ((round_Mode_up.f a2 t392 t409 t410).bind fun t411 => ((round_step.f kj6 bt407.1 t411).bind fun t412 => ((num_Times.f kj6 t412 t398).bind fun t413 => ((dec_Made.f kj6 t392 t413 t397).bind fun bt414 => (some (bt414.1, bt414.2.1, bt414.2.2)))))))))) = some (r1, r2, r3) := H
        have A32 := Aside0.mk A320
        clear A320
        replace H := Option.bind_eq_some_iff.mp H
        obtain ⟨⟨t405, t406⟩, A330, H⟩ := H
        replace H : ((num_Div.f kj6 t405 t398).bind fun bt407 => ((round_odd.f bt407.1).bind fun t409 => ((round_between.f kj6 bt407.2 t406 t398).bind fun t410 => ((round_Mode_up.f a2 t392 t409 t410).bind fun t411 => ((round_step.f kj6 bt407.1 t411).bind fun t412 => ((num_Times.f kj6 t412 t398).bind fun t413 => ((dec_Made.f kj6 t392 t413 t397).bind fun bt414 => (some (bt414.1, bt414.2.1, bt414.2.2))))))))) = some (r1, r2, r3) := H
        have A33 := Aside0.mk A330
        clear A330
        replace H := Option.bind_eq_some_iff.mp H
        obtain ⟨⟨t407, t408⟩, A340, H⟩ := H
        replace H : ((round_odd.f t407).bind fun t409 => ((round_between.f kj6 t408 t406 t398).bind fun t410 => ((round_Mode_up.f a2 t392 t409 t410).bind fun t411 => ((round_step.f kj6 t407 t411).bind fun t412 => ((num_Times.f kj6 t412 t398).bind fun t413 => ((dec_Made.f kj6 t392 t413 t397).bind fun bt414 => (some (bt414.1, bt414.2.1, bt414.2.2)))))))) = some (r1, r2, r3) := H
        have A34 := Aside0.mk A340
        clear A340
        replace H := Option.bind_eq_some_iff.mp H
        obtain ⟨t409, A350, H⟩ := H
        replace H : ((round_between.f kj6 t408 t406 t398).bind fun t410 => ((round_Mode_up.f a2 t392 t409 t410).bind fun t411 => ((round_step.f kj6 t407 t411).bind fun t412 => ((num_Times.f kj6 t412 t398).bind fun t413 => ((dec_Made.f kj6 t392 t413 t397).bind fun bt414 => (some (bt414.1, bt414.2.1, bt414.2.2))))))) = some (r1, r2, r3) := H
        have A35 := Aside0.mk A350
        clear A350
        replace H := Option.bind_eq_some_iff.mp H
        obtain ⟨t410, A360, H⟩ := H
        replace H : ((round_Mode_up.f a2 t392 t409 t410).bind fun t411 => ((round_step.f kj6 t407 t411).bind fun t412 => ((num_Times.f kj6 t412 t398).bind fun t413 => ((dec_Made.f kj6 t392 t413 t397).bind fun bt414 => (some (bt414.1, bt414.2.1, bt414.2.2)))))) = some (r1, r2, r3) := H
        have A36 := Aside0.mk A360
        clear A360
        replace H := Option.bind_eq_some_iff.mp H
        obtain ⟨t411, A370, H⟩ := H
        replace H : ((round_step.f kj6 t407 t411).bind fun t412 => ((num_Times.f kj6 t412 t398).bind fun t413 => ((dec_Made.f kj6 t392 t413 t397).bind fun bt414 => (some (bt414.1, bt414.2.1, bt414.2.2))))) = some (r1, r2, r3) := H
        have A37 := Aside0.mk A370
        clear A370
        replace H := Option.bind_eq_some_iff.mp H
        obtain ⟨t412, A380, H⟩ := H
        replace H : ((num_Times.f kj6 t412 t398).bind fun t413 => ((dec_Made.f kj6 t392 t413 t397).bind fun bt414 => (some (bt414.1, bt414.2.1, bt414.2.2)))) = some (r1, r2, r3) := H
        have A38 := Aside0.mk A380
        clear A380
        replace H := Option.bind_eq_some_iff.mp H
        obtain ⟨t413, A390, H⟩ := H
        replace H : ((dec_Made.f kj6 t392 t413 t397).bind fun bt414 => (some (bt414.1, bt414.2.1, bt414.2.2))) = some (r1, r2, r3) := H
        have A39 := Aside0.mk A390
        clear A390
        replace H := Option.bind_eq_some_iff.mp H
        obtain ⟨⟨t414, t415, t416⟩, A400, H⟩ := H
        replace H : (some (t414, t415, t416)) = some (r1, r2, r3) := H
        have A40 := Aside0.mk A400
        clear A400
        simp only [Option.some.injEq, Prod.mk.injEq] at H
        obtain ⟨rfl, rfl, rfl⟩ := H
        have hnb41 := NB389_390.out
        have hnc41 := NB390_389.out
        have hnb42 := NB389_391.out
        have hnc42 := NB391_389.out
        have hcz43_0 : wc.cell? ⟨gb389, 0, none⟩ = some (.bool t392) := bc_ BK389 0
        have hcz43_1 : wc.cell? ⟨gb389, 1, none⟩ = some (.string t393) := bc_ BK389 1
        have hcz43_2 : wc.cell? ⟨gb389, 2, none⟩ = some (.int .i64 t394) := bc_ BK389 2
        have hfz43_0 := blk_frozen BK389.out 0
        have hfz43_1 := blk_frozen BK389.out 1
        have hfz43_2 := blk_frozen BK389.out 2
        have hnb44 := NB390_391.out
        have hnc44 := NB391_390.out
        have hcz45_0 : wc.cell? ⟨gb390, 0, none⟩ = some (.bool t395) := bc_ BK390 0
        have hcz45_1 : wc.cell? ⟨gb390, 1, none⟩ = some (.string t396) := bc_ BK390 1
        have hcz45_2 : wc.cell? ⟨gb390, 2, none⟩ = some (.int .i64 t397) := bc_ BK390 2
        have hfz45_0 := blk_frozen BK390.out 0
        have hfz45_1 := blk_frozen BK390.out 1
        have hfz45_2 := blk_frozen BK390.out 2
        try go_wp2_with (first | ((with_reducible refine gate_callee (f := 23) rfl ?_); refine goesL_ (some 38) rfl rfl Tryd.func23 (by kernel_rfl) rfl #[.bool false, .string t393, .int .i64 (wrap64 (t394 - t397))] rfl (by (try simp only [List.map_toArray, List.map_cons, List.map_nil]); first | done | rfl | (simp only [List.length_drop, List.length_take]; rfl) | (have z_ : ∀ s_ : ByteArray, s_.size ≤ 9223372036854775807 → -(s_.size : Int) = wrap64 (-(s_.size : Int)) := (fun s_ h_ => by unfold wrap64; omega); rw [← z_ _ (by omega)]; rfl) | (simp only [ByteArray.size_append]; rfl)) ?_; (with_reducible refine (dec_Made.calls kj6 false t393 (wrap64 (t394 - t397)) t401 t402 t403 _ A32.out).mono ?_); rintro e w46 ⟨rfl, hb⟩; refine ⟨_, rfl, ?_⟩; have n0_ := bb_ BK389 hb; have n1_ := bb_ BK390 hb; have n2_ := bb_ BK391 hb; have n3_ := Aside0.mk (below_step (bl_ HB).out hb); clear BK389; clear BK390; clear BK391; clear HB; have BK389 := n0_; have BK390 := n1_; have BK391 := n2_; have HB := n3_; clear n0_ n1_ n2_ n3_; (try clear hb); (try clear hb2); (try clear hk); (try clear hi)) | ((with_reducible refine gate_dst (N := 9) rfl ?_); refine box_event ?hg (N := 9) ?hd (cs := #[.bool false, .string (⟨#[]⟩ : ByteArray), .int .i64 0]) (t := 30) ?hr ?_; (case hd => rfl); (case hg => rfl); (case hr => first | (go_simp; done) | (go_simp; rfl)); intro gb404 hg w47 hbox hb; have n0_ := bb_ BK389 hb; have n1_ := bb_ BK390 hb; have n2_ := bb_ BK391 hb; have n3_ := Aside0.mk (below_step (bl_ HB).out hb); have n4_ := Aside0.mk (hbox); have n5_ := Aside0.mk ((by rw [hg]; exact (below_size (bl_ HB).out) : w.heap.size ≤ gb404)); have n6_ := Aside0.mk ((by rw [hg]; exact (below_size (bl_ HB).out) : w.heap.size ≤ gb404)); have n7_ := Aside0.mk ((by rw [hg]; exact Nat.ne_of_lt (blk_lt (g := gb389) (o := .cells #[.bool t392, .string t393, .int .i64 t394] 30 (0, 0)) (by (with_reducible repeat (first | refine blk_drewN ?_ _ | refine blk_drew ?_ | refine blk_alloc ?_ _)); exact BK389.out)) : gb389 ≠ gb404)); have n8_ := Aside0.mk ((by rw [hg]; exact Nat.ne_of_gt (blk_lt (g := gb389) (o := .cells #[.bool t392, .string t393, .int .i64 t394] 30 (0, 0)) (by (with_reducible repeat (first | refine blk_drewN ?_ _ | refine blk_drew ?_ | refine blk_alloc ?_ _)); exact BK389.out)) : gb404 ≠ gb389)); have n9_ := Aside0.mk ((by rw [hg]; exact Nat.ne_of_lt (blk_lt (g := gb390) (o := .cells #[.bool t395, .string t396, .int .i64 t397] 30 (0, 0)) (by (with_reducible repeat (first | refine blk_drewN ?_ _ | refine blk_drew ?_ | refine blk_alloc ?_ _)); exact BK390.out)) : gb390 ≠ gb404)); have n10_ := Aside0.mk ((by rw [hg]; exact Nat.ne_of_gt (blk_lt (g := gb390) (o := .cells #[.bool t395, .string t396, .int .i64 t397] 30 (0, 0)) (by (with_reducible repeat (first | refine blk_drewN ?_ _ | refine blk_drew ?_ | refine blk_alloc ?_ _)); exact BK390.out)) : gb404 ≠ gb390)); have n11_ := Aside0.mk ((by rw [hg]; exact Nat.ne_of_lt (blk_lt (g := gb391) (o := .cells #[.bool false, .string (⟨#[]⟩ : ByteArray), .int .i64 0] 30 (0, 0)) (by (with_reducible repeat (first | refine blk_drewN ?_ _ | refine blk_drew ?_ | refine blk_alloc ?_ _)); exact BK391.out)) : gb391 ≠ gb404)); have n12_ := Aside0.mk ((by rw [hg]; exact Nat.ne_of_gt (blk_lt (g := gb391) (o := .cells #[.bool false, .string (⟨#[]⟩ : ByteArray), .int .i64 0] 30 (0, 0)) (by (with_reducible repeat (first | refine blk_drewN ?_ _ | refine blk_drew ?_ | refine blk_alloc ?_ _)); exact BK391.out)) : gb404 ≠ gb391)); clear BK389; clear BK390; clear BK391; clear HB; have BK389 := n0_; have BK390 := n1_; have BK391 := n2_; have HB := n3_; have BK404 := n4_; have GW404 := n5_; have GE404 := n6_; have NB389_404 := n7_; have NB404_389 := n8_; have NB390_404 := n9_; have NB404_390 := n10_; have NB391_404 := n11_; have NB404_391 := n12_; clear n0_ n1_ n2_ n3_ n4_ n5_ n6_ n7_ n8_ n9_ n10_ n11_ n12_; clear hb hbox hg; have hnb48 := NB404_389.out; have hnc48 := NB389_404.out; have hnb49 := NB404_390.out; have hnc49 := NB390_404.out; have hnb50 := NB404_391.out; have hnc50 := NB391_404.out; have hcz51_0 : w47.cell? ⟨gb404, 0, none⟩ = some (.bool false) := bc_ BK404 0; have hcz51_1 : w47.cell? ⟨gb404, 1, none⟩ = some (.string (⟨#[]⟩ : ByteArray)) := bc_ BK404 1; have hcz51_2 : w47.cell? ⟨gb404, 2, none⟩ = some (.int .i64 0) := bc_ BK404 2; have hfz51_0 := blk_frozen BK404.out 0; have hfz51_1 := blk_frozen BK404.out 1; have hfz51_2 := blk_frozen BK404.out 2) | ((with_reducible refine gate_callee (f := 43) rfl ?_); refine goesL_ (some 41) rfl rfl Tryd.func43 (by kernel_rfl) rfl #[.agg #[.bool t401, .string t402, .int .i64 t403]] rfl (by (try simp only [List.map_toArray, List.map_cons, List.map_nil]); first | done | rfl | (simp only [List.length_drop, List.length_take]; rfl) | (have z_ : ∀ s_ : ByteArray, s_.size ≤ 9223372036854775807 → -(s_.size : Int) = wrap64 (-(s_.size : Int)) := (fun s_ h_ => by unfold wrap64; omega); rw [← z_ _ (by omega)]; rfl) | (simp only [ByteArray.size_append]; rfl)) ?_; (with_reducible refine (dec_Dec_Parts.calls kj6 t401 t402 t403 t405 t406 _ A33.out).mono ?_); rintro e w52 ⟨rfl, hb⟩; refine ⟨_, rfl, ?_⟩; have n0_ := Aside0.mk (blk_below (g := gb389) (o := .cells #[.bool t392, .string t393, .int .i64 t394] 30 (0, 0)) (by (with_reducible repeat (first | refine blk_drewN ?_ _ | refine blk_drew ?_ | refine blk_alloc ?_ _)); refine blk_far ?_ NB389_404.out _; (with_reducible repeat (first | refine blk_drewN ?_ _ | refine blk_drew ?_ | refine blk_alloc ?_ _)); refine blk_far ?_ NB389_404.out _; (with_reducible repeat (first | refine blk_drewN ?_ _ | refine blk_drew ?_ | refine blk_alloc ?_ _)); refine blk_far ?_ NB389_404.out _; (with_reducible repeat (first | refine blk_drewN ?_ _ | refine blk_drew ?_ | refine blk_alloc ?_ _)); exact BK389.out) hb); have n1_ := Aside0.mk (blk_below (g := gb390) (o := .cells #[.bool t395, .string t396, .int .i64 t397] 30 (0, 0)) (by (with_reducible repeat (first | refine blk_drewN ?_ _ | refine blk_drew ?_ | refine blk_alloc ?_ _)); refine blk_far ?_ NB390_404.out _; (with_reducible repeat (first | refine blk_drewN ?_ _ | refine blk_drew ?_ | refine blk_alloc ?_ _)); refine blk_far ?_ NB390_404.out _; (with_reducible repeat (first | refine blk_drewN ?_ _ | refine blk_drew ?_ | refine blk_alloc ?_ _)); refine blk_far ?_ NB390_404.out _; (with_reducible repeat (first | refine blk_drewN ?_ _ | refine blk_drew ?_ | refine blk_alloc ?_ _)); exact BK390.out) hb); have n2_ := Aside0.mk (blk_below (g := gb391) (o := .cells #[.bool false, .string (⟨#[]⟩ : ByteArray), .int .i64 0] 30 (0, 0)) (by (with_reducible repeat (first | refine blk_drewN ?_ _ | refine blk_drew ?_ | refine blk_alloc ?_ _)); refine blk_far ?_ NB391_404.out _; (with_reducible repeat (first | refine blk_drewN ?_ _ | refine blk_drew ?_ | refine blk_alloc ?_ _)); refine blk_far ?_ NB391_404.out _; (with_reducible repeat (first | refine blk_drewN ?_ _ | refine blk_drew ?_ | refine blk_alloc ?_ _)); refine blk_far ?_ NB391_404.out _; (with_reducible repeat (first | refine blk_drewN ?_ _ | refine blk_drew ?_ | refine blk_alloc ?_ _)); exact BK391.out) hb); have n3_ := Aside0.mk (blk_below (g := gb404) (o := .cells #[.bool t401, .string t402, .int .i64 t403] 30 (0, 0)) (by (with_reducible repeat (first | refine blk_drewN ?_ _ | refine blk_drew ?_ | refine blk_alloc ?_ _)); refine blk_put (cs := #[.bool t401, .string t402, .int .i64 0]) ?_ 2 _ rfl; (with_reducible repeat (first | refine blk_drewN ?_ _ | refine blk_drew ?_ | refine blk_alloc ?_ _)); refine blk_put (cs := #[.bool t401, .string (⟨#[]⟩ : ByteArray), .int .i64 0]) ?_ 1 _ rfl; (with_reducible repeat (first | refine blk_drewN ?_ _ | refine blk_drew ?_ | refine blk_alloc ?_ _)); refine blk_put (cs := #[.bool false, .string (⟨#[]⟩ : ByteArray), .int .i64 0]) ?_ 0 _ rfl; (with_reducible repeat (first | refine blk_drewN ?_ _ | refine blk_drew ?_ | refine blk_alloc ?_ _)); exact BK404.out) hb); have n4_ := Aside0.mk (below_step (bl_ HB).out hb); clear BK389; clear BK390; clear BK391; clear BK404; clear HB; have BK389 := n0_; have BK390 := n1_; have BK391 := n2_; have BK404 := n3_; have HB := n4_; clear n0_ n1_ n2_ n3_ n4_; (try clear hb); (try clear hb2); (try clear hk); (try clear hi)) | ((with_reducible refine gate_callee (f := 44) rfl ?_); refine goesL_ (some 47) rfl rfl Tryd.func44 (by kernel_rfl) rfl #[.string t405, .int .i64 t398] rfl (by (try simp only [List.map_toArray, List.map_cons, List.map_nil]); first | done | rfl | (simp only [List.length_drop, List.length_take]; rfl) | (have z_ : ∀ s_ : ByteArray, s_.size ≤ 9223372036854775807 → -(s_.size : Int) = wrap64 (-(s_.size : Int)) := (fun s_ h_ => by unfold wrap64; omega); rw [← z_ _ (by omega)]; rfl) | (simp only [ByteArray.size_append]; rfl)) ?_; (with_reducible refine (num_Div.calls kj6 t405 t398 t407 t408 _ A34.out).mono ?_); rintro e w53 ⟨rfl, hb⟩; refine ⟨_, rfl, ?_⟩; have n0_ := bb_ BK389 hb; have n1_ := bb_ BK390 hb; have n2_ := bb_ BK391 hb; have n3_ := bb_ BK404 hb; have n4_ := Aside0.mk (below_step (bl_ HB).out hb); clear BK389; clear BK390; clear BK391; clear BK404; clear HB; have BK389 := n0_; have BK390 := n1_; have BK391 := n2_; have BK404 := n3_; have HB := n4_; clear n0_ n1_ n2_ n3_ n4_; (try clear hb); (try clear hb2); (try clear hk); (try clear hi)))
        replace BK389 := Aside0.mk (blk_drew BK389.out)
        replace BK390 := Aside0.mk (blk_drew BK390.out)
        replace BK391 := Aside0.mk (blk_drew BK391.out)
        replace BK404 := Aside0.mk (blk_drew BK404.out)
        replace HB := Aside0.mk (below_drew1 HB.out)
        refine start_ (n := 13) (S := fun w' => w'.cell? ⟨gb389, 0, none⟩ = some (.bool t392) ∧ w'.cell? ⟨gb389, 1, none⟩ = some (.string t393) ∧ w'.cell? ⟨gb389, 2, none⟩ = some (.int .i64 t394)) (ds := []) #[false, false, false, false, false, false, false, false, false, false, false, false, false] (by kernel_rfl) rfl rfl ⟨bc_ BK389 0, bc_ BK389 1, bc_ BK389 2⟩ (fun hHeld => ?_); refine with_tabW round_Step.tab8 round_Step.bits8 (fun HT_ HW_ => ?_)
        generalize w53.drew = w54 at BK389 BK390 BK391 BK404 HB hHeld ⊢
        refine pu_ 0 50 (bm_ 13 1) HT_ ?_
        refine pu_ 1 51 (bm_ 13 3) HT_ ?_
        refine pu_ 2 52 (bm_ 13 7) HT_ ?_
        refine pu_ 4 54 (bm_ 13 23) HT_ ?_
        refine pu_ 6 56 (bm_ 13 87) HT_ ?_
        refine pu_ 7 57 (bm_ 13 215) HT_ ?_
        refine pu_ 8 58 (bm_ 13 471) HT_ ?_
        refine tk_ 3 53 (bm_ 13 479) HT_ HW_ hHeld rfl (by rintro w' ⟨s0, s1, s2⟩; go_simp; with_reducible rfl) ?_
        refine one_ (i := 5) (N := some 55) (bm_ 13 511) rfl rfl (one_of HT_.out (by kernel_rfl)) (by decide) (fun K hK => ?_)
        refine gs_ Tryd.func35 #[.string t407] ?_
        with_reducible refine (round_odd.calls t407 t409 _ A35.out).mono ?_
        rintro e w' ⟨rfl, ⟨nd, rfl⟩⟩
        refine ⟨_, rfl, ?_⟩
        refine hK.out _ _ ⟨bc_ BK389 0, bc_ BK389 1, bc_ BK389 2⟩ (fun hHeld => ?_)
        clear hK K
        refine nm_ 55 ?_
        refine one_ (i := 9) (N := some 59) (bm_ 13 1023) rfl rfl (one_of HT_.out (by kernel_rfl)) (by decide) (fun K hK => ?_)
        refine gs_ Tryd.func45 #[.int .i64 t408, .string t406, .int .i64 t398] ?_
        with_reducible refine (round_between.calls kj6 t408 t406 t398 t410 _ A36.out).mono ?_
        rintro e w' ⟨rfl, ⟨nd, rfl⟩⟩
        refine ⟨_, rfl, ?_⟩
        refine hK.out _ _ ⟨bc_ BK389 0, bc_ BK389 1, bc_ BK389 2⟩ (fun hHeld => ?_)
        clear hK K
        refine nm_ 59 ?_
        refine one_ (i := 10) (N := some 60) (bm_ 13 2047) rfl rfl (one_of HT_.out (by kernel_rfl)) (by decide) (fun K hK => ?_)
        refine gs_ Tryd.func34 #[.int .i64 a2, .bool t392, .bool t409, .int .i64 t410] ?_
        with_reducible refine (round_Mode_up.calls a2 t392 t409 t410 t411 _ A37.out).mono ?_
        rintro e w' ⟨rfl, ⟨nd, rfl⟩⟩
        refine ⟨_, rfl, ?_⟩
        refine hK.out _ _ ⟨bc_ BK389 0, bc_ BK389 1, bc_ BK389 2⟩ (fun hHeld => ?_)
        clear hK K
        refine nm_ 60 ?_
        refine one_ (i := 11) (N := some 61) (bm_ 13 4095) rfl rfl (one_of HT_.out (by kernel_rfl)) (by decide) (fun K hK => ?_)
        refine gs_ Tryd.func33 #[.string t407, .bool t411] ?_
        with_reducible refine (round_step.calls kj6 t407 t411 t412 _ A38.out).mono ?_
        rintro e w55 ⟨rfl, hb⟩
        refine ⟨_, rfl, ?_⟩
        replace BK389 := bb_ BK389 hb
        replace BK390 := bb_ BK390 hb
        replace BK391 := bb_ BK391 hb
        replace BK404 := bb_ BK404 hb
        replace HB := Aside0.mk (below_step (bl_ HB).out hb)
        (try clear hb)
        (try clear hb2)
        (try clear hk)
        (try clear hi)
        refine hK.out _ _ ⟨bc_ BK389 0, bc_ BK389 1, bc_ BK389 2⟩ (fun hHeld => ?_)
        clear hK K
        refine nm_ 61 ?_
        refine pu_ 12 12 (bm_ 13 8191) HT_ ?_
        refine done_ (done_of HT_.out (by kernel_rfl)) ?_
        try go_wp2
        replace BK389 := Aside0.mk (blk_drew BK389.out)
        replace BK390 := Aside0.mk (blk_drew BK390.out)
        replace BK391 := Aside0.mk (blk_drew BK391.out)
        replace BK404 := Aside0.mk (blk_drew BK404.out)
        replace HB := Aside0.mk (below_drew1 HB.out)
        refine start_ (n := 9) (S := fun w' => w'.cell? ⟨gb389, 0, none⟩ = some (.bool t392) ∧ w'.cell? ⟨gb389, 1, none⟩ = some (.string t393) ∧ w'.cell? ⟨gb389, 2, none⟩ = some (.int .i64 t394) ∧ w'.cell? ⟨gb390, 0, none⟩ = some (.bool t395) ∧ w'.cell? ⟨gb390, 1, none⟩ = some (.string t396) ∧ w'.cell? ⟨gb390, 2, none⟩ = some (.int .i64 t397)) (ds := []) #[false, false, false, false, false, false, false, false, false] (by kernel_rfl) rfl rfl ⟨bc_ BK389 0, bc_ BK389 1, bc_ BK389 2, bc_ BK390 0, bc_ BK390 1, bc_ BK390 2⟩ (fun hHeld => ?_); refine with_tabW round_Step.tab9 round_Step.bits9 (fun HT_ HW_ => ?_)
        generalize w55.drew = w56 at BK389 BK390 BK391 BK404 HB hHeld ⊢
        refine pu_ 0 62 #[true, false, false, false, false, false, false, false, false] HT_ ?_
        refine pu_ 2 64 #[true, false, true, false, false, false, false, false, false] HT_ ?_
        refine pu_ 3 65 #[true, false, true, true, false, false, false, false, false] HT_ ?_
        refine pu_ 5 67 #[true, false, true, true, false, true, false, false, false] HT_ ?_
        refine tk_ 1 63 #[true, true, true, true, false, true, false, false, false] HT_ HW_ hHeld rfl (by rintro w' ⟨s0, s1, s2, s3, s4, s5⟩; go_simp; with_reducible rfl) ?_
        refine tk_ 6 68 #[true, true, true, true, false, true, true, false, false] HT_ HW_ hHeld rfl (by rintro w' ⟨s0, s1, s2, s3, s4, s5⟩; go_simp; with_reducible rfl) ?_
        refine one_ (i := 4) (N := some 66) #[true, true, true, true, true, true, true, false, false] rfl rfl (one_of HT_.out (by kernel_rfl)) (by decide) (fun K hK => ?_)
        refine gs_ Tryd.func46 #[.string t412, .int .i64 t398] ?_
        with_reducible refine (num_Times.calls kj6 t412 t398 t413 _ A39.out).mono ?_
        rintro e w57 ⟨rfl, hb⟩
        refine ⟨_, rfl, ?_⟩
        replace BK389 := bb_ BK389 hb
        replace BK390 := bb_ BK390 hb
        replace BK391 := bb_ BK391 hb
        replace BK404 := bb_ BK404 hb
        replace HB := Aside0.mk (below_step (bl_ HB).out hb)
        (try clear hb)
        (try clear hb2)
        (try clear hk)
        (try clear hi)
        refine hK.out _ _ ⟨bc_ BK389 0, bc_ BK389 1, bc_ BK389 2, bc_ BK390 0, bc_ BK390 1, bc_ BK390 2⟩ (fun hHeld => ?_)
        clear hK K
        refine nm_ 66 ?_
        refine one_ (i := 7) (N := some 69) #[true, true, true, true, true, true, true, true, false] rfl rfl (one_of HT_.out (by kernel_rfl)) (by decide) (fun K hK => ?_)
        refine gs_ Tryd.func23 #[.bool t392, .string t413, .int .i64 t397] ?_
        with_reducible refine (dec_Made.calls kj6 t392 t413 t397 t414 t415 t416 _ A40.out).mono ?_
        rintro e w58 ⟨rfl, hb⟩
        refine ⟨_, rfl, ?_⟩
        replace BK389 := bb_ BK389 hb
        replace BK390 := bb_ BK390 hb
        replace BK391 := bb_ BK391 hb
        replace BK404 := bb_ BK404 hb
        replace HB := Aside0.mk (below_step (bl_ HB).out hb)
        (try clear hb)
        (try clear hb2)
        (try clear hk)
        (try clear hi)
        refine hK.out _ _ ⟨bc_ BK389 0, bc_ BK389 1, bc_ BK389 2, bc_ BK390 0, bc_ BK390 1, bc_ BK390 2⟩ (fun hHeld => ?_)
        clear hK K
        refine nm_ 69 ?_
        refine one_ (i := 8) (N := none) #[true, true, true, true, true, true, true, true, true] rfl rfl (one_of HT_.out (by kernel_rfl)) (by decide) (fun K hK => ?_)
        have hs59 : w58.cell? ⟨gb391, 0, none⟩ = some (.bool false) := bc_ BK391 0
        have hfs59 := blk_frozen BK391.out 0
        have hns59_0 := NB389_391.out
        have hns59_1 := NB390_391.out
        have hns59_3 := NB404_391.out
        have hms59_0 := NB391_389.out
        have hms59_1 := NB391_390.out
        have hms59_3 := NB391_404.out
        have hs60 : w58.cell? ⟨gb391, 1, none⟩ = some (.string (⟨#[]⟩ : ByteArray)) := bc_ BK391 1
        have hfs60 := blk_frozen BK391.out 1
        have hns60_0 := NB389_391.out
        have hns60_1 := NB390_391.out
        have hns60_3 := NB404_391.out
        have hms60_0 := NB391_389.out
        have hms60_1 := NB391_390.out
        have hms60_3 := NB391_404.out
        have hs61 : w58.cell? ⟨gb391, 2, none⟩ = some (.int .i64 0) := bc_ BK391 2
        have hfs61 := blk_frozen BK391.out 2
        have hns61_0 := NB389_391.out
        have hns61_1 := NB390_391.out
        have hns61_3 := NB404_391.out
        have hms61_0 := NB391_389.out
        have hms61_1 := NB391_390.out
        have hms61_3 := NB391_404.out
        refine skip_ (w1 := ?_) (by rfl) rfl ?_ ?_
        rotate_left
        · go_simp
          rfl
        refine hK.out _ _ ⟨((cell_far (p := ⟨gb391, _, none⟩) NB389_391.out _).trans (((cell_far (p := ⟨gb391, _, none⟩) NB389_391.out _).trans (((cell_far (p := ⟨gb391, _, none⟩) NB389_391.out _).trans (hHeld.1)))))), ((cell_far (p := ⟨gb391, _, none⟩) NB389_391.out _).trans (((cell_far (p := ⟨gb391, _, none⟩) NB389_391.out _).trans (((cell_far (p := ⟨gb391, _, none⟩) NB389_391.out _).trans (hHeld.2.1)))))), ((cell_far (p := ⟨gb391, _, none⟩) NB389_391.out _).trans (((cell_far (p := ⟨gb391, _, none⟩) NB389_391.out _).trans (((cell_far (p := ⟨gb391, _, none⟩) NB389_391.out _).trans (hHeld.2.2.1)))))), ((cell_far (p := ⟨gb391, _, none⟩) NB390_391.out _).trans (((cell_far (p := ⟨gb391, _, none⟩) NB390_391.out _).trans (((cell_far (p := ⟨gb391, _, none⟩) NB390_391.out _).trans (hHeld.2.2.2.1)))))), ((cell_far (p := ⟨gb391, _, none⟩) NB390_391.out _).trans (((cell_far (p := ⟨gb391, _, none⟩) NB390_391.out _).trans (((cell_far (p := ⟨gb391, _, none⟩) NB390_391.out _).trans (hHeld.2.2.2.2.1)))))), ((cell_far (p := ⟨gb391, _, none⟩) NB390_391.out _).trans (((cell_far (p := ⟨gb391, _, none⟩) NB390_391.out _).trans (((cell_far (p := ⟨gb391, _, none⟩) NB390_391.out _).trans (hHeld.2.2.2.2.2))))))⟩ (fun hHeld => ?_)
        clear hK K
        refine done_ (done_of HT_.out (by kernel_rfl)) ?_
        try go_wp2
        refine bodyPost_ret (results_cell_row rfl _ _ gb391 30 #[.bool t414, .string t415, .int .i64 t416] (0, 0) _ rfl (by (with_reducible repeat (first | refine blk_drewN ?_ _ | refine blk_drew ?_ | refine blk_alloc ?_ _)); refine blk_put (cs := #[.bool t414, .string t415, .int .i64 0]) ?_ 2 _ rfl; (with_reducible repeat (first | refine blk_drewN ?_ _ | refine blk_drew ?_ | refine blk_alloc ?_ _)); refine blk_put (cs := #[.bool t414, .string (⟨#[]⟩ : ByteArray), .int .i64 0]) ?_ 1 _ rfl; (with_reducible repeat (first | refine blk_drewN ?_ _ | refine blk_drew ?_ | refine blk_alloc ?_ _)); refine blk_put (cs := #[.bool false, .string (⟨#[]⟩ : ByteArray), .int .i64 0]) ?_ 0 _ rfl; (with_reducible repeat (first | refine blk_drewN ?_ _ | refine blk_drew ?_ | refine blk_alloc ?_ _)); exact BK391.out) Tryd.underlying30 rfl (by kernel_rfl)) rfl ?_
        exact ⟨by first | rfl | (simp [errW_none, errW_some] <;> rfl) | (simp [*, errW_none, errW_some] <;> first | rfl | exact given_isEmpty _ | exact (given_isEmpty _).symm), by repeat (first | (with_reducible first | exact HB.out | apply below_alloc | apply pw_below_drewN | apply below_drew1 | refine below_set ?_ GE389.out | refine below_set ?_ GE390.out | refine below_set ?_ GE391.out | refine below_set ?_ GE404.out) | exact HB.out)⟩

end Go.Proofs.YtoegmienlhgjnaaDoor.P
