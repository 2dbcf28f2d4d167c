-- written by a program of this session (wip/p2)
import Derived.Test.YtlkiaeipbekpkaaDoorPx0
import Derived.Test.YtlkiaeipbekpkaaDoorPx5
namespace Go.Proofs.YtlkiaeipbekpkaaDoor.P
open Go.RowKit Go.Proofs.YtlkiaeipbekpkaaDoorW.PrintWords Go.Proofs.YtlkiaeipbekpkaaDoorW.PrintLast Go.Proofs.YtlkiaeipbekpkaaDoorW.PrintMore
attribute [local go_sem] max2_int min2_int max_two min_two max_three min_three max_four min_four   -- for this text's walks alone
set_option linter.unusedVariables false
set_option linter.unusedSimpArgs false

/-! ### florinlaw02_form: function 13 -/
mutual
def florinlaw02_form.j0 : Nat → ByteArray → Int → Bool → Option (Bool)
  | 0, _, _, _ => none
  | k + 1, x0, x3, x14 => if x14 = true then (florinlaw02_form.j1 k x0 (wrap64 (x3 + 1))) else (florinlaw02_form.j1 k x0 x3)
def florinlaw02_form.j1 : Nat → ByteArray → Int → Option (Bool)
  | 0, _, _ => none
  | k + 1, x0, x3 => (florinlaw02_run.f k x0 x3).bind fun t197 => (if t197 = 0 then (some false) else (if (wrap64 (x3 + t197)) < (x0.size : Int) then (if 0 ≤ (wrap64 (x3 + t197)) then (florinlaw02_form.j2 k x0 (wrap64 (x3 + t197)) ((bt x0 (wrap64 (x3 + t197))) == 46)) else (none)) else (florinlaw02_form.j2 k x0 (wrap64 (x3 + t197)) false)))
def florinlaw02_form.j2 : Nat → ByteArray → Int → Bool → Option (Bool)
  | 0, _, _, _ => none
  | k + 1, x0, x3, x34 => if x34 = true then ((florinlaw02_run.f k x0 (wrap64 (x3 + 1))).bind fun t198 => (if t198 = 0 then (some false) else (florinlaw02_form.j3 k x0 (wrap64 (x3 + (wrap64 (1 + t198))))))) else (florinlaw02_form.j3 k x0 x3)
def florinlaw02_form.j3 : Nat → ByteArray → Int → Option (Bool)
  | 0, _, _ => none
  | k + 1, x0, x3 => if x3 < (x0.size : Int) then (if 0 ≤ x3 then (if (bt x0 x3) = 101 then (florinlaw02_form.j4 k x0 x3 true) else (florinlaw02_form.j4 k x0 x3 ((bt x0 x3) == 69))) else (none)) else (florinlaw02_form.j4 k x0 x3 false)
def florinlaw02_form.j4 : Nat → ByteArray → Int → Bool → Option (Bool)
  | 0, _, _, _ => none
  | k + 1, x0, x3, x60 => if x60 = true then (if (wrap64 (x3 + 1)) < (x0.size : Int) then (if 0 ≤ (wrap64 (x3 + 1)) then (if (bt x0 (wrap64 (x3 + 1))) = 43 then (florinlaw02_form.j5 k x0 (wrap64 (x3 + 1)) true) else (florinlaw02_form.j5 k x0 (wrap64 (x3 + 1)) ((bt x0 (wrap64 (x3 + 1))) == 45))) else (none)) else (florinlaw02_form.j5 k x0 (wrap64 (x3 + 1)) false)) else (some (x3 == (x0.size : Int)))
def florinlaw02_form.j5 : Nat → ByteArray → Int → Bool → Option (Bool)
  | 0, _, _, _ => none
  | k + 1, x0, x3, x78 => if x78 = true then ((florinlaw02_run.f k x0 (wrap64 (x3 + 1))).bind fun t199 => (if t199 = 0 then (some false) else (some ((wrap64 ((wrap64 (x3 + 1)) + t199)) == (x0.size : Int))))) else ((florinlaw02_run.f k x0 x3).bind fun t200 => (if t200 = 0 then (some false) else (some ((wrap64 (x3 + t200)) == (x0.size : Int)))))
end
def florinlaw02_form.f (k : Nat) (a0 : ByteArray) : Option (Bool) := if 0 < (a0.size : Int) then (florinlaw02_form.j0 k a0 0 ((bt a0 0) == 45)) else (florinlaw02_form.j0 k a0 0 false)
theorem florinlaw02_form.mono_l : ∀ k, (∀ y0 y1 y2, LeO (florinlaw02_form.j0 k y0 y1 y2) (florinlaw02_form.j0 (k + 1) y0 y1 y2)) ∧ (∀ y0 y1, LeO (florinlaw02_form.j1 k y0 y1) (florinlaw02_form.j1 (k + 1) y0 y1)) ∧ (∀ y0 y1 y2, LeO (florinlaw02_form.j2 k y0 y1 y2) (florinlaw02_form.j2 (k + 1) y0 y1 y2)) ∧ (∀ y0 y1, LeO (florinlaw02_form.j3 k y0 y1) (florinlaw02_form.j3 (k + 1) y0 y1)) ∧ (∀ y0 y1 y2, LeO (florinlaw02_form.j4 k y0 y1 y2) (florinlaw02_form.j4 (k + 1) y0 y1 y2)) ∧ (∀ y0 y1 y2, LeO (florinlaw02_form.j5 k y0 y1 y2) (florinlaw02_form.j5 (k + 1) y0 y1 y2))
  | 0 => ⟨fun _ _ _ r h => by simp [florinlaw02_form.j0] at h, fun _ _ r h => by simp [florinlaw02_form.j1] at h, fun _ _ _ r h => by simp [florinlaw02_form.j2] at h, fun _ _ r h => by simp [florinlaw02_form.j3] at h, fun _ _ _ r h => by simp [florinlaw02_form.j4] at h, fun _ _ _ r h => by simp [florinlaw02_form.j5] at h⟩
  | k + 1 => by
    obtain ⟨ih0, ih1, ih2, ih3, ih4, ih5⟩ := florinlaw02_form.mono_l k
    refine ⟨?_, ?_, ?_, ?_, ?_, ?_⟩
    · intro y0 y1 y2
      unfold florinlaw02_form.j0
      repeat' first
      | (with_reducible exact ih0 _ _ _)
      | (with_reducible exact ih1 _ _)
      | (with_reducible exact ih2 _ _ _)
      | (with_reducible exact ih3 _ _)
      | (with_reducible exact ih4 _ _ _)
      | (with_reducible exact ih5 _ _ _)
      | (with_reducible exact florinlaw02_run.mono _ _ _)
      | (with_reducible exact LeO.refl _)
      | (with_reducible exact LeO.none _)
      | (with_reducible refine LeO.ite ?_ ?_)
      | (with_reducible refine LeO.bind ?_ (fun _ => ?_))
      | exact ih0 _ _ _
      | exact ih1 _ _
      | exact ih2 _ _ _
      | exact ih3 _ _
      | exact ih4 _ _ _
      | exact ih5 _ _ _
      | exact florinlaw02_run.mono _ _ _
      | exact LeO.none _
      | refine LeO.ite ?_ ?_
      | refine LeO.bind ?_ (fun _ => ?_)
    · intro y0 y1
      unfold florinlaw02_form.j1
      repeat' first
      | (with_reducible exact ih0 _ _ _)
      | (with_reducible exact ih1 _ _)
      | (with_reducible exact ih2 _ _ _)
      | (with_reducible exact ih3 _ _)
      | (with_reducible exact ih4 _ _ _)
      | (with_reducible exact ih5 _ _ _)
      | (with_reducible exact florinlaw02_run.mono _ _ _)
      | (with_reducible exact LeO.refl _)
      | (with_reducible exact LeO.none _)
      | (with_reducible refine LeO.ite ?_ ?_)
      | (with_reducible refine LeO.bind ?_ (fun _ => ?_))
      | exact ih0 _ _ _
      | exact ih1 _ _
      | exact ih2 _ _ _
      | exact ih3 _ _
      | exact ih4 _ _ _
      | exact ih5 _ _ _
      | exact florinlaw02_run.mono _ _ _
      | exact LeO.none _
      | refine LeO.ite ?_ ?_
      | refine LeO.bind ?_ (fun _ => ?_)
    · intro y0 y1 y2
      unfold florinlaw02_form.j2
      repeat' first
      | (with_reducible exact ih0 _ _ _)
      | (with_reducible exact ih1 _ _)
      | (with_reducible exact ih2 _ _ _)
      | (with_reducible exact ih3 _ _)
      | (with_reducible exact ih4 _ _ _)
      | (with_reducible exact ih5 _ _ _)
      | (with_reducible exact florinlaw02_run.mono _ _ _)
      | (with_reducible exact LeO.refl _)
      | (with_reducible exact LeO.none _)
      | (with_reducible refine LeO.ite ?_ ?_)
      | (with_reducible refine LeO.bind ?_ (fun _ => ?_))
      | exact ih0 _ _ _
      | exact ih1 _ _
      | exact ih2 _ _ _
      | exact ih3 _ _
      | exact ih4 _ _ _
      | exact ih5 _ _ _
      | exact florinlaw02_run.mono _ _ _
      | exact LeO.none _
      | refine LeO.ite ?_ ?_
      | refine LeO.bind ?_ (fun _ => ?_)
    · intro y0 y1
      unfold florinlaw02_form.j3
      repeat' first
      | (with_reducible exact ih0 _ _ _)
      | (with_reducible exact ih1 _ _)
      | (with_reducible exact ih2 _ _ _)
      | (with_reducible exact ih3 _ _)
      | (with_reducible exact ih4 _ _ _)
      | (with_reducible exact ih5 _ _ _)
      | (with_reducible exact florinlaw02_run.mono _ _ _)
      | (with_reducible exact LeO.refl _)
      | (with_reducible exact LeO.none _)
      | (with_reducible refine LeO.ite ?_ ?_)
      | (with_reducible refine LeO.bind ?_ (fun _ => ?_))
      | exact ih0 _ _ _
      | exact ih1 _ _
      | exact ih2 _ _ _
      | exact ih3 _ _
      | exact ih4 _ _ _
      | exact ih5 _ _ _
      | exact florinlaw02_run.mono _ _ _
      | exact LeO.none _
      | refine LeO.ite ?_ ?_
      | refine LeO.bind ?_ (fun _ => ?_)
    · intro y0 y1 y2
      unfold florinlaw02_form.j4
      repeat' first
      | (with_reducible exact ih0 _ _ _)
      | (with_reducible exact ih1 _ _)
      | (with_reducible exact ih2 _ _ _)
      | (with_reducible exact ih3 _ _)
      | (with_reducible exact ih4 _ _ _)
      | (with_reducible exact ih5 _ _ _)
      | (with_reducible exact florinlaw02_run.mono _ _ _)
      | (with_reducible exact LeO.refl _)
      | (with_reducible exact LeO.none _)
      | (with_reducible refine LeO.ite ?_ ?_)
      | (with_reducible refine LeO.bind ?_ (fun _ => ?_))
      | exact ih0 _ _ _
      | exact ih1 _ _
      | exact ih2 _ _ _
      | exact ih3 _ _
      | exact ih4 _ _ _
      | exact ih5 _ _ _
      | exact florinlaw02_run.mono _ _ _
      | exact LeO.none _
      | refine LeO.ite ?_ ?_
      | refine LeO.bind ?_ (fun _ => ?_)
    · intro y0 y1 y2
      unfold florinlaw02_form.j5
      repeat' first
      | (with_reducible exact ih0 _ _ _)
      | (with_reducible exact ih1 _ _)
      | (with_reducible exact ih2 _ _ _)
      | (with_reducible exact ih3 _ _)
      | (with_reducible exact ih4 _ _ _)
      | (with_reducible exact ih5 _ _ _)
      | (with_reducible exact florinlaw02_run.mono _ _ _)
      | (with_reducible exact LeO.refl _)
      | (with_reducible exact LeO.none _)
      | (with_reducible refine LeO.ite ?_ ?_)
      | (with_reducible refine LeO.bind ?_ (fun _ => ?_))
      | exact ih0 _ _ _
      | exact ih1 _ _
      | exact ih2 _ _ _
      | exact ih3 _ _
      | exact ih4 _ _ _
      | exact ih5 _ _ _
      | exact florinlaw02_run.mono _ _ _
      | exact LeO.none _
      | refine LeO.ite ?_ ?_
      | refine LeO.bind ?_ (fun _ => ?_)
theorem florinlaw02_form.mono : ∀ a0 k, LeO (florinlaw02_form.f k a0) (florinlaw02_form.f (k + 1) a0) := by
  intro a0 k
  obtain ⟨ih0, ih1, ih2, ih3, ih4, ih5⟩ := florinlaw02_form.mono_l k
  unfold florinlaw02_form.f
  repeat' first
      | (with_reducible exact ih0 _ _ _)
      | (with_reducible exact ih1 _ _)
      | (with_reducible exact ih2 _ _ _)
      | (with_reducible exact ih3 _ _)
      | (with_reducible exact ih4 _ _ _)
      | (with_reducible exact ih5 _ _ _)
      | (with_reducible exact florinlaw02_run.mono _ _ _)
      | (with_reducible exact LeO.refl _)
      | (with_reducible exact LeO.none _)
      | (with_reducible refine LeO.ite ?_ ?_)
      | (with_reducible refine LeO.bind ?_ (fun _ => ?_))
      | exact ih0 _ _ _
      | exact ih1 _ _
      | exact ih2 _ _ _
      | exact ih3 _ _
      | exact ih4 _ _ _
      | exact ih5 _ _ _
      | exact florinlaw02_run.mono _ _ _
      | exact LeO.none _
      | refine LeO.ite ?_ ?_
      | refine LeO.bind ?_ (fun _ => ?_)
set_option maxHeartbeats 8000000 in
set_option maxRecDepth 100000 in
theorem florinlaw02_form.calls (k : Nat) (a0 : ByteArray) (r : Bool) (w : World) (h : florinlaw02_form.f k a0 = some r) :
    Calls Tryd.prog 13 #[.string a0] w fun e w' => e = .returned (.bool r) ∧ Drawn0 w w' := by
  have H : (if 0 < (a0.size : Int) then (florinlaw02_form.j0 k a0 0 ((bt a0 0) == 45)) else (florinlaw02_form.j0 k a0 0 false)) = some r := h
  clear h
  have HC2 := Aside0.mk H
  clear H
  go_enter Tryd.func13, Tryd.ntmps13
  go_upto_region 2 with (fail)
  go_cut [14] (fun v14 wc => ∃ (kq : Nat) (x14_1 : Bool), v14 = .bool x14_1 ∧ Aside0 (florinlaw02_form.j0 kq a0 0 x14_1 = some r) ∧ Aside0 (kq ≤ k) ∧ Drawn0 w wc)
  case first =>
    have H := HC2.out
    clear HC2
    by_cases c3 : 0 < (a0.size : Int)
    · rw [if_pos c3] at H
      have c3b0 : decide (0 < (a0.size : Int)) = true := decide_eq_true c3
      have c3b1 : decide (0 < a0.size) = true := decide_eq_true (by omega)
      clear c3
      (first | rw [c3b0] | (simp only [i64_w, i32_w]; rw [c3b0]) | skip)
      have H' := Aside0.mk H
      clear H
      have p4 : 0 ≤ (0 : Int) := (by omega)
      have q4 : 0 < a0.size := (by have : (0 : Int) < (a0.size : Int) := of_decide_eq_true (by first | (with_reducible assumption) | assumption); omega)
      have hx4 : ∀ h : 0 < a0.size, ((a0[0]'h).toNat : Int) = bt a0 0 := bt_at a0 0
      clear p4
      have qi4 : (0 < (a0.size : Int)) = True := eq_true (of_decide_eq_true (by first | (with_reducible assumption) | assumption))
      replace q4 := eq_true q4
      go_wp2
      go_meet
      case rel => exact ⟨_, (((bt a0 0) == 45)), eq_, H', ⟨by first | omega | exact Nat.le_refl _⟩, by repeat (first | exact Drawn0.refl _ | apply Drawn0.step)⟩
    · rw [if_neg c3] at H
      have c3b0 : decide (0 < (a0.size : Int)) = false := decide_eq_false c3
      have c3b1 : decide (0 < a0.size) = false := decide_eq_false (by omega)
      clear c3
      (first | rw [c3b0] | (simp only [i64_w, i32_w]; rw [c3b0]) | skip)
      have H' := Aside0.mk H
      clear H
      go_wp2
      go_meet
      case rel => exact ⟨_, (false), eq_, H', ⟨by first | omega | exact Nat.le_refl _⟩, by repeat (first | exact Drawn0.refl _ | apply Drawn0.step)⟩
  case rest =>
    clear HC2
    try clear c1
    try clear p2
    try clear c3
    try clear c3b0
    try clear c3b1
    try clear p4
    try clear q4
    try clear hx4
    try clear qi4
    try clear p4
    try clear q4
    obtain ⟨kq, x14_1, rfl, HA, HJ1, ⟨mc1, rfl⟩⟩ := hcut
    cases kq with
    | zero => exact absurd HA.out (by simp [florinlaw02_form.j0])
    | succ kj1 =>
      have H := HA.out
      clear HA
      simp only [florinlaw02_form.j0] at H
      have HC5 := Aside0.mk H
      clear H
      go_upto_if 14 with (fail)
      go_cut [3] (fun v3 wc => ∃ (kq : Nat) (x3_4 : Int), v3 = .int .i64 x3_4 ∧ Aside0 (florinlaw02_form.j1 kq a0 x3_4 = some r) ∧ Aside0 (kq ≤ kj1) ∧ Drawn0 w wc)
      case first =>
        have H := HC5.out
        clear HC5
        by_cases c6 : x14_1 = true
        · subst c6
          have H1 : (florinlaw02_form.j1 kj1 a0 (wrap64 (0 + 1))) = some r := by rw [if_pos rfl] at H; exact H
          clear H
          have H := H1
          clear H1
          have H' := Aside0.mk H
          clear H
          go_wp2
          go_meet
          case rel => exact ⟨_, (wrap64 (0 + 1)), eq_, H', ⟨by have := HJ1.out; first | omega | exact Nat.le_refl _⟩, by repeat (first | exact Drawn0.refl _ | apply Drawn0.step)⟩
        · replace c6 := Bool.eq_false_iff.mpr c6
          subst c6
          have H1 : (florinlaw02_form.j1 kj1 a0 0) = some r := by rw [if_neg (show ¬ (false = true) by decide)] at H; exact H
          clear H
          have H := H1
          clear H1
          have H' := Aside0.mk H
          clear H
          go_wp2
          go_meet
          case rel => exact ⟨_, (0), eq_, H', ⟨by have := HJ1.out; first | omega | exact Nat.le_refl _⟩, by repeat (first | exact Drawn0.refl _ | apply Drawn0.step)⟩
      case rest =>
        clear HC5
        try clear c1
        try clear p2
        try clear c3
        try clear c3b0
        try clear c3b1
        try clear p4
        try clear q4
        try clear hx4
        try clear qi4
        try clear c6
        try clear p6
        try clear p2
        try clear p4
        try clear q4
        obtain ⟨kq, x3_4, rfl, HA, HJ4, ⟨mc4, rfl⟩⟩ := hcut
        cases kq with
        | zero => exact absurd HA.out (by simp [florinlaw02_form.j1])
        | succ kj4 =>
          have H := HA.out
          clear HA
          simp only [florinlaw02_form.j1] at H
          replace H := Option.bind_eq_some_iff.mp H
          obtain ⟨t197, A70, H⟩ := H
          replace H : (if t197 = 0 then (some false) else (if (wrap64 (x3_4 + t197)) < (a0.size : Int) then (if 0 ≤ (wrap64 (x3_4 + t197)) then (florinlaw02_form.j2 kj4 a0 (wrap64 (x3_4 + t197)) ((bt a0 (wrap64 (x3_4 + t197))) == 46)) else (none)) else (florinlaw02_form.j2 kj4 a0 (wrap64 (x3_4 + t197)) false))) = some r := H
          have A7 := Aside0.mk A70
          clear A70
          by_cases c8 : t197 = 0
          · rw [if_pos c8] at H
            have c8b0 : (t197 == 0) = true := beq_iff_eq.mpr c8
            have c8b1 : (t197 != 0) = false := bne_eq_false_iff_eq.mpr c8
            clear c8
            obtain rfl := Option.some.inj H
            go_wp2_with (first | ((with_reducible refine gate_callee (f := 43) rfl ?_); refine goesL_ (some 19) rfl rfl Tryd.func43 (by kernel_rfl) rfl #[.string a0, .int .i64 x3_4] rfl (by (try simp only [List.map_toArray, List.map_cons, List.map_nil]); first | done | rfl | (simp only [List.length_drop, List.length_take]; rfl) | (have z_ : ∀ s_ : ByteArray, s_.size ≤ 9223372036854775807 → -(s_.size : Int) = wrap64 (-(s_.size : Int)) := (fun s_ h_ => by unfold wrap64; omega); rw [← z_ _ (by omega)]; rfl)) ?_; (with_reducible refine (florinlaw02_run.calls kj4 a0 x3_4 t197 _ A7.out).mono ?_); rintro e w' ⟨rfl, ⟨nd, rfl⟩⟩; refine ⟨_, rfl, ?_⟩))
            go_ret
            exact ⟨by first | rfl | (simp; done) | (simp [*]; done) | (simp; first | exact given_isEmpty _ | exact (given_isEmpty _).symm) | (unfold wrap64; omega) | (congr 1; unfold wrap64; omega), by repeat (first | exact Drawn0.refl _ | apply Drawn0.step)⟩
          · rw [if_neg c8] at H
            have c8b0 : (t197 == 0) = false := beq_eq_false_iff_ne.mpr c8
            have c8b1 : (t197 != 0) = true := bne_iff_ne.mpr c8
            have HC9 := Aside0.mk H
            clear H
            go_upto_region 8 with (first | ((with_reducible refine gate_callee (f := 43) rfl ?_); refine goesL_ (some 19) rfl rfl Tryd.func43 (by kernel_rfl) rfl #[.string a0, .int .i64 x3_4] rfl (by (try simp only [List.map_toArray, List.map_cons, List.map_nil]); first | done | rfl | (simp only [List.length_drop, List.length_take]; rfl) | (have z_ : ∀ s_ : ByteArray, s_.size ≤ 9223372036854775807 → -(s_.size : Int) = wrap64 (-(s_.size : Int)) := (fun s_ h_ => by unfold wrap64; omega); rw [← z_ _ (by omega)]; rfl)) ?_; (with_reducible refine (florinlaw02_run.calls kj4 a0 x3_4 t197 _ A7.out).mono ?_); rintro e w' ⟨rfl, ⟨nd, rfl⟩⟩; refine ⟨_, rfl, ?_⟩))
            (try simp only [Act.put, List.setIfInBounds_toArray, List.set_cons_zero, List.set_cons_succ])
            go_cut [34] (fun v34 wc => ∃ (kq : Nat) (x34_8 : Bool), v34 = .bool x34_8 ∧ Aside0 (florinlaw02_form.j2 kq a0 (wrap64 (x3_4 + t197)) x34_8 = some r) ∧ Aside0 (kq ≤ kj4) ∧ Drawn0 w wc)
            case first =>
              have H := HC9.out
              clear HC9
              by_cases c10 : (wrap64 (x3_4 + t197)) < (a0.size : Int)
              · rw [if_pos c10] at H
                have c10b0 : decide ((wrap64 (x3_4 + t197)) < (a0.size : Int)) = true := decide_eq_true c10
                clear c10
                (first | rw [c10b0] | (simp only [i64_w, i32_w]; rw [c10b0]) | skip)
                obtain ⟨ji11, hji11⟩ : ∃ j_ : Int, (wrap64 (x3_4 + t197)) = j_ := ⟨_, rfl⟩
                replace H : (if 0 ≤ (ji11) then (florinlaw02_form.j2 kj4 a0 ji11 ((bt a0 (ji11)) == 46)) else (none)) = some r := by first | (rw [hji11] at H; exact H) | (simp only [hji11] at H ⊢; exact H)
                (try rw [hji11] at c10b0)
                have hji11w : (IntKind.i64.wrap (x3_4 + t197)) = ji11 := (i64_w _).trans hji11
                by_cases c12 : 0 ≤ (ji11)
                · rw [if_pos c12] at H
                  have c12b0 : decide (0 ≤ (ji11)) = true := decide_eq_true c12
                  clear c12
                  have H' := Aside0.mk H
                  clear H
                  have p13 : 0 ≤ ((ji11) : Int) := of_decide_eq_true (by first | (with_reducible assumption) | assumption)
                  have q13 : (ji11) < (a0.size : Int) := of_decide_eq_true (by first | (with_reducible assumption) | assumption)
                  have hx13 := bt_at a0 (ji11)
                  replace p13 := eq_true p13
                  replace q13 := eq_true q13
                  go_wp2
                  go_meet
                  case rel => first | (exact ⟨_, (((bt a0 (ji11)) == 46)), (by first | rfl | (simp; done) | (simp only [← hji11] <;> (first | rfl | simp)) | (simp [*]; done)), (by first | exact H' | (rw [hji11]; exact H') | (simp only [hji11]; exact H')), ⟨by have := HJ1.out; have := HJ4.out; first | omega | exact Nat.le_refl _⟩, by repeat (first | exact Drawn0.refl _ | apply Drawn0.step)⟩) | (rw [← hji11] at H'; exact ⟨_, (((bt a0 (ji11)) == 46)), (by first | rfl | (simp; done) | (simp only [← hji11] <;> (first | rfl | simp)) | (simp [*]; done)), (by first | exact H' | (rw [hji11]; exact H') | (simp only [hji11]; exact H')), ⟨by have := HJ1.out; have := HJ4.out; first | omega | exact Nat.le_refl _⟩, by repeat (first | exact Drawn0.refl _ | apply Drawn0.step)⟩)
                · rw [if_neg c12] at H
                  exact absurd H (by simp)
              · rw [if_neg c10] at H
                have c10b0 : decide ((wrap64 (x3_4 + t197)) < (a0.size : Int)) = false := decide_eq_false c10
                clear c10
                (first | rw [c10b0] | (simp only [i64_w, i32_w]; rw [c10b0]) | skip)
                have H' := Aside0.mk H
                clear H
                go_wp2
                go_meet
                case rel => exact ⟨_, (false), eq_, H', ⟨by have := HJ1.out; have := HJ4.out; first | omega | exact Nat.le_refl _⟩, by repeat (first | exact Drawn0.refl _ | apply Drawn0.step)⟩
            case rest =>
              clear HC9
              try clear c1
              try clear p1
              try clear q1
              try clear hx1
              try clear p2
              try clear c3
              try clear c3b0
              try clear c3b1
              try clear c4
              try clear p4
              try clear q4
              try clear hx4
              try clear qi4
              try clear c6
              try clear p6
              try clear c8
              try clear c8b0
              try clear c8b1
              try clear c10
              try clear c10b0
              try clear c12
              try clear c12b0
              try clear c13
              try clear p13
              try clear q13
              try clear hx13
              try clear p13
              try clear p2
              try clear p4
              try clear p6
              try clear q13
              try clear q4
              obtain ⟨kq, x34_8, rfl, HA, HJ8, ⟨mc8, rfl⟩⟩ := hcut
              cases kq with
              | zero => exact absurd HA.out (by simp [florinlaw02_form.j2])
              | succ kj8 =>
                have H := HA.out
                clear HA
                simp only [florinlaw02_form.j2] at H
                have HC14 := Aside0.mk H
                clear H
                go_upto_if 34 with (fail)
                go_cut [3] (fun v3 wc => ∃ (kq : Nat) (x3_13 : Int), v3 = .int .i64 x3_13 ∧ Aside0 (florinlaw02_form.j3 kq a0 x3_13 = some r) ∧ Aside0 (kq ≤ kj8) ∧ Drawn0 w wc)
                case first =>
                  have H := HC14.out
                  clear HC14
                  by_cases c15 : x34_8 = true
                  · subst c15
                    have H1 : ((florinlaw02_run.f kj8 a0 (wrap64 ((wrap64 (x3_4 + t197)) + 1))).bind fun t198 => (if t198 = 0 then (some false) else (florinlaw02_form.j3 kj8 a0 (wrap64 ((wrap64 (x3_4 + t197)) + (wrap64 (1 + t198))))))) = some r := by rw [if_pos rfl] at H; exact H
                    clear H
                    have H := H1
                    clear H1
                    replace H := Option.bind_eq_some_iff.mp H
                    obtain ⟨t198, A160, H⟩ := H
                    replace H : (if t198 = 0 then (some false) else (florinlaw02_form.j3 kj8 a0 (wrap64 ((wrap64 (x3_4 + t197)) + (wrap64 (1 + t198)))))) = some r := H
                    have A16 := Aside0.mk A160
                    clear A160
                    by_cases c17 : t198 = 0
                    · rw [if_pos c17] at H
                      have c17b0 : (t198 == 0) = true := beq_iff_eq.mpr c17
                      have c17b1 : (t198 != 0) = false := bne_eq_false_iff_eq.mpr c17
                      clear c17
                      (first | rw [c17b0] | (simp only [i64_w, i32_w]; rw [c17b0]) | skip)
                      obtain rfl := Option.some.inj H
                      go_wp2_with (first | ((with_reducible refine gate_callee (f := 43) rfl ?_); refine goesL_ (some 38) rfl rfl Tryd.func43 (by kernel_rfl) rfl #[.string a0, .int .i64 (wrap64 ((wrap64 (x3_4 + t197)) + 1))] rfl (by (try simp only [List.map_toArray, List.map_cons, List.map_nil]); first | done | rfl | (simp only [List.length_drop, List.length_take]; rfl) | (have z_ : ∀ s_ : ByteArray, s_.size ≤ 9223372036854775807 → -(s_.size : Int) = wrap64 (-(s_.size : Int)) := (fun s_ h_ => by unfold wrap64; omega); rw [← z_ _ (by omega)]; rfl)) ?_; (with_reducible refine (florinlaw02_run.calls kj8 a0 (wrap64 ((wrap64 (x3_4 + t197)) + 1)) t198 _ A16.out).mono ?_); rintro e w' ⟨rfl, ⟨nd, rfl⟩⟩; refine ⟨_, rfl, ?_⟩))
                      go_ret
                      exact ⟨by first | rfl | (simp; done) | (simp [*]; done) | (simp; first | exact given_isEmpty _ | exact (given_isEmpty _).symm) | (unfold wrap64; omega) | (congr 1; unfold wrap64; omega), by repeat (first | exact Drawn0.refl _ | apply Drawn0.step)⟩
                    · rw [if_neg c17] at H
                      have c17b0 : (t198 == 0) = false := beq_eq_false_iff_ne.mpr c17
                      have c17b1 : (t198 != 0) = true := bne_iff_ne.mpr c17
                      (first | rw [c17b0] | (simp only [i64_w, i32_w]; rw [c17b0]) | skip)
                      have H' := Aside0.mk H
                      clear H
                      go_wp2_with (first | ((with_reducible refine gate_callee (f := 43) rfl ?_); refine goesL_ (some 38) rfl rfl Tryd.func43 (by kernel_rfl) rfl #[.string a0, .int .i64 (wrap64 ((wrap64 (x3_4 + t197)) + 1))] rfl (by (try simp only [List.map_toArray, List.map_cons, List.map_nil]); first | done | rfl | (simp only [List.length_drop, List.length_take]; rfl) | (have z_ : ∀ s_ : ByteArray, s_.size ≤ 9223372036854775807 → -(s_.size : Int) = wrap64 (-(s_.size : Int)) := (fun s_ h_ => by unfold wrap64; omega); rw [← z_ _ (by omega)]; rfl)) ?_; (with_reducible refine (florinlaw02_run.calls kj8 a0 (wrap64 ((wrap64 (x3_4 + t197)) + 1)) t198 _ A16.out).mono ?_); rintro e w' ⟨rfl, ⟨nd, rfl⟩⟩; refine ⟨_, rfl, ?_⟩))
                      go_meet
                      case rel => exact ⟨_, (wrap64 ((wrap64 (x3_4 + t197)) + (wrap64 (1 + t198)))), eq_, H', ⟨by have := HJ1.out; have := HJ4.out; have := HJ8.out; first | omega | exact Nat.le_refl _⟩, by repeat (first | exact Drawn0.refl _ | apply Drawn0.step)⟩
                  · replace c15 := Bool.eq_false_iff.mpr c15
                    subst c15
                    have H1 : (florinlaw02_form.j3 kj8 a0 (wrap64 (x3_4 + t197))) = some r := by rw [if_neg (show ¬ (false = true) by decide)] at H; exact H
                    clear H
                    have H := H1
                    clear H1
                    have H' := Aside0.mk H
                    clear H
                    go_wp2
                    go_meet
                    case rel => exact ⟨_, ((wrap64 (x3_4 + t197))), eq_, H', ⟨by have := HJ1.out; have := HJ4.out; have := HJ8.out; first | omega | exact Nat.le_refl _⟩, by repeat (first | exact Drawn0.refl _ | apply Drawn0.step)⟩
                case rest =>
                  clear HC14
                  try clear c1
                  try clear p1
                  try clear q1
                  try clear hx1
                  try clear p2
                  try clear c3
                  try clear c3b0
                  try clear c3b1
                  try clear c4
                  try clear p4
                  try clear q4
                  try clear hx4
                  try clear qi4
                  try clear c6
                  try clear p6
                  try clear c8
                  try clear c8b0
                  try clear c8b1
                  try clear c10
                  try clear c10b0
                  try clear c12
                  try clear c12b0
                  try clear c13
                  try clear p13
                  try clear q13
                  try clear hx13
                  try clear c15
                  try clear c17
                  try clear c17b0
                  try clear c17b1
                  try clear p1
                  try clear p13
                  try clear p2
                  try clear p4
                  try clear p6
                  try clear q1
                  try clear q13
                  try clear q4
                  obtain ⟨kq, x3_13, rfl, HA, HJ13, ⟨mc13, rfl⟩⟩ := hcut
                  cases kq with
                  | zero => exact absurd HA.out (by simp [florinlaw02_form.j3])
                  | succ kj13 =>
                    have H := HA.out
                    clear HA
                    simp only [florinlaw02_form.j3] at H
                    have HC18 := Aside0.mk H
                    clear H
                    go_upto_region 13 with (fail)
                    go_cut [60] (fun v60 wc => ∃ (kq : Nat) (x60_17 : Bool), v60 = .bool x60_17 ∧ Aside0 (florinlaw02_form.j4 kq a0 x3_13 x60_17 = some r) ∧ Aside0 (kq ≤ kj13) ∧ Drawn0 w wc)
                    case first =>
                      have H := HC18.out
                      clear HC18
                      by_cases c19 : x3_13 < (a0.size : Int)
                      · rw [if_pos c19] at H
                        have c19b0 : decide (x3_13 < (a0.size : Int)) = true := decide_eq_true c19
                        clear c19
                        (first | rw [c19b0] | (simp only [i64_w, i32_w]; rw [c19b0]) | skip)
                        by_cases c20 : 0 ≤ x3_13
                        · rw [if_pos c20] at H
                          have c20b0 : decide (0 ≤ x3_13) = true := decide_eq_true c20
                          clear c20
                          by_cases c22 : (bt a0 x3_13) = 101
                          · rw [if_pos c22] at H
                            have c22b0 : ((bt a0 x3_13) == 101) = true := beq_iff_eq.mpr c22
                            have c22b1 : ((bt a0 x3_13) != 101) = false := bne_eq_false_iff_eq.mpr c22
                            clear c22
                            have H' := Aside0.mk H
                            clear H
                            have p21 : 0 ≤ (x3_13 : Int) := of_decide_eq_true (by first | (with_reducible assumption) | assumption)
                            have q21 : x3_13 < (a0.size : Int) := of_decide_eq_true (by first | (with_reducible assumption) | assumption)
                            have hx21 := bt_at a0 x3_13
                            replace p21 := eq_true p21
                            replace q21 := eq_true q21
                            go_wp2
                            go_meet
                            case rel => exact ⟨_, (true), eq_, H', ⟨by have := HJ1.out; have := HJ4.out; have := HJ8.out; have := HJ13.out; first | omega | exact Nat.le_refl _⟩, by repeat (first | exact Drawn0.refl _ | apply Drawn0.step)⟩
                          · rw [if_neg c22] at H
                            have c22b0 : ((bt a0 x3_13) == 101) = false := beq_eq_false_iff_ne.mpr c22
                            have c22b1 : ((bt a0 x3_13) != 101) = true := bne_iff_ne.mpr c22
                            have H' := Aside0.mk H
                            clear H
                            have p21 : 0 ≤ (x3_13 : Int) := of_decide_eq_true (by first | (with_reducible assumption) | assumption)
                            have q21 : x3_13 < (a0.size : Int) := of_decide_eq_true (by first | (with_reducible assumption) | assumption)
                            have hx21 := bt_at a0 x3_13
                            replace p21 := eq_true p21
                            replace q21 := eq_true q21
                            have p23 : 0 ≤ (x3_13 : Int) := of_decide_eq_true (by first | (with_reducible assumption) | assumption)
                            have q23 : x3_13 < (a0.size : Int) := of_decide_eq_true (by first | (with_reducible assumption) | assumption)
                            have hx23 := bt_at a0 x3_13
                            replace p23 := eq_true p23
                            replace q23 := eq_true q23
                            go_wp2
                            go_meet
                            case rel => exact ⟨_, (((bt a0 x3_13) == 69)), eq_, H', ⟨by have := HJ1.out; have := HJ4.out; have := HJ8.out; have := HJ13.out; first | omega | exact Nat.le_refl _⟩, by repeat (first | exact Drawn0.refl _ | apply Drawn0.step)⟩
                        · rw [if_neg c20] at H
                          exact absurd H (by simp)
                      · rw [if_neg c19] at H
                        have c19b0 : decide (x3_13 < (a0.size : Int)) = false := decide_eq_false c19
                        clear c19
                        (first | rw [c19b0] | (simp only [i64_w, i32_w]; rw [c19b0]) | skip)
                        have H' := Aside0.mk H
                        clear H
                        go_wp2
                        go_meet
                        case rel => exact ⟨_, (false), eq_, H', ⟨by have := HJ1.out; have := HJ4.out; have := HJ8.out; have := HJ13.out; first | omega | exact Nat.le_refl _⟩, by repeat (first | exact Drawn0.refl _ | apply Drawn0.step)⟩
                    case rest =>
                      clear HC18
                      try clear c1
                      try clear p1
                      try clear q1
                      try clear hx1
                      try clear c2
                      try clear p2
                      try clear q2
                      try clear hx2
                      try clear c3
                      try clear c3b0
                      try clear c3b1
                      try clear c4
                      try clear p4
                      try clear q4
                      try clear hx4
                      try clear qi4
                      try clear c6
                      try clear p6
                      try clear c8
                      try clear c8b0
                      try clear c8b1
                      try clear c10
                      try clear c10b0
                      try clear c12
                      try clear c12b0
                      try clear c13
                      try clear p13
                      try clear q13
                      try clear hx13
                      try clear c15
                      try clear c17
                      try clear c17b0
                      try clear c17b1
                      try clear c19
                      try clear c19b0
                      try clear c20
                      try clear c20b0
                      try clear p21
                      try clear q21
                      try clear hx21
                      try clear c22
                      try clear c22b0
                      try clear c22b1
                      try clear p23
                      try clear q23
                      try clear hx23
                      try clear p1
                      try clear p13
                      try clear p2
                      try clear p21
                      try clear p23
                      try clear p4
                      try clear p6
                      try clear q1
                      try clear q13
                      try clear q21
                      try clear q23
                      try clear q4
                      obtain ⟨kq, x60_17, rfl, HA, HJ17, ⟨mc17, rfl⟩⟩ := hcut
                      cases kq with
                      | zero => exact absurd HA.out (by simp [florinlaw02_form.j4])
                      | succ kj17 =>
                        have H := HA.out
                        clear HA
                        simp only [florinlaw02_form.j4] at H
                        by_cases c24 : x60_17 = true
                        · subst c24
                          have H1 : (if (wrap64 (x3_13 + 1)) < (a0.size : Int) then (if 0 ≤ (wrap64 (x3_13 + 1)) then (if (bt a0 (wrap64 (x3_13 + 1))) = 43 then (florinlaw02_form.j5 kj17 a0 (wrap64 (x3_13 + 1)) true) else (florinlaw02_form.j5 kj17 a0 (wrap64 (x3_13 + 1)) ((bt a0 (wrap64 (x3_13 + 1))) == 45))) else (none)) else (florinlaw02_form.j5 kj17 a0 (wrap64 (x3_13 + 1)) false)) = some r := by rw [if_pos rfl] at H; exact H
                          clear H
                          have H := H1
                          clear H1
                          have HC25 := Aside0.mk H
                          clear H
                          go_upto_region 15 with (fail)
                          go_cut [78] (fun v78 wc => ∃ (kq : Nat) (x78_24 : Bool), v78 = .bool x78_24 ∧ Aside0 (florinlaw02_form.j5 kq a0 (wrap64 (x3_13 + 1)) x78_24 = some r) ∧ Aside0 (kq ≤ kj17) ∧ Drawn0 w wc)
                          case first =>
                            have H := HC25.out
                            clear HC25
                            by_cases c26 : (wrap64 (x3_13 + 1)) < (a0.size : Int)
                            · rw [if_pos c26] at H
                              have c26b0 : decide ((wrap64 (x3_13 + 1)) < (a0.size : Int)) = true := decide_eq_true c26
                              clear c26
                              (first | rw [c26b0] | (simp only [i64_w, i32_w]; rw [c26b0]) | skip)
                              obtain ⟨ji27, hji27⟩ : ∃ j_ : Int, (wrap64 (x3_13 + 1)) = j_ := ⟨_, rfl⟩
                              replace H : (if 0 ≤ (ji27) then (if (bt a0 (ji27)) = 43 then (florinlaw02_form.j5 kj17 a0 ji27 true) else (florinlaw02_form.j5 kj17 a0 ji27 ((bt a0 (ji27)) == 45))) else (none)) = some r := by first | (rw [hji27] at H; exact H) | (simp only [hji27] at H ⊢; exact H)
                              (try rw [hji27] at c26b0)
                              have hji27w : (IntKind.i64.wrap (x3_13 + 1)) = ji27 := (i64_w _).trans hji27
                              by_cases c28 : 0 ≤ (ji27)
                              · rw [if_pos c28] at H
                                have c28b0 : decide (0 ≤ (ji27)) = true := decide_eq_true c28
                                clear c28
                                by_cases c30 : (bt a0 (ji27)) = 43
                                · rw [if_pos c30] at H
                                  have c30b0 : ((bt a0 (ji27)) == 43) = true := beq_iff_eq.mpr c30
                                  have c30b1 : ((bt a0 (ji27)) != 43) = false := bne_eq_false_iff_eq.mpr c30
                                  clear c30
                                  have H' := Aside0.mk H
                                  clear H
                                  have p29 : 0 ≤ ((ji27) : Int) := of_decide_eq_true (by first | (with_reducible assumption) | assumption)
                                  have q29 : (ji27) < (a0.size : Int) := of_decide_eq_true (by first | (with_reducible assumption) | assumption)
                                  have hx29 := bt_at a0 (ji27)
                                  replace p29 := eq_true p29
                                  replace q29 := eq_true q29
                                  go_wp2
                                  go_meet
                                  case rel => first | (exact ⟨_, (true), eq_, (by first | exact H' | (rw [hji27]; exact H') | (simp only [hji27]; exact H')), ⟨by have := HJ1.out; have := HJ4.out; have := HJ8.out; have := HJ13.out; have := HJ17.out; first | omega | exact Nat.le_refl _⟩, by repeat (first | exact Drawn0.refl _ | apply Drawn0.step)⟩) | (rw [← hji27] at H'; exact ⟨_, (true), eq_, (by first | exact H' | (rw [hji27]; exact H') | (simp only [hji27]; exact H')), ⟨by have := HJ1.out; have := HJ4.out; have := HJ8.out; have := HJ13.out; have := HJ17.out; first | omega | exact Nat.le_refl _⟩, by repeat (first | exact Drawn0.refl _ | apply Drawn0.step)⟩)
                                · rw [if_neg c30] at H
                                  have c30b0 : ((bt a0 (ji27)) == 43) = false := beq_eq_false_iff_ne.mpr c30
                                  have c30b1 : ((bt a0 (ji27)) != 43) = true := bne_iff_ne.mpr c30
                                  have H' := Aside0.mk H
                                  clear H
                                  have p29 : 0 ≤ ((ji27) : Int) := of_decide_eq_true (by first | (with_reducible assumption) | assumption)
                                  have q29 : (ji27) < (a0.size : Int) := of_decide_eq_true (by first | (with_reducible assumption) | assumption)
                                  have hx29 := bt_at a0 (ji27)
                                  replace p29 := eq_true p29
                                  replace q29 := eq_true q29
                                  have p31 : 0 ≤ ((ji27) : Int) := of_decide_eq_true (by first | (with_reducible assumption) | assumption)
                                  have q31 : (ji27) < (a0.size : Int) := of_decide_eq_true (by first | (with_reducible assumption) | assumption)
                                  have hx31 := bt_at a0 (ji27)
                                  replace p31 := eq_true p31
                                  replace q31 := eq_true q31
                                  go_wp2
                                  go_meet
                                  case rel => first | (exact ⟨_, (((bt a0 (ji27)) == 45)), (by first | rfl | (simp; done) | (simp only [← hji27] <;> (first | rfl | simp)) | (simp [*]; done)), (by first | exact H' | (rw [hji27]; exact H') | (simp only [hji27]; exact H')), ⟨by have := HJ1.out; have := HJ4.out; have := HJ8.out; have := HJ13.out; have := HJ17.out; first | omega | exact Nat.le_refl _⟩, by repeat (first | exact Drawn0.refl _ | apply Drawn0.step)⟩) | (rw [← hji27] at H'; exact ⟨_, (((bt a0 (ji27)) == 45)), (by first | rfl | (simp; done) | (simp only [← hji27] <;> (first | rfl | simp)) | (simp [*]; done)), (by first | exact H' | (rw [hji27]; exact H') | (simp only [hji27]; exact H')), ⟨by have := HJ1.out; have := HJ4.out; have := HJ8.out; have := HJ13.out; have := HJ17.out; first | omega | exact Nat.le_refl _⟩, by repeat (first | exact Drawn0.refl _ | apply Drawn0.step)⟩)
                              · rw [if_neg c28] at H
                                exact absurd H (by simp)
                            · rw [if_neg c26] at H
                              have c26b0 : decide ((wrap64 (x3_13 + 1)) < (a0.size : Int)) = false := decide_eq_false c26
                              clear c26
                              (first | rw [c26b0] | (simp only [i64_w, i32_w]; rw [c26b0]) | skip)
                              have H' := Aside0.mk H
                              clear H
                              go_wp2
                              go_meet
                              case rel => exact ⟨_, (false), eq_, H', ⟨by have := HJ1.out; have := HJ4.out; have := HJ8.out; have := HJ13.out; have := HJ17.out; first | omega | exact Nat.le_refl _⟩, by repeat (first | exact Drawn0.refl _ | apply Drawn0.step)⟩
                          case rest =>
                            clear HC25
                            try clear c1
                            try clear p1
                            try clear q1
                            try clear hx1
                            try clear c2
                            try clear p2
                            try clear q2
                            try clear hx2
                            try clear c3
                            try clear c3b0
                            try clear c3b1
                            try clear p3
                            try clear q3
                            try clear hx3
                            try clear c4
                            try clear p4
                            try clear q4
                            try clear hx4
                            try clear qi4
                            try clear c6
                            try clear p6
                            try clear c8
                            try clear c8b0
                            try clear c8b1
                            try clear c10
                            try clear c10b0
                            try clear c12
                            try clear c12b0
                            try clear c13
                            try clear p13
                            try clear q13
                            try clear hx13
                            try clear c15
                            try clear c17
                            try clear c17b0
                            try clear c17b1
                            try clear c19
                            try clear c19b0
                            try clear c20
                            try clear c20b0
                            try clear p21
                            try clear q21
                            try clear hx21
                            try clear c22
                            try clear c22b0
                            try clear c22b1
                            try clear p23
                            try clear q23
                            try clear hx23
                            try clear c24
                            try clear c26
                            try clear c26b0
                            try clear c28
                            try clear c28b0
                            try clear p29
                            try clear q29
                            try clear hx29
                            try clear c30
                            try clear c30b0
                            try clear c30b1
                            try clear p31
                            try clear q31
                            try clear hx31
                            try clear p1
                            try clear p13
                            try clear p2
                            try clear p21
                            try clear p23
                            try clear p29
                            try clear p31
                            try clear p4
                            try clear p6
                            try clear q1
                            try clear q13
                            try clear q2
                            try clear q21
                            try clear q23
                            try clear q29
                            try clear q31
                            try clear q4
                            obtain ⟨kq, x78_24, rfl, HA, HJ24, ⟨mc24, rfl⟩⟩ := hcut
                            cases kq with
                            | zero => exact absurd HA.out (by simp [florinlaw02_form.j5])
                            | succ kj24 =>
                              have H := HA.out
                              clear HA
                              simp only [florinlaw02_form.j5] at H
                              by_cases c32 : x78_24 = true
                              · subst c32
                                have H1 : ((florinlaw02_run.f kj24 a0 (wrap64 ((wrap64 (x3_13 + 1)) + 1))).bind fun t199 => (if t199 = 0 then (some false) else (some ((wrap64 ((wrap64 ((wrap64 (x3_13 + 1)) + 1)) + t199)) == (a0.size : Int))))) = some r := by rw [if_pos rfl] at H; exact H
                                clear H
                                have H := H1
                                clear H1
                                replace H := Option.bind_eq_some_iff.mp H
                                obtain ⟨t199, A330, H⟩ := H
                                replace H : (if t199 = 0 then (some false) else (some ((wrap64 ((wrap64 ((wrap64 (x3_13 + 1)) + 1)) + t199)) == (a0.size : Int)))) = some r := H
                                have A33 := Aside0.mk A330
                                clear A330
                                by_cases c34 : t199 = 0
                                · rw [if_pos c34] at H
                                  have c34b0 : (t199 == 0) = true := beq_iff_eq.mpr c34
                                  have c34b1 : (t199 != 0) = false := bne_eq_false_iff_eq.mpr c34
                                  clear c34
                                  obtain rfl := Option.some.inj H
                                  go_wp2_with (first | ((with_reducible refine gate_callee (f := 43) rfl ?_); refine goesL_ (some 83) rfl rfl Tryd.func43 (by kernel_rfl) rfl #[.string a0, .int .i64 (wrap64 ((wrap64 (x3_13 + 1)) + 1))] rfl (by (try simp only [List.map_toArray, List.map_cons, List.map_nil]); first | done | rfl | (simp only [List.length_drop, List.length_take]; rfl) | (have z_ : ∀ s_ : ByteArray, s_.size ≤ 9223372036854775807 → -(s_.size : Int) = wrap64 (-(s_.size : Int)) := (fun s_ h_ => by unfold wrap64; omega); rw [← z_ _ (by omega)]; rfl)) ?_; (with_reducible refine (florinlaw02_run.calls kj24 a0 (wrap64 ((wrap64 (x3_13 + 1)) + 1)) t199 _ A33.out).mono ?_); rintro e w' ⟨rfl, ⟨nd, rfl⟩⟩; refine ⟨_, rfl, ?_⟩))
                                  go_ret
                                  exact ⟨by first | rfl | (simp; done) | (simp [*]; done) | (simp; first | exact given_isEmpty _ | exact (given_isEmpty _).symm) | (unfold wrap64; omega) | (congr 1; unfold wrap64; omega), by repeat (first | exact Drawn0.refl _ | apply Drawn0.step)⟩
                                · rw [if_neg c34] at H
                                  have c34b0 : (t199 == 0) = false := beq_eq_false_iff_ne.mpr c34
                                  have c34b1 : (t199 != 0) = true := bne_iff_ne.mpr c34
                                  obtain rfl := Option.some.inj H
                                  go_wp2_with (first | ((with_reducible refine gate_callee (f := 43) rfl ?_); refine goesL_ (some 83) rfl rfl Tryd.func43 (by kernel_rfl) rfl #[.string a0, .int .i64 (wrap64 ((wrap64 (x3_13 + 1)) + 1))] rfl (by (try simp only [List.map_toArray, List.map_cons, List.map_nil]); first | done | rfl | (simp only [List.length_drop, List.length_take]; rfl) | (have z_ : ∀ s_ : ByteArray, s_.size ≤ 9223372036854775807 → -(s_.size : Int) = wrap64 (-(s_.size : Int)) := (fun s_ h_ => by unfold wrap64; omega); rw [← z_ _ (by omega)]; rfl)) ?_; (with_reducible refine (florinlaw02_run.calls kj24 a0 (wrap64 ((wrap64 (x3_13 + 1)) + 1)) t199 _ A33.out).mono ?_); rintro e w' ⟨rfl, ⟨nd, rfl⟩⟩; refine ⟨_, rfl, ?_⟩))
                                  go_ret
                                  exact ⟨by first | rfl | (simp; done) | (simp [*]; done) | (simp; first | exact given_isEmpty _ | exact (given_isEmpty _).symm) | (unfold wrap64; omega) | (congr 1; unfold wrap64; omega), by repeat (first | exact Drawn0.refl _ | apply Drawn0.step)⟩
                              · replace c32 := Bool.eq_false_iff.mpr c32
                                subst c32
                                have H1 : ((florinlaw02_run.f kj24 a0 (wrap64 (x3_13 + 1))).bind fun t200 => (if t200 = 0 then (some false) else (some ((wrap64 ((wrap64 (x3_13 + 1)) + t200)) == (a0.size : Int))))) = some r := by rw [if_neg (show ¬ (false = true) by decide)] at H; exact H
                                clear H
                                have H := H1
                                clear H1
                                replace H := Option.bind_eq_some_iff.mp H
                                obtain ⟨t200, A350, H⟩ := H
                                replace H : (if t200 = 0 then (some false) else (some ((wrap64 ((wrap64 (x3_13 + 1)) + t200)) == (a0.size : Int)))) = some r := H
                                have A35 := Aside0.mk A350
                                clear A350
                                by_cases c36 : t200 = 0
                                · rw [if_pos c36] at H
                                  have c36b0 : (t200 == 0) = true := beq_iff_eq.mpr c36
                                  have c36b1 : (t200 != 0) = false := bne_eq_false_iff_eq.mpr c36
                                  clear c36
                                  obtain rfl := Option.some.inj H
                                  go_wp2_with (first | ((with_reducible refine gate_callee (f := 43) rfl ?_); refine goesL_ (some 83) rfl rfl Tryd.func43 (by kernel_rfl) rfl #[.string a0, .int .i64 (wrap64 (x3_13 + 1))] rfl (by (try simp only [List.map_toArray, List.map_cons, List.map_nil]); first | done | rfl | (simp only [List.length_drop, List.length_take]; rfl) | (have z_ : ∀ s_ : ByteArray, s_.size ≤ 9223372036854775807 → -(s_.size : Int) = wrap64 (-(s_.size : Int)) := (fun s_ h_ => by unfold wrap64; omega); rw [← z_ _ (by omega)]; rfl)) ?_; (with_reducible refine (florinlaw02_run.calls kj24 a0 (wrap64 (x3_13 + 1)) t200 _ A35.out).mono ?_); rintro e w' ⟨rfl, ⟨nd, rfl⟩⟩; refine ⟨_, rfl, ?_⟩))
                                  go_ret
                                  exact ⟨by first | rfl | (simp; done) | (simp [*]; done) | (simp; first | exact given_isEmpty _ | exact (given_isEmpty _).symm) | (unfold wrap64; omega) | (congr 1; unfold wrap64; omega), by repeat (first | exact Drawn0.refl _ | apply Drawn0.step)⟩
                                · rw [if_neg c36] at H
                                  have c36b0 : (t200 == 0) = false := beq_eq_false_iff_ne.mpr c36
                                  have c36b1 : (t200 != 0) = true := bne_iff_ne.mpr c36
                                  obtain rfl := Option.some.inj H
                                  go_wp2_with (first | ((with_reducible refine gate_callee (f := 43) rfl ?_); refine goesL_ (some 83) rfl rfl Tryd.func43 (by kernel_rfl) rfl #[.string a0, .int .i64 (wrap64 (x3_13 + 1))] rfl (by (try simp only [List.map_toArray, List.map_cons, List.map_nil]); first | done | rfl | (simp only [List.length_drop, List.length_take]; rfl) | (have z_ : ∀ s_ : ByteArray, s_.size ≤ 9223372036854775807 → -(s_.size : Int) = wrap64 (-(s_.size : Int)) := (fun s_ h_ => by unfold wrap64; omega); rw [← z_ _ (by omega)]; rfl)) ?_; (with_reducible refine (florinlaw02_run.calls kj24 a0 (wrap64 (x3_13 + 1)) t200 _ A35.out).mono ?_); rintro e w' ⟨rfl, ⟨nd, rfl⟩⟩; refine ⟨_, rfl, ?_⟩))
                                  go_ret
                                  exact ⟨by first | rfl | (simp; done) | (simp [*]; done) | (simp; first | exact given_isEmpty _ | exact (given_isEmpty _).symm) | (unfold wrap64; omega) | (congr 1; unfold wrap64; omega), by repeat (first | exact Drawn0.refl _ | apply Drawn0.step)⟩
                        · replace c24 := Bool.eq_false_iff.mpr c24
                          subst c24
                          have H1 : (some (x3_13 == (a0.size : Int))) = some r := by rw [if_neg (show ¬ (false = true) by decide)] at H; exact H
                          clear H
                          have H := H1
                          clear H1
                          obtain rfl := Option.some.inj H
                          go_wp2
                          go_ret
                          exact ⟨by first | rfl | (simp; done) | (simp [*]; done) | (simp; first | exact given_isEmpty _ | exact (given_isEmpty _).symm) | (unfold wrap64; omega) | (congr 1; unfold wrap64; omega), by repeat (first | exact Drawn0.refl _ | apply Drawn0.step)⟩

end Go.Proofs.YtlkiaeipbekpkaaDoor.P
