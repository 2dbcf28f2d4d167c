-- written by a program of this session (wip/p2)
import Derived.Test.YtnpohgoacbpcjaaGreatDoorPx0
import Derived.Test.YtnpohgoacbpcjaaGreatDoorPx12
namespace Go.Proofs.YtnpohgoacbpcjaaGreatDoor.P
open Go.RowKit Go.Proofs.YtnpohgoacbpcjaaGreatDoorW.PrintWords Go.Proofs.YtnpohgoacbpcjaaGreatDoorW.PrintLast Go.Proofs.YtnpohgoacbpcjaaGreatDoorW.PrintMore
attribute [local go_sem] max2_int min2_int max_two min_two max_three min_three max_four min_four   -- for this text's walks alone
set_option linter.unusedVariables false
set_option linter.unusedSimpArgs false

/-! ### florinlaw10_sign: function 20 -/
def florinlaw10_sign.f (k : Nat) (a0 : Int) : Option (ByteArray) := if a0 ≥ 48 then (if a0 ≤ 57 then (some (strOfNums (([(a0) % 256] : List Int)))) else (if a0 ≥ 65 then (if a0 ≤ 90 then (some (strOfNums (([(a0) % 256] : List Int)))) else (if a0 ≥ 97 then (if a0 ≤ 122 then (some (strOfNums (([(a0) % 256] : List Int)))) else ((florinlaw10_hex.f k a0 1).bind fun t409 => (if 3 + t409.size ≤ 9223372036854775807 then (if ((⟨#[92, 117, 123]⟩ : ByteArray) ++ t409).size + 1 ≤ 9223372036854775807 then (some (((⟨#[92, 117, 123]⟩ : ByteArray) ++ t409) ++ (⟨#[125]⟩ : ByteArray))) else (none)) else (none)))) else ((florinlaw10_hex.f k a0 1).bind fun t410 => (if 3 + t410.size ≤ 9223372036854775807 then (if ((⟨#[92, 117, 123]⟩ : ByteArray) ++ t410).size + 1 ≤ 9223372036854775807 then (some (((⟨#[92, 117, 123]⟩ : ByteArray) ++ t410) ++ (⟨#[125]⟩ : ByteArray))) else (none)) else (none))))) else (if a0 ≥ 97 then (if a0 ≤ 122 then (some (strOfNums (([(a0) % 256] : List Int)))) else ((florinlaw10_hex.f k a0 1).bind fun t414 => (if 3 + t414.size ≤ 9223372036854775807 then (if ((⟨#[92, 117, 123]⟩ : ByteArray) ++ t414).size + 1 ≤ 9223372036854775807 then (some (((⟨#[92, 117, 123]⟩ : ByteArray) ++ t414) ++ (⟨#[125]⟩ : ByteArray))) else (none)) else (none)))) else ((florinlaw10_hex.f k a0 1).bind fun t415 => (if 3 + t415.size ≤ 9223372036854775807 then (if ((⟨#[92, 117, 123]⟩ : ByteArray) ++ t415).size + 1 ≤ 9223372036854775807 then (some (((⟨#[92, 117, 123]⟩ : ByteArray) ++ t415) ++ (⟨#[125]⟩ : ByteArray))) else (none)) else (none)))))) else (if a0 ≥ 65 then (if a0 ≤ 90 then (some (strOfNums (([(a0) % 256] : List Int)))) else (if a0 ≥ 97 then (if a0 ≤ 122 then (some (strOfNums (([(a0) % 256] : List Int)))) else ((florinlaw10_hex.f k a0 1).bind fun t422 => (if 3 + t422.size ≤ 9223372036854775807 then (if ((⟨#[92, 117, 123]⟩ : ByteArray) ++ t422).size + 1 ≤ 9223372036854775807 then (some (((⟨#[92, 117, 123]⟩ : ByteArray) ++ t422) ++ (⟨#[125]⟩ : ByteArray))) else (none)) else (none)))) else ((florinlaw10_hex.f k a0 1).bind fun t423 => (if 3 + t423.size ≤ 9223372036854775807 then (if ((⟨#[92, 117, 123]⟩ : ByteArray) ++ t423).size + 1 ≤ 9223372036854775807 then (some (((⟨#[92, 117, 123]⟩ : ByteArray) ++ t423) ++ (⟨#[125]⟩ : ByteArray))) else (none)) else (none))))) else (if a0 ≥ 97 then (if a0 ≤ 122 then (some (strOfNums (([(a0) % 256] : List Int)))) else ((florinlaw10_hex.f k a0 1).bind fun t427 => (if 3 + t427.size ≤ 9223372036854775807 then (if ((⟨#[92, 117, 123]⟩ : ByteArray) ++ t427).size + 1 ≤ 9223372036854775807 then (some (((⟨#[92, 117, 123]⟩ : ByteArray) ++ t427) ++ (⟨#[125]⟩ : ByteArray))) else (none)) else (none)))) else ((florinlaw10_hex.f k a0 1).bind fun t428 => (if 3 + t428.size ≤ 9223372036854775807 then (if ((⟨#[92, 117, 123]⟩ : ByteArray) ++ t428).size + 1 ≤ 9223372036854775807 then (some (((⟨#[92, 117, 123]⟩ : ByteArray) ++ t428) ++ (⟨#[125]⟩ : ByteArray))) else (none)) else (none)))))
theorem florinlaw10_sign.mono : ∀ a0 k, LeO (florinlaw10_sign.f k a0) (florinlaw10_sign.f (k + 1) a0) := by
  intro a0 k
  unfold florinlaw10_sign.f
  repeat' first
      | (with_reducible exact florinlaw10_hex.mono _ _ _)
      | (with_reducible exact LeO.refl _)
      | (with_reducible exact LeO.none _)
      | (with_reducible refine LeO.ite ?_ ?_)
      | (with_reducible refine LeO.bind ?_ (fun _ => ?_))
      | exact florinlaw10_hex.mono _ _ _
      | exact LeO.none _
      | refine LeO.ite ?_ ?_
      | refine LeO.bind ?_ (fun _ => ?_)
set_option maxHeartbeats 64000000 in
set_option maxRecDepth 100000 in
theorem florinlaw10_sign.calls (k : Nat) (a0 : Int) (r : ByteArray) (w : World) (h : florinlaw10_sign.f k a0 = some r) :
    Calls Tryz.prog 20 #[.int .i64 a0] w fun e w' => e = .returned (.string r) ∧ Below w.heap.size w w' := by
  have HB := Aside0.mk (Below.refl w.heap.size w)
  have H : (if a0 ≥ 48 then (if a0 ≤ 57 then (some (strOfNums (([(a0) % 256] : List Int)))) else (if a0 ≥ 65 then (if a0 ≤ 90 then (some (strOfNums (([(a0) % 256] : List Int)))) else (if a0 ≥ 97 then (if a0 ≤ 122 then (some (strOfNums (([(a0) % 256] : List Int)))) else ((florinlaw10_hex.f k a0 1).bind fun t409 => (if 3 + t409.size ≤ 9223372036854775807 then (if ((⟨#[92, 117, 123]⟩ : ByteArray) ++ t409).size + 1 ≤ 9223372036854775807 then (some (((⟨#[92, 117, 123]⟩ : ByteArray) ++ t409) ++ (⟨#[125]⟩ : ByteArray))) else (none)) else (none)))) else ((florinlaw10_hex.f k a0 1).bind fun t410 => (if 3 + t410.size ≤ 9223372036854775807 then (if ((⟨#[92, 117, 123]⟩ : ByteArray) ++ t410).size + 1 ≤ 9223372036854775807 then (some (((⟨#[92, 117, 123]⟩ : ByteArray) ++ t410) ++ (⟨#[125]⟩ : ByteArray))) else (none)) else (none))))) else (if a0 ≥ 97 then (if a0 ≤ 122 then (some (strOfNums (([(a0) % 256] : List Int)))) else ((florinlaw10_hex.f k a0 1).bind fun t414 => (if 3 + t414.size ≤ 9223372036854775807 then (if ((⟨#[92, 117, 123]⟩ : ByteArray) ++ t414).size + 1 ≤ 9223372036854775807 then (some (((⟨#[92, 117, 123]⟩ : ByteArray) ++ t414) ++ (⟨#[125]⟩ : ByteArray))) else (none)) else (none)))) else ((florinlaw10_hex.f k a0 1).bind fun t415 => (if 3 + t415.size ≤ 9223372036854775807 then (if ((⟨#[92, 117, 123]⟩ : ByteArray) ++ t415).size + 1 ≤ 9223372036854775807 then (some (((⟨#[92, 117, 123]⟩ : ByteArray) ++ t415) ++ (⟨#[125]⟩ : ByteArray))) else (none)) else (none)))))) else (if a0 ≥ 65 then (if a0 ≤ 90 then (some (strOfNums (([(a0) % 256] : List Int)))) else (if a0 ≥ 97 then (if a0 ≤ 122 then (some (strOfNums (([(a0) % 256] : List Int)))) else ((florinlaw10_hex.f k a0 1).bind fun t422 => (if 3 + t422.size ≤ 9223372036854775807 then (if ((⟨#[92, 117, 123]⟩ : ByteArray) ++ t422).size + 1 ≤ 9223372036854775807 then (some (((⟨#[92, 117, 123]⟩ : ByteArray) ++ t422) ++ (⟨#[125]⟩ : ByteArray))) else (none)) else (none)))) else ((florinlaw10_hex.f k a0 1).bind fun t423 => (if 3 + t423.size ≤ 9223372036854775807 then (if ((⟨#[92, 117, 123]⟩ : ByteArray) ++ t423).size + 1 ≤ 9223372036854775807 then (some (((⟨#[92, 117, 123]⟩ : ByteArray) ++ t423) ++ (⟨#[125]⟩ : ByteArray))) else (none)) else (none))))) else (if a0 ≥ 97 then (if a0 ≤ 122 then (some (strOfNums (([(a0) % 256] : List Int)))) else ((florinlaw10_hex.f k a0 1).bind fun t427 => (if 3 + t427.size ≤ 9223372036854775807 then (if ((⟨#[92, 117, 123]⟩ : ByteArray) ++ t427).size + 1 ≤ 9223372036854775807 then (some (((⟨#[92, 117, 123]⟩ : ByteArray) ++ t427) ++ (⟨#[125]⟩ : ByteArray))) else (none)) else (none)))) else ((florinlaw10_hex.f k a0 1).bind fun t428 => (if 3 + t428.size ≤ 9223372036854775807 then (if ((⟨#[92, 117, 123]⟩ : ByteArray) ++ t428).size + 1 ≤ 9223372036854775807 then (some (((⟨#[92, 117, 123]⟩ : ByteArray) ++ t428) ++ (⟨#[125]⟩ : ByteArray))) else (none)) else (none)))))) = some r := h
  clear h
  by_cases c2 : a0 ≥ 48
  · rw [if_pos c2] at H
    have c2b0 : decide (48 ≤ a0) = true := decide_eq_true c2
    clear c2
    by_cases c3 : a0 ≤ 57
    · rw [if_pos c3] at H
      have c3b0 : decide (a0 ≤ 57) = true := decide_eq_true c3
      clear c3
      obtain ⟨y400, hy400⟩ : ∃ y_ : List Int, y_ = (([(a0) % 256] : List Int)) := ⟨_, rfl⟩
      replace H : (some (strOfNums y400)) = some r := by first | (rw [hy400]; with_reducible exact H) | (have H2_ := (Option.bind_some _ _).symm.trans H; rw [hy400]; with_reducible exact H2_) | (have H2_ := (Option.bind_some _ _).symm.trans H; with_reducible exact H2_) | with_reducible exact H | (rw [hy400]; exact H) | exact H
      have Ny400 := Aside0.mk hy400
      clear hy400
      obtain rfl := Option.some.inj H
      go_enter Tryz.func20, Tryz.ntmps20
      go_wp2_with (first | ((with_reducible refine gate_dst (N := 27) rfl ?_); refine Kd.R_lit (Kd.int .u8) _ 5 ?hg (N := 27) ?hd (xs := ([(a0) % 256] : List Int)) (inner := [.int .u8 ((a0) % 256)]) (ok := fun _ => True) (okp := fun _ => True) ?hr ?hp (fun _ hk => hk) trivial (Below.refl _ _) (Nat.le_refl _) (by simp) ?_; (case hd => rfl); (case hg => rfl); (case hr => first | (go_simp; done) | (go_simp; rfl)); (case hp => exact (Reps.one (show Kd.M (Kd.int .u8) _ _ _ ((a0) % 256) [.int .u8 ((a0) % 256)] from rfl) (Reps.none _ _))); intro v401 w4 ho5 hb hg_ hnew_; clear hg_ hnew_; (first | rw [← Ny400.out] at ho5 | (simp only [Int.reduceToNat] at ho5; rw [← Ny400.out] at ho5)); have HO402 := Aside0.mk (Kd.R_lower ho5 (below_size (bl_ HB).out)); replace HB := Aside0.mk (below_step (bl_ HB).out hb); clear hb ho5; have hcv6 := own_string (P := Tryz.prog) Tryz.underlying67 Tryz.underlying5 Tryz.underlying9 (Kd.own_of_R HO402.out)))
      go_ret
      exact ⟨ew_, (bl_ HB).out⟩
    · rw [if_neg c3] at H
      have c3b0 : decide (a0 ≤ 57) = false := decide_eq_false c3
      clear c3
      by_cases c7 : a0 ≥ 65
      · rw [if_pos c7] at H
        have c7b0 : decide (65 ≤ a0) = true := decide_eq_true c7
        clear c7
        by_cases c8 : a0 ≤ 90
        · rw [if_pos c8] at H
          have c8b0 : decide (a0 ≤ 90) = true := decide_eq_true c8
          clear c8
          obtain ⟨y403, hy403⟩ : ∃ y_ : List Int, y_ = (([(a0) % 256] : List Int)) := ⟨_, rfl⟩
          replace H : (some (strOfNums y403)) = some r := by first | (rw [hy403]; with_reducible exact H) | (have H2_ := (Option.bind_some _ _).symm.trans H; rw [hy403]; with_reducible exact H2_) | (have H2_ := (Option.bind_some _ _).symm.trans H; with_reducible exact H2_) | with_reducible exact H | (rw [hy403]; exact H) | exact H
          have Ny403 := Aside0.mk hy403
          clear hy403
          obtain rfl := Option.some.inj H
          go_enter Tryz.func20, Tryz.ntmps20
          go_wp2_with (first | ((with_reducible refine gate_dst (N := 27) rfl ?_); refine Kd.R_lit (Kd.int .u8) _ 5 ?hg (N := 27) ?hd (xs := ([(a0) % 256] : List Int)) (inner := [.int .u8 ((a0) % 256)]) (ok := fun _ => True) (okp := fun _ => True) ?hr ?hp (fun _ hk => hk) trivial (Below.refl _ _) (Nat.le_refl _) (by simp) ?_; (case hd => rfl); (case hg => rfl); (case hr => first | (go_simp; done) | (go_simp; rfl)); (case hp => exact (Reps.one (show Kd.M (Kd.int .u8) _ _ _ ((a0) % 256) [.int .u8 ((a0) % 256)] from rfl) (Reps.none _ _))); intro v404 w9 ho10 hb hg_ hnew_; clear hg_ hnew_; (first | rw [← Ny403.out] at ho10 | (simp only [Int.reduceToNat] at ho10; rw [← Ny403.out] at ho10)); have HO405 := Aside0.mk (Kd.R_lower ho10 (below_size (bl_ HB).out)); replace HB := Aside0.mk (below_step (bl_ HB).out hb); clear hb ho10; have hcv11 := own_string (P := Tryz.prog) Tryz.underlying67 Tryz.underlying5 Tryz.underlying9 (Kd.own_of_R HO405.out)))
          go_ret
          exact ⟨ew_, (bl_ HB).out⟩
        · rw [if_neg c8] at H
          have c8b0 : decide (a0 ≤ 90) = false := decide_eq_false c8
          clear c8
          by_cases c12 : a0 ≥ 97
          · rw [if_pos c12] at H
            have c12b0 : decide (97 ≤ a0) = true := decide_eq_true c12
            clear c12
            by_cases c13 : a0 ≤ 122
            · rw [if_pos c13] at H
              have c13b0 : decide (a0 ≤ 122) = true := decide_eq_true c13
              clear c13
              obtain ⟨y406, hy406⟩ : ∃ y_ : List Int, y_ = (([(a0) % 256] : List Int)) := ⟨_, rfl⟩
              replace H : (some (strOfNums y406)) = some r := by first | (rw [hy406]; with_reducible exact H) | (have H2_ := (Option.bind_some _ _).symm.trans H; rw [hy406]; with_reducible exact H2_) | (have H2_ := (Option.bind_some _ _).symm.trans H; with_reducible exact H2_) | with_reducible exact H | (rw [hy406]; exact H) | exact H
              have Ny406 := Aside0.mk hy406
              clear hy406
              obtain rfl := Option.some.inj H
              go_enter Tryz.func20, Tryz.ntmps20
              go_wp2_with (first | ((with_reducible refine gate_dst (N := 27) rfl ?_); refine Kd.R_lit (Kd.int .u8) _ 5 ?hg (N := 27) ?hd (xs := ([(a0) % 256] : List Int)) (inner := [.int .u8 ((a0) % 256)]) (ok := fun _ => True) (okp := fun _ => True) ?hr ?hp (fun _ hk => hk) trivial (Below.refl _ _) (Nat.le_refl _) (by simp) ?_; (case hd => rfl); (case hg => rfl); (case hr => first | (go_simp; done) | (go_simp; rfl)); (case hp => exact (Reps.one (show Kd.M (Kd.int .u8) _ _ _ ((a0) % 256) [.int .u8 ((a0) % 256)] from rfl) (Reps.none _ _))); intro v407 w14 ho15 hb hg_ hnew_; clear hg_ hnew_; (first | rw [← Ny406.out] at ho15 | (simp only [Int.reduceToNat] at ho15; rw [← Ny406.out] at ho15)); have HO408 := Aside0.mk (Kd.R_lower ho15 (below_size (bl_ HB).out)); replace HB := Aside0.mk (below_step (bl_ HB).out hb); clear hb ho15; have hcv16 := own_string (P := Tryz.prog) Tryz.underlying67 Tryz.underlying5 Tryz.underlying9 (Kd.own_of_R HO408.out)))
              go_ret
              exact ⟨ew_, (bl_ HB).out⟩
            · rw [if_neg c13] at H
              have c13b0 : decide (a0 ≤ 122) = false := decide_eq_false c13
              clear c13
              replace H := Option.bind_eq_some_iff.mp H
              obtain ⟨t409, A170, H⟩ := H
              replace H : (if 3 + t409.size ≤ 9223372036854775807 then (if ((⟨#[92, 117, 123]⟩ : ByteArray) ++ t409).size + 1 ≤ 9223372036854775807 then (some (((⟨#[92, 117, 123]⟩ : ByteArray) ++ t409) ++ (⟨#[125]⟩ : ByteArray))) else (none)) else (none)) = some r := H
              have A17 := Aside0.mk A170
              clear A170
              by_cases c18 : 3 + t409.size ≤ 9223372036854775807
              · rw [if_pos c18] at H
                have c18b0 := eq_true c18
                have c18b1 : decide (3 + t409.size ≤ 9223372036854775807) = true := decide_eq_true c18
                try have c18b2 : (9223372036854775807 < 3 + t409.size) = False := eq_false (Nat.not_lt.2 c18)
                by_cases c19 : ((⟨#[92, 117, 123]⟩ : ByteArray) ++ t409).size + 1 ≤ 9223372036854775807
                · rw [if_pos c19] at H
                  have c19b0 := eq_true c19
                  have c19b1 : decide (((⟨#[92, 117, 123]⟩ : ByteArray) ++ t409).size + 1 ≤ 9223372036854775807) = true := decide_eq_true c19
                  try (have c19b5 := c19b0; simp only [ByteArray.size_append, Int.natCast_add] at c19b5)
                  try have c19b2 : (9223372036854775807 < ((⟨#[92, 117, 123]⟩ : ByteArray) ++ t409).size + 1) = False := eq_false (Nat.not_lt.2 c19)
                  try have c19b3 : (9223372036854775807 < 3 + t409.size + 1) = False := eq_false (Nat.not_lt.2 (by have h_ := c19; simp only [ByteArray.size_append] at h_; exact h_))
                  try have c19b4 : (3 + t409.size + 1 ≤ 9223372036854775807) = True := eq_true (by have h_ := c19; simp only [ByteArray.size_append] at h_; exact h_)
                  obtain rfl := Option.some.inj H
                  go_enter Tryz.func20, Tryz.ntmps20
                  go_wp2_with (first | ((with_reducible refine gate_callee (f := 32) rfl ?_); refine gl_ (some 30) Tryz.func32 #[.int .i64 a0, .int .i64 1] ?_; (with_reducible refine (florinlaw10_hex.calls k a0 1 t409 _ A17.out).mono ?_); rintro e w20 ⟨rfl, hb⟩; refine ⟨_, rfl, ?_⟩; replace HB := Aside0.mk (below_step (bl_ HB).out hb); (try clear hb); (try clear hi)))
                  go_ret
                  exact ⟨ew_, (bl_ HB).out⟩
                · rw [if_neg c19] at H
                  exact absurd H (by simp)
              · rw [if_neg c18] at H
                exact absurd H (by simp)
          · rw [if_neg c12] at H
            have c12b0 : decide (97 ≤ a0) = false := decide_eq_false c12
            clear c12
            replace H := Option.bind_eq_some_iff.mp H
            obtain ⟨t410, A210, H⟩ := H
            replace H : (if 3 + t410.size ≤ 9223372036854775807 then (if ((⟨#[92, 117, 123]⟩ : ByteArray) ++ t410).size + 1 ≤ 9223372036854775807 then (some (((⟨#[92, 117, 123]⟩ : ByteArray) ++ t410) ++ (⟨#[125]⟩ : ByteArray))) else (none)) else (none)) = some r := H
            have A21 := Aside0.mk A210
            clear A210
            by_cases c22 : 3 + t410.size ≤ 9223372036854775807
            · rw [if_pos c22] at H
              have c22b0 := eq_true c22
              have c22b1 : decide (3 + t410.size ≤ 9223372036854775807) = true := decide_eq_true c22
              try have c22b2 : (9223372036854775807 < 3 + t410.size) = False := eq_false (Nat.not_lt.2 c22)
              by_cases c23 : ((⟨#[92, 117, 123]⟩ : ByteArray) ++ t410).size + 1 ≤ 9223372036854775807
              · rw [if_pos c23] at H
                have c23b0 := eq_true c23
                have c23b1 : decide (((⟨#[92, 117, 123]⟩ : ByteArray) ++ t410).size + 1 ≤ 9223372036854775807) = true := decide_eq_true c23
                try (have c23b5 := c23b0; simp only [ByteArray.size_append, Int.natCast_add] at c23b5)
                try have c23b2 : (9223372036854775807 < ((⟨#[92, 117, 123]⟩ : ByteArray) ++ t410).size + 1) = False := eq_false (Nat.not_lt.2 c23)
                try have c23b3 : (9223372036854775807 < 3 + t410.size + 1) = False := eq_false (Nat.not_lt.2 (by have h_ := c23; simp only [ByteArray.size_append] at h_; exact h_))
                try have c23b4 : (3 + t410.size + 1 ≤ 9223372036854775807) = True := eq_true (by have h_ := c23; simp only [ByteArray.size_append] at h_; exact h_)
                obtain rfl := Option.some.inj H
                go_enter Tryz.func20, Tryz.ntmps20
                go_wp2_with (first | ((with_reducible refine gate_callee (f := 32) rfl ?_); refine gl_ (some 30) Tryz.func32 #[.int .i64 a0, .int .i64 1] ?_; (with_reducible refine (florinlaw10_hex.calls k a0 1 t410 _ A21.out).mono ?_); rintro e w24 ⟨rfl, hb⟩; refine ⟨_, rfl, ?_⟩; replace HB := Aside0.mk (below_step (bl_ HB).out hb); (try clear hb); (try clear hi)))
                go_ret
                exact ⟨ew_, (bl_ HB).out⟩
              · rw [if_neg c23] at H
                exact absurd H (by simp)
            · rw [if_neg c22] at H
              exact absurd H (by simp)
      · rw [if_neg c7] at H
        have c7b0 : decide (65 ≤ a0) = false := decide_eq_false c7
        clear c7
        by_cases c25 : a0 ≥ 97
        · rw [if_pos c25] at H
          have c25b0 : decide (97 ≤ a0) = true := decide_eq_true c25
          clear c25
          by_cases c26 : a0 ≤ 122
          · rw [if_pos c26] at H
            have c26b0 : decide (a0 ≤ 122) = true := decide_eq_true c26
            clear c26
            obtain ⟨y411, hy411⟩ : ∃ y_ : List Int, y_ = (([(a0) % 256] : List Int)) := ⟨_, rfl⟩
            replace H : (some (strOfNums y411)) = some r := by first | (rw [hy411]; with_reducible exact H) | (have H2_ := (Option.bind_some _ _).symm.trans H; rw [hy411]; with_reducible exact H2_) | (have H2_ := (Option.bind_some _ _).symm.trans H; with_reducible exact H2_) | with_reducible exact H | (rw [hy411]; exact H) | exact H
            have Ny411 := Aside0.mk hy411
            clear hy411
            obtain rfl := Option.some.inj H
            go_enter Tryz.func20, Tryz.ntmps20
            go_wp2_with (first | ((with_reducible refine gate_dst (N := 27) rfl ?_); refine Kd.R_lit (Kd.int .u8) _ 5 ?hg (N := 27) ?hd (xs := ([(a0) % 256] : List Int)) (inner := [.int .u8 ((a0) % 256)]) (ok := fun _ => True) (okp := fun _ => True) ?hr ?hp (fun _ hk => hk) trivial (Below.refl _ _) (Nat.le_refl _) (by simp) ?_; (case hd => rfl); (case hg => rfl); (case hr => first | (go_simp; done) | (go_simp; rfl)); (case hp => exact (Reps.one (show Kd.M (Kd.int .u8) _ _ _ ((a0) % 256) [.int .u8 ((a0) % 256)] from rfl) (Reps.none _ _))); intro v412 w27 ho28 hb hg_ hnew_; clear hg_ hnew_; (first | rw [← Ny411.out] at ho28 | (simp only [Int.reduceToNat] at ho28; rw [← Ny411.out] at ho28)); have HO413 := Aside0.mk (Kd.R_lower ho28 (below_size (bl_ HB).out)); replace HB := Aside0.mk (below_step (bl_ HB).out hb); clear hb ho28; have hcv29 := own_string (P := Tryz.prog) Tryz.underlying67 Tryz.underlying5 Tryz.underlying9 (Kd.own_of_R HO413.out)))
            go_ret
            exact ⟨ew_, (bl_ HB).out⟩
          · rw [if_neg c26] at H
            have c26b0 : decide (a0 ≤ 122) = false := decide_eq_false c26
            clear c26
            replace H := Option.bind_eq_some_iff.mp H
            obtain ⟨t414, A300, H⟩ := H
            replace H : (if 3 + t414.size ≤ 9223372036854775807 then (if ((⟨#[92, 117, 123]⟩ : ByteArray) ++ t414).size + 1 ≤ 9223372036854775807 then (some (((⟨#[92, 117, 123]⟩ : ByteArray) ++ t414) ++ (⟨#[125]⟩ : ByteArray))) else (none)) else (none)) = some r := H
            have A30 := Aside0.mk A300
            clear A300
            by_cases c31 : 3 + t414.size ≤ 9223372036854775807
            · rw [if_pos c31] at H
              have c31b0 := eq_true c31
              have c31b1 : decide (3 + t414.size ≤ 9223372036854775807) = true := decide_eq_true c31
              try have c31b2 : (9223372036854775807 < 3 + t414.size) = False := eq_false (Nat.not_lt.2 c31)
              by_cases c32 : ((⟨#[92, 117, 123]⟩ : ByteArray) ++ t414).size + 1 ≤ 9223372036854775807
              · rw [if_pos c32] at H
                have c32b0 := eq_true c32
                have c32b1 : decide (((⟨#[92, 117, 123]⟩ : ByteArray) ++ t414).size + 1 ≤ 9223372036854775807) = true := decide_eq_true c32
                try (have c32b5 := c32b0; simp only [ByteArray.size_append, Int.natCast_add] at c32b5)
                try have c32b2 : (9223372036854775807 < ((⟨#[92, 117, 123]⟩ : ByteArray) ++ t414).size + 1) = False := eq_false (Nat.not_lt.2 c32)
                try have c32b3 : (9223372036854775807 < 3 + t414.size + 1) = False := eq_false (Nat.not_lt.2 (by have h_ := c32; simp only [ByteArray.size_append] at h_; exact h_))
                try have c32b4 : (3 + t414.size + 1 ≤ 9223372036854775807) = True := eq_true (by have h_ := c32; simp only [ByteArray.size_append] at h_; exact h_)
                obtain rfl := Option.some.inj H
                go_enter Tryz.func20, Tryz.ntmps20
                go_wp2_with (first | ((with_reducible refine gate_callee (f := 32) rfl ?_); refine gl_ (some 30) Tryz.func32 #[.int .i64 a0, .int .i64 1] ?_; (with_reducible refine (florinlaw10_hex.calls k a0 1 t414 _ A30.out).mono ?_); rintro e w33 ⟨rfl, hb⟩; refine ⟨_, rfl, ?_⟩; replace HB := Aside0.mk (below_step (bl_ HB).out hb); (try clear hb); (try clear hi)))
                go_ret
                exact ⟨ew_, (bl_ HB).out⟩
              · rw [if_neg c32] at H
                exact absurd H (by simp)
            · rw [if_neg c31] at H
              exact absurd H (by simp)
        · rw [if_neg c25] at H
          have c25b0 : decide (97 ≤ a0) = false := decide_eq_false c25
          clear c25
          replace H := Option.bind_eq_some_iff.mp H
          obtain ⟨t415, A340, H⟩ := H
          replace H : (if 3 + t415.size ≤ 9223372036854775807 then (if ((⟨#[92, 117, 123]⟩ : ByteArray) ++ t415).size + 1 ≤ 9223372036854775807 then (some (((⟨#[92, 117, 123]⟩ : ByteArray) ++ t415) ++ (⟨#[125]⟩ : ByteArray))) else (none)) else (none)) = some r := H
          have A34 := Aside0.mk A340
          clear A340
          by_cases c35 : 3 + t415.size ≤ 9223372036854775807
          · rw [if_pos c35] at H
            have c35b0 := eq_true c35
            have c35b1 : decide (3 + t415.size ≤ 9223372036854775807) = true := decide_eq_true c35
            try have c35b2 : (9223372036854775807 < 3 + t415.size) = False := eq_false (Nat.not_lt.2 c35)
            by_cases c36 : ((⟨#[92, 117, 123]⟩ : ByteArray) ++ t415).size + 1 ≤ 9223372036854775807
            · rw [if_pos c36] at H
              have c36b0 := eq_true c36
              have c36b1 : decide (((⟨#[92, 117, 123]⟩ : ByteArray) ++ t415).size + 1 ≤ 9223372036854775807) = true := decide_eq_true c36
              try (have c36b5 := c36b0; simp only [ByteArray.size_append, Int.natCast_add] at c36b5)
              try have c36b2 : (9223372036854775807 < ((⟨#[92, 117, 123]⟩ : ByteArray) ++ t415).size + 1) = False := eq_false (Nat.not_lt.2 c36)
              try have c36b3 : (9223372036854775807 < 3 + t415.size + 1) = False := eq_false (Nat.not_lt.2 (by have h_ := c36; simp only [ByteArray.size_append] at h_; exact h_))
              try have c36b4 : (3 + t415.size + 1 ≤ 9223372036854775807) = True := eq_true (by have h_ := c36; simp only [ByteArray.size_append] at h_; exact h_)
              obtain rfl := Option.some.inj H
              go_enter Tryz.func20, Tryz.ntmps20
              go_wp2_with (first | ((with_reducible refine gate_callee (f := 32) rfl ?_); refine gl_ (some 30) Tryz.func32 #[.int .i64 a0, .int .i64 1] ?_; (with_reducible refine (florinlaw10_hex.calls k a0 1 t415 _ A34.out).mono ?_); rintro e w37 ⟨rfl, hb⟩; refine ⟨_, rfl, ?_⟩; replace HB := Aside0.mk (below_step (bl_ HB).out hb); (try clear hb); (try clear hi)))
              go_ret
              exact ⟨ew_, (bl_ HB).out⟩
            · rw [if_neg c36] at H
              exact absurd H (by simp)
          · rw [if_neg c35] at H
            exact absurd H (by simp)
  · rw [if_neg c2] at H
    have c2b0 : decide (48 ≤ a0) = false := decide_eq_false c2
    clear c2
    by_cases c38 : a0 ≥ 65
    · rw [if_pos c38] at H
      have c38b0 : decide (65 ≤ a0) = true := decide_eq_true c38
      clear c38
      by_cases c39 : a0 ≤ 90
      · rw [if_pos c39] at H
        have c39b0 : decide (a0 ≤ 90) = true := decide_eq_true c39
        clear c39
        obtain ⟨y416, hy416⟩ : ∃ y_ : List Int, y_ = (([(a0) % 256] : List Int)) := ⟨_, rfl⟩
        replace H : (some (strOfNums y416)) = some r := by first | (rw [hy416]; with_reducible exact H) | (have H2_ := (Option.bind_some _ _).symm.trans H; rw [hy416]; with_reducible exact H2_) | (have H2_ := (Option.bind_some _ _).symm.trans H; with_reducible exact H2_) | with_reducible exact H | (rw [hy416]; exact H) | exact H
        have Ny416 := Aside0.mk hy416
        clear hy416
        obtain rfl := Option.some.inj H
        go_enter Tryz.func20, Tryz.ntmps20
        go_wp2_with (first | ((with_reducible refine gate_dst (N := 27) rfl ?_); refine Kd.R_lit (Kd.int .u8) _ 5 ?hg (N := 27) ?hd (xs := ([(a0) % 256] : List Int)) (inner := [.int .u8 ((a0) % 256)]) (ok := fun _ => True) (okp := fun _ => True) ?hr ?hp (fun _ hk => hk) trivial (Below.refl _ _) (Nat.le_refl _) (by simp) ?_; (case hd => rfl); (case hg => rfl); (case hr => first | (go_simp; done) | (go_simp; rfl)); (case hp => exact (Reps.one (show Kd.M (Kd.int .u8) _ _ _ ((a0) % 256) [.int .u8 ((a0) % 256)] from rfl) (Reps.none _ _))); intro v417 w40 ho41 hb hg_ hnew_; clear hg_ hnew_; (first | rw [← Ny416.out] at ho41 | (simp only [Int.reduceToNat] at ho41; rw [← Ny416.out] at ho41)); have HO418 := Aside0.mk (Kd.R_lower ho41 (below_size (bl_ HB).out)); replace HB := Aside0.mk (below_step (bl_ HB).out hb); clear hb ho41; have hcv42 := own_string (P := Tryz.prog) Tryz.underlying67 Tryz.underlying5 Tryz.underlying9 (Kd.own_of_R HO418.out)))
        go_ret
        exact ⟨ew_, (bl_ HB).out⟩
      · rw [if_neg c39] at H
        have c39b0 : decide (a0 ≤ 90) = false := decide_eq_false c39
        clear c39
        by_cases c43 : a0 ≥ 97
        · rw [if_pos c43] at H
          have c43b0 : decide (97 ≤ a0) = true := decide_eq_true c43
          clear c43
          by_cases c44 : a0 ≤ 122
          · rw [if_pos c44] at H
            have c44b0 : decide (a0 ≤ 122) = true := decide_eq_true c44
            clear c44
            obtain ⟨y419, hy419⟩ : ∃ y_ : List Int, y_ = (([(a0) % 256] : List Int)) := ⟨_, rfl⟩
            replace H : (some (strOfNums y419)) = some r := by first | (rw [hy419]; with_reducible exact H) | (have H2_ := (Option.bind_some _ _).symm.trans H; rw [hy419]; with_reducible exact H2_) | (have H2_ := (Option.bind_some _ _).symm.trans H; with_reducible exact H2_) | with_reducible exact H | (rw [hy419]; exact H) | exact H
            have Ny419 := Aside0.mk hy419
            clear hy419
            obtain rfl := Option.some.inj H
            go_enter Tryz.func20, Tryz.ntmps20
            go_wp2_with (first | ((with_reducible refine gate_dst (N := 27) rfl ?_); refine Kd.R_lit (Kd.int .u8) _ 5 ?hg (N := 27) ?hd (xs := ([(a0) % 256] : List Int)) (inner := [.int .u8 ((a0) % 256)]) (ok := fun _ => True) (okp := fun _ => True) ?hr ?hp (fun _ hk => hk) trivial (Below.refl _ _) (Nat.le_refl _) (by simp) ?_; (case hd => rfl); (case hg => rfl); (case hr => first | (go_simp; done) | (go_simp; rfl)); (case hp => exact (Reps.one (show Kd.M (Kd.int .u8) _ _ _ ((a0) % 256) [.int .u8 ((a0) % 256)] from rfl) (Reps.none _ _))); intro v420 w45 ho46 hb hg_ hnew_; clear hg_ hnew_; (first | rw [← Ny419.out] at ho46 | (simp only [Int.reduceToNat] at ho46; rw [← Ny419.out] at ho46)); have HO421 := Aside0.mk (Kd.R_lower ho46 (below_size (bl_ HB).out)); replace HB := Aside0.mk (below_step (bl_ HB).out hb); clear hb ho46; have hcv47 := own_string (P := Tryz.prog) Tryz.underlying67 Tryz.underlying5 Tryz.underlying9 (Kd.own_of_R HO421.out)))
            go_ret
            exact ⟨ew_, (bl_ HB).out⟩
          · rw [if_neg c44] at H
            have c44b0 : decide (a0 ≤ 122) = false := decide_eq_false c44
            clear c44
            replace H := Option.bind_eq_some_iff.mp H
            obtain ⟨t422, A480, H⟩ := H
            replace H : (if 3 + t422.size ≤ 9223372036854775807 then (if ((⟨#[92, 117, 123]⟩ : ByteArray) ++ t422).size + 1 ≤ 9223372036854775807 then (some (((⟨#[92, 117, 123]⟩ : ByteArray) ++ t422) ++ (⟨#[125]⟩ : ByteArray))) else (none)) else (none)) = some r := H
            have A48 := Aside0.mk A480
            clear A480
            by_cases c49 : 3 + t422.size ≤ 9223372036854775807
            · rw [if_pos c49] at H
              have c49b0 := eq_true c49
              have c49b1 : decide (3 + t422.size ≤ 9223372036854775807) = true := decide_eq_true c49
              try have c49b2 : (9223372036854775807 < 3 + t422.size) = False := eq_false (Nat.not_lt.2 c49)
              by_cases c50 : ((⟨#[92, 117, 123]⟩ : ByteArray) ++ t422).size + 1 ≤ 9223372036854775807
              · rw [if_pos c50] at H
                have c50b0 := eq_true c50
                have c50b1 : decide (((⟨#[92, 117, 123]⟩ : ByteArray) ++ t422).size + 1 ≤ 9223372036854775807) = true := decide_eq_true c50
                try (have c50b5 := c50b0; simp only [ByteArray.size_append, Int.natCast_add] at c50b5)
                try have c50b2 : (9223372036854775807 < ((⟨#[92, 117, 123]⟩ : ByteArray) ++ t422).size + 1) = False := eq_false (Nat.not_lt.2 c50)
                try have c50b3 : (9223372036854775807 < 3 + t422.size + 1) = False := eq_false (Nat.not_lt.2 (by have h_ := c50; simp only [ByteArray.size_append] at h_; exact h_))
                try have c50b4 : (3 + t422.size + 1 ≤ 9223372036854775807) = True := eq_true (by have h_ := c50; simp only [ByteArray.size_append] at h_; exact h_)
                obtain rfl := Option.some.inj H
                go_enter Tryz.func20, Tryz.ntmps20
                go_wp2_with (first | ((with_reducible refine gate_callee (f := 32) rfl ?_); refine gl_ (some 30) Tryz.func32 #[.int .i64 a0, .int .i64 1] ?_; (with_reducible refine (florinlaw10_hex.calls k a0 1 t422 _ A48.out).mono ?_); rintro e w51 ⟨rfl, hb⟩; refine ⟨_, rfl, ?_⟩; replace HB := Aside0.mk (below_step (bl_ HB).out hb); (try clear hb); (try clear hi)))
                go_ret
                exact ⟨ew_, (bl_ HB).out⟩
              · rw [if_neg c50] at H
                exact absurd H (by simp)
            · rw [if_neg c49] at H
              exact absurd H (by simp)
        · rw [if_neg c43] at H
          have c43b0 : decide (97 ≤ a0) = false := decide_eq_false c43
          clear c43
          replace H := Option.bind_eq_some_iff.mp H
          obtain ⟨t423, A520, H⟩ := H
          replace H : (if 3 + t423.size ≤ 9223372036854775807 then (if ((⟨#[92, 117, 123]⟩ : ByteArray) ++ t423).size + 1 ≤ 9223372036854775807 then (some (((⟨#[92, 117, 123]⟩ : ByteArray) ++ t423) ++ (⟨#[125]⟩ : ByteArray))) else (none)) else (none)) = some r := H
          have A52 := Aside0.mk A520
          clear A520
          by_cases c53 : 3 + t423.size ≤ 9223372036854775807
          · rw [if_pos c53] at H
            have c53b0 := eq_true c53
            have c53b1 : decide (3 + t423.size ≤ 9223372036854775807) = true := decide_eq_true c53
            try have c53b2 : (9223372036854775807 < 3 + t423.size) = False := eq_false (Nat.not_lt.2 c53)
            by_cases c54 : ((⟨#[92, 117, 123]⟩ : ByteArray) ++ t423).size + 1 ≤ 9223372036854775807
            · rw [if_pos c54] at H
              have c54b0 := eq_true c54
              have c54b1 : decide (((⟨#[92, 117, 123]⟩ : ByteArray) ++ t423).size + 1 ≤ 9223372036854775807) = true := decide_eq_true c54
              try (have c54b5 := c54b0; simp only [ByteArray.size_append, Int.natCast_add] at c54b5)
              try have c54b2 : (9223372036854775807 < ((⟨#[92, 117, 123]⟩ : ByteArray) ++ t423).size + 1) = False := eq_false (Nat.not_lt.2 c54)
              try have c54b3 : (9223372036854775807 < 3 + t423.size + 1) = False := eq_false (Nat.not_lt.2 (by have h_ := c54; simp only [ByteArray.size_append] at h_; exact h_))
              try have c54b4 : (3 + t423.size + 1 ≤ 9223372036854775807) = True := eq_true (by have h_ := c54; simp only [ByteArray.size_append] at h_; exact h_)
              obtain rfl := Option.some.inj H
              go_enter Tryz.func20, Tryz.ntmps20
              go_wp2_with (first | ((with_reducible refine gate_callee (f := 32) rfl ?_); refine gl_ (some 30) Tryz.func32 #[.int .i64 a0, .int .i64 1] ?_; (with_reducible refine (florinlaw10_hex.calls k a0 1 t423 _ A52.out).mono ?_); rintro e w55 ⟨rfl, hb⟩; refine ⟨_, rfl, ?_⟩; replace HB := Aside0.mk (below_step (bl_ HB).out hb); (try clear hb); (try clear hi)))
              go_ret
              exact ⟨ew_, (bl_ HB).out⟩
            · rw [if_neg c54] at H
              exact absurd H (by simp)
          · rw [if_neg c53] at H
            exact absurd H (by simp)
    · rw [if_neg c38] at H
      have c38b0 : decide (65 ≤ a0) = false := decide_eq_false c38
      clear c38
      by_cases c56 : a0 ≥ 97
      · rw [if_pos c56] at H
        have c56b0 : decide (97 ≤ a0) = true := decide_eq_true c56
        clear c56
        by_cases c57 : a0 ≤ 122
        · rw [if_pos c57] at H
          have c57b0 : decide (a0 ≤ 122) = true := decide_eq_true c57
          clear c57
          obtain ⟨y424, hy424⟩ : ∃ y_ : List Int, y_ = (([(a0) % 256] : List Int)) := ⟨_, rfl⟩
          replace H : (some (strOfNums y424)) = some r := by first | (rw [hy424]; with_reducible exact H) | (have H2_ := (Option.bind_some _ _).symm.trans H; rw [hy424]; with_reducible exact H2_) | (have H2_ := (Option.bind_some _ _).symm.trans H; with_reducible exact H2_) | with_reducible exact H | (rw [hy424]; exact H) | exact H
          have Ny424 := Aside0.mk hy424
          clear hy424
          obtain rfl := Option.some.inj H
          go_enter Tryz.func20, Tryz.ntmps20
          go_wp2_with (first | ((with_reducible refine gate_dst (N := 27) rfl ?_); refine Kd.R_lit (Kd.int .u8) _ 5 ?hg (N := 27) ?hd (xs := ([(a0) % 256] : List Int)) (inner := [.int .u8 ((a0) % 256)]) (ok := fun _ => True) (okp := fun _ => True) ?hr ?hp (fun _ hk => hk) trivial (Below.refl _ _) (Nat.le_refl _) (by simp) ?_; (case hd => rfl); (case hg => rfl); (case hr => first | (go_simp; done) | (go_simp; rfl)); (case hp => exact (Reps.one (show Kd.M (Kd.int .u8) _ _ _ ((a0) % 256) [.int .u8 ((a0) % 256)] from rfl) (Reps.none _ _))); intro v425 w58 ho59 hb hg_ hnew_; clear hg_ hnew_; (first | rw [← Ny424.out] at ho59 | (simp only [Int.reduceToNat] at ho59; rw [← Ny424.out] at ho59)); have HO426 := Aside0.mk (Kd.R_lower ho59 (below_size (bl_ HB).out)); replace HB := Aside0.mk (below_step (bl_ HB).out hb); clear hb ho59; have hcv60 := own_string (P := Tryz.prog) Tryz.underlying67 Tryz.underlying5 Tryz.underlying9 (Kd.own_of_R HO426.out)))
          go_ret
          exact ⟨ew_, (bl_ HB).out⟩
        · rw [if_neg c57] at H
          have c57b0 : decide (a0 ≤ 122) = false := decide_eq_false c57
          clear c57
          replace H := Option.bind_eq_some_iff.mp H
          obtain ⟨t427, A610, H⟩ := H
          replace H : (if 3 + t427.size ≤ 9223372036854775807 then (if ((⟨#[92, 117, 123]⟩ : ByteArray) ++ t427).size + 1 ≤ 9223372036854775807 then (some (((⟨#[92, 117, 123]⟩ : ByteArray) ++ t427) ++ (⟨#[125]⟩ : ByteArray))) else (none)) else (none)) = some r := H
          have A61 := Aside0.mk A610
          clear A610
          by_cases c62 : 3 + t427.size ≤ 9223372036854775807
          · rw [if_pos c62] at H
            have c62b0 := eq_true c62
            have c62b1 : decide (3 + t427.size ≤ 9223372036854775807) = true := decide_eq_true c62
            try have c62b2 : (9223372036854775807 < 3 + t427.size) = False := eq_false (Nat.not_lt.2 c62)
            by_cases c63 : ((⟨#[92, 117, 123]⟩ : ByteArray) ++ t427).size + 1 ≤ 9223372036854775807
            · rw [if_pos c63] at H
              have c63b0 := eq_true c63
              have c63b1 : decide (((⟨#[92, 117, 123]⟩ : ByteArray) ++ t427).size + 1 ≤ 9223372036854775807) = true := decide_eq_true c63
              try (have c63b5 := c63b0; simp only [ByteArray.size_append, Int.natCast_add] at c63b5)
              try have c63b2 : (9223372036854775807 < ((⟨#[92, 117, 123]⟩ : ByteArray) ++ t427).size + 1) = False := eq_false (Nat.not_lt.2 c63)
              try have c63b3 : (9223372036854775807 < 3 + t427.size + 1) = False := eq_false (Nat.not_lt.2 (by have h_ := c63; simp only [ByteArray.size_append] at h_; exact h_))
              try have c63b4 : (3 + t427.size + 1 ≤ 9223372036854775807) = True := eq_true (by have h_ := c63; simp only [ByteArray.size_append] at h_; exact h_)
              obtain rfl := Option.some.inj H
              go_enter Tryz.func20, Tryz.ntmps20
              go_wp2_with (first | ((with_reducible refine gate_callee (f := 32) rfl ?_); refine gl_ (some 30) Tryz.func32 #[.int .i64 a0, .int .i64 1] ?_; (with_reducible refine (florinlaw10_hex.calls k a0 1 t427 _ A61.out).mono ?_); rintro e w64 ⟨rfl, hb⟩; refine ⟨_, rfl, ?_⟩; replace HB := Aside0.mk (below_step (bl_ HB).out hb); (try clear hb); (try clear hi)))
              go_ret
              exact ⟨ew_, (bl_ HB).out⟩
            · rw [if_neg c63] at H
              exact absurd H (by simp)
          · rw [if_neg c62] at H
            exact absurd H (by simp)
      · rw [if_neg c56] at H
        have c56b0 : decide (97 ≤ a0) = false := decide_eq_false c56
        clear c56
        replace H := Option.bind_eq_some_iff.mp H
        obtain ⟨t428, A650, H⟩ := H
        replace H : (if 3 + t428.size ≤ 9223372036854775807 then (if ((⟨#[92, 117, 123]⟩ : ByteArray) ++ t428).size + 1 ≤ 9223372036854775807 then (some (((⟨#[92, 117, 123]⟩ : ByteArray) ++ t428) ++ (⟨#[125]⟩ : ByteArray))) else (none)) else (none)) = some r := H
        have A65 := Aside0.mk A650
        clear A650
        by_cases c66 : 3 + t428.size ≤ 9223372036854775807
        · rw [if_pos c66] at H
          have c66b0 := eq_true c66
          have c66b1 : decide (3 + t428.size ≤ 9223372036854775807) = true := decide_eq_true c66
          try have c66b2 : (9223372036854775807 < 3 + t428.size) = False := eq_false (Nat.not_lt.2 c66)
          by_cases c67 : ((⟨#[92, 117, 123]⟩ : ByteArray) ++ t428).size + 1 ≤ 9223372036854775807
          · rw [if_pos c67] at H
            have c67b0 := eq_true c67
            have c67b1 : decide (((⟨#[92, 117, 123]⟩ : ByteArray) ++ t428).size + 1 ≤ 9223372036854775807) = true := decide_eq_true c67
            try (have c67b5 := c67b0; simp only [ByteArray.size_append, Int.natCast_add] at c67b5)
            try have c67b2 : (9223372036854775807 < ((⟨#[92, 117, 123]⟩ : ByteArray) ++ t428).size + 1) = False := eq_false (Nat.not_lt.2 c67)
            try have c67b3 : (9223372036854775807 < 3 + t428.size + 1) = False := eq_false (Nat.not_lt.2 (by have h_ := c67; simp only [ByteArray.size_append] at h_; exact h_))
            try have c67b4 : (3 + t428.size + 1 ≤ 9223372036854775807) = True := eq_true (by have h_ := c67; simp only [ByteArray.size_append] at h_; exact h_)
            obtain rfl := Option.some.inj H
            go_enter Tryz.func20, Tryz.ntmps20
            go_wp2_with (first | ((with_reducible refine gate_callee (f := 32) rfl ?_); refine gl_ (some 30) Tryz.func32 #[.int .i64 a0, .int .i64 1] ?_; (with_reducible refine (florinlaw10_hex.calls k a0 1 t428 _ A65.out).mono ?_); rintro e w68 ⟨rfl, hb⟩; refine ⟨_, rfl, ?_⟩; replace HB := Aside0.mk (below_step (bl_ HB).out hb); (try clear hb); (try clear hi)))
            go_ret
            exact ⟨ew_, (bl_ HB).out⟩
          · rw [if_neg c67] at H
            exact absurd H (by simp)
        · rw [if_neg c66] at H
          exact absurd H (by simp)

end Go.Proofs.YtnpohgoacbpcjaaGreatDoor.P
