-- written by a program of this session (wip/p2)
import Derived.Test.YtnpohgoacbpcjaaGreatDoorPx0
namespace Go.Proofs.YtnpohgoacbpcjaaGreatDoor.P
open Go.RowKit Go.Proofs.YtnpohgoacbpcjaaGreatDoorW.PrintWords Go.Proofs.YtnpohgoacbpcjaaGreatDoorW.PrintLast Go.Proofs.YtnpohgoacbpcjaaGreatDoorW.PrintMore
attribute [local go_sem] max2_int min2_int max_two min_two max_three min_three max_four min_four   -- for this text's walks alone
set_option linter.unusedVariables false
set_option linter.unusedSimpArgs false

/-! ### florinlaw09_Sign: function 41 -/
def florinlaw09_Sign.f (a0 : Int) : Option (ByteArray) := if a0 < 128 then (some (strOfNums (([(a0) % 256] : List Int)))) else (if a0 < 2048 then (some (strOfNums (([Go.bits .or .u8 192 ((a0 / 64) % 256), Go.bits .or .u8 128 ((Go.bits .and .i64 a0 63) % 256)] : List Int)))) else (if a0 < 65536 then (some (strOfNums (([Go.bits .or .u8 224 ((a0 / 4096) % 256), Go.bits .or .u8 128 ((Go.bits .and .i64 (a0 / 64) 63) % 256), Go.bits .or .u8 128 ((Go.bits .and .i64 a0 63) % 256)] : List Int)))) else (some (strOfNums (([Go.bits .or .u8 240 ((a0 / 262144) % 256), Go.bits .or .u8 128 ((Go.bits .and .i64 (a0 / 4096) 63) % 256), Go.bits .or .u8 128 ((Go.bits .and .i64 (a0 / 64) 63) % 256), Go.bits .or .u8 128 ((Go.bits .and .i64 a0 63) % 256)] : List Int))))))
set_option maxHeartbeats 64000000 in
set_option maxRecDepth 100000 in
theorem florinlaw09_Sign.calls (a0 : Int) (r : ByteArray) (w : World) (h : florinlaw09_Sign.f a0 = some r) :
    Calls Tryz.prog 41 #[.int .i64 a0] w fun e w' => e = .returned (.string r) ∧ Below w.heap.size w w' := by
  have HB := Aside0.mk (Below.refl w.heap.size w)
  have H : (if a0 < 128 then (some (strOfNums (([(a0) % 256] : List Int)))) else (if a0 < 2048 then (some (strOfNums (([Go.bits .or .u8 192 ((a0 / 64) % 256), Go.bits .or .u8 128 ((Go.bits .and .i64 a0 63) % 256)] : List Int)))) else (if a0 < 65536 then (some (strOfNums (([Go.bits .or .u8 224 ((a0 / 4096) % 256), Go.bits .or .u8 128 ((Go.bits .and .i64 (a0 / 64) 63) % 256), Go.bits .or .u8 128 ((Go.bits .and .i64 a0 63) % 256)] : List Int)))) else (some (strOfNums (([Go.bits .or .u8 240 ((a0 / 262144) % 256), Go.bits .or .u8 128 ((Go.bits .and .i64 (a0 / 4096) 63) % 256), Go.bits .or .u8 128 ((Go.bits .and .i64 (a0 / 64) 63) % 256), Go.bits .or .u8 128 ((Go.bits .and .i64 a0 63) % 256)] : List Int))))))) = some r := h
  clear h
  by_cases c2 : a0 < 128
  · rw [if_pos c2] at H
    have c2b0 : decide (a0 < 128) = true := decide_eq_true c2
    clear c2
    obtain ⟨y332, hy332⟩ : ∃ y_ : List Int, y_ = (([(a0) % 256] : List Int)) := ⟨_, rfl⟩
    replace H : (some (strOfNums y332)) = some r := by first | (rw [hy332]; with_reducible exact H) | (have H2_ := (Option.bind_some _ _).symm.trans H; rw [hy332]; with_reducible exact H2_) | (have H2_ := (Option.bind_some _ _).symm.trans H; with_reducible exact H2_) | with_reducible exact H | (rw [hy332]; exact H) | exact H
    have Ny332 := Aside0.mk hy332
    clear hy332
    obtain rfl := Option.some.inj H
    go_enter Tryz.func41, Tryz.ntmps41
    go_wp2_with (first | ((with_reducible refine gate_dst (N := 8) rfl ?_); refine Kd.R_lit (Kd.int .u8) _ 5 ?hg (N := 8) ?hd (xs := ([(a0) % 256] : List Int)) (inner := [.int .u8 ((a0) % 256)]) (ok := fun _ => True) (okp := fun _ => True) ?hr ?hp (fun _ hk => hk) trivial (Below.refl _ _) (Nat.le_refl _) (by simp) ?_; (case hd => rfl); (case hg => rfl); (case hr => first | (go_simp; done) | (go_simp; rfl)); (case hp => exact (Reps.one (show Kd.M (Kd.int .u8) _ _ _ ((a0) % 256) [.int .u8 ((a0) % 256)] from rfl) (Reps.none _ _))); intro v333 w3 ho4 hb hg_ hnew_; clear hg_ hnew_; (first | rw [← Ny332.out] at ho4 | (simp only [Int.reduceToNat] at ho4; rw [← Ny332.out] at ho4)); have HO334 := Aside0.mk (Kd.R_lower ho4 (below_size (bl_ HB).out)); replace HB := Aside0.mk (below_step (bl_ HB).out hb); clear hb ho4; have hcv5 := own_string (P := Tryz.prog) Tryz.underlying67 Tryz.underlying5 Tryz.underlying9 (Kd.own_of_R HO334.out)))
    go_ret
    exact ⟨ew_, (bl_ HB).out⟩
  · rw [if_neg c2] at H
    have c2b0 : decide (a0 < 128) = false := decide_eq_false c2
    clear c2
    by_cases c6 : a0 < 2048
    · rw [if_pos c6] at H
      have c6b0 : decide (a0 < 2048) = true := decide_eq_true c6
      clear c6
      obtain ⟨y335, hy335⟩ : ∃ y_ : List Int, y_ = (([Go.bits .or .u8 192 ((a0 / 64) % 256), Go.bits .or .u8 128 ((Go.bits .and .i64 a0 63) % 256)] : List Int)) := ⟨_, rfl⟩
      replace H : (some (strOfNums y335)) = some r := by first | (rw [hy335]; with_reducible exact H) | (have H2_ := (Option.bind_some _ _).symm.trans H; rw [hy335]; with_reducible exact H2_) | (have H2_ := (Option.bind_some _ _).symm.trans H; with_reducible exact H2_) | with_reducible exact H | (rw [hy335]; exact H) | exact H
      have Ny335 := Aside0.mk hy335
      clear hy335
      obtain rfl := Option.some.inj H
      go_enter Tryz.func41, Tryz.ntmps41
      go_wp2_with (first | ((with_reducible refine gate_dst (N := 21) rfl ?_); refine Kd.R_lit (Kd.int .u8) _ 5 ?hg (N := 21) ?hd (xs := ([Go.bits .or .u8 192 ((a0 / 64) % 256), Go.bits .or .u8 128 ((Go.bits .and .i64 a0 63) % 256)] : List Int)) (inner := [.int .u8 (Go.bits .or .u8 192 ((a0 / 64) % 256)), .int .u8 (Go.bits .or .u8 128 ((Go.bits .and .i64 a0 63) % 256))]) (ok := fun _ => True) (okp := fun _ => True) ?hr ?hp (fun _ hk => hk) trivial (Below.refl _ _) (Nat.le_refl _) (by simp) ?_; (case hd => rfl); (case hg => rfl); (case hr => first | (go_simp; done) | (go_simp; rfl)); (case hp => exact (Reps.one (show Kd.M (Kd.int .u8) _ _ _ (Go.bits .or .u8 192 ((a0 / 64) % 256)) [.int .u8 (Go.bits .or .u8 192 ((a0 / 64) % 256))] from rfl) (Reps.one (show Kd.M (Kd.int .u8) _ _ _ (Go.bits .or .u8 128 ((Go.bits .and .i64 a0 63) % 256)) [.int .u8 (Go.bits .or .u8 128 ((Go.bits .and .i64 a0 63) % 256))] from rfl) (Reps.none _ _)))); intro v336 w7 ho8 hb hg_ hnew_; clear hg_ hnew_; (first | rw [← Ny335.out] at ho8 | (simp only [Int.reduceToNat] at ho8; rw [← Ny335.out] at ho8)); have HO337 := Aside0.mk (Kd.R_lower ho8 (below_size (bl_ HB).out)); replace HB := Aside0.mk (below_step (bl_ HB).out hb); clear hb ho8; have hcv9 := own_string (P := Tryz.prog) Tryz.underlying67 Tryz.underlying5 Tryz.underlying9 (Kd.own_of_R HO337.out)))
      go_ret
      exact ⟨ew_, (bl_ HB).out⟩
    · rw [if_neg c6] at H
      have c6b0 : decide (a0 < 2048) = false := decide_eq_false c6
      clear c6
      by_cases c10 : a0 < 65536
      · rw [if_pos c10] at H
        have c10b0 : decide (a0 < 65536) = true := decide_eq_true c10
        clear c10
        obtain ⟨y338, hy338⟩ : ∃ y_ : List Int, y_ = (([Go.bits .or .u8 224 ((a0 / 4096) % 256), Go.bits .or .u8 128 ((Go.bits .and .i64 (a0 / 64) 63) % 256), Go.bits .or .u8 128 ((Go.bits .and .i64 a0 63) % 256)] : List Int)) := ⟨_, rfl⟩
        replace H : (some (strOfNums y338)) = some r := by first | (rw [hy338]; with_reducible exact H) | (have H2_ := (Option.bind_some _ _).symm.trans H; rw [hy338]; with_reducible exact H2_) | (have H2_ := (Option.bind_some _ _).symm.trans H; with_reducible exact H2_) | with_reducible exact H | (rw [hy338]; exact H) | exact H
        have Ny338 := Aside0.mk hy338
        clear hy338
        obtain rfl := Option.some.inj H
        go_enter Tryz.func41, Tryz.ntmps41
        go_wp2_with (first | ((with_reducible refine gate_dst (N := 39) rfl ?_); refine Kd.R_lit (Kd.int .u8) _ 5 ?hg (N := 39) ?hd (xs := ([Go.bits .or .u8 224 ((a0 / 4096) % 256), Go.bits .or .u8 128 ((Go.bits .and .i64 (a0 / 64) 63) % 256), Go.bits .or .u8 128 ((Go.bits .and .i64 a0 63) % 256)] : List Int)) (inner := [.int .u8 (Go.bits .or .u8 224 ((a0 / 4096) % 256)), .int .u8 (Go.bits .or .u8 128 ((Go.bits .and .i64 (a0 / 64) 63) % 256)), .int .u8 (Go.bits .or .u8 128 ((Go.bits .and .i64 a0 63) % 256))]) (ok := fun _ => True) (okp := fun _ => True) ?hr ?hp (fun _ hk => hk) trivial (Below.refl _ _) (Nat.le_refl _) (by simp) ?_; (case hd => rfl); (case hg => rfl); (case hr => first | (go_simp; done) | (go_simp; rfl)); (case hp => exact (Reps.one (show Kd.M (Kd.int .u8) _ _ _ (Go.bits .or .u8 224 ((a0 / 4096) % 256)) [.int .u8 (Go.bits .or .u8 224 ((a0 / 4096) % 256))] from rfl) (Reps.one (show Kd.M (Kd.int .u8) _ _ _ (Go.bits .or .u8 128 ((Go.bits .and .i64 (a0 / 64) 63) % 256)) [.int .u8 (Go.bits .or .u8 128 ((Go.bits .and .i64 (a0 / 64) 63) % 256))] from rfl) (Reps.one (show Kd.M (Kd.int .u8) _ _ _ (Go.bits .or .u8 128 ((Go.bits .and .i64 a0 63) % 256)) [.int .u8 (Go.bits .or .u8 128 ((Go.bits .and .i64 a0 63) % 256))] from rfl) (Reps.none _ _))))); intro v339 w11 ho12 hb hg_ hnew_; clear hg_ hnew_; (first | rw [← Ny338.out] at ho12 | (simp only [Int.reduceToNat] at ho12; rw [← Ny338.out] at ho12)); have HO340 := Aside0.mk (Kd.R_lower ho12 (below_size (bl_ HB).out)); replace HB := Aside0.mk (below_step (bl_ HB).out hb); clear hb ho12; have hcv13 := own_string (P := Tryz.prog) Tryz.underlying67 Tryz.underlying5 Tryz.underlying9 (Kd.own_of_R HO340.out)))
        go_ret
        exact ⟨ew_, (bl_ HB).out⟩
      · rw [if_neg c10] at H
        have c10b0 : decide (a0 < 65536) = false := decide_eq_false c10
        clear c10
        obtain ⟨y341, hy341⟩ : ∃ y_ : List Int, y_ = (([Go.bits .or .u8 240 ((a0 / 262144) % 256), Go.bits .or .u8 128 ((Go.bits .and .i64 (a0 / 4096) 63) % 256), Go.bits .or .u8 128 ((Go.bits .and .i64 (a0 / 64) 63) % 256), Go.bits .or .u8 128 ((Go.bits .and .i64 a0 63) % 256)] : List Int)) := ⟨_, rfl⟩
        replace H : (some (strOfNums y341)) = some r := by first | (rw [hy341]; with_reducible exact H) | (have H2_ := (Option.bind_some _ _).symm.trans H; rw [hy341]; with_reducible exact H2_) | (have H2_ := (Option.bind_some _ _).symm.trans H; with_reducible exact H2_) | with_reducible exact H | (rw [hy341]; exact H) | exact H
        have Ny341 := Aside0.mk hy341
        clear hy341
        obtain rfl := Option.some.inj H
        go_enter Tryz.func41, Tryz.ntmps41
        go_wp2_with (first | ((with_reducible refine gate_dst (N := 59) rfl ?_); refine Kd.R_lit (Kd.int .u8) _ 5 ?hg (N := 59) ?hd (xs := ([Go.bits .or .u8 240 ((a0 / 262144) % 256), Go.bits .or .u8 128 ((Go.bits .and .i64 (a0 / 4096) 63) % 256), Go.bits .or .u8 128 ((Go.bits .and .i64 (a0 / 64) 63) % 256), Go.bits .or .u8 128 ((Go.bits .and .i64 a0 63) % 256)] : List Int)) (inner := [.int .u8 (Go.bits .or .u8 240 ((a0 / 262144) % 256)), .int .u8 (Go.bits .or .u8 128 ((Go.bits .and .i64 (a0 / 4096) 63) % 256)), .int .u8 (Go.bits .or .u8 128 ((Go.bits .and .i64 (a0 / 64) 63) % 256)), .int .u8 (Go.bits .or .u8 128 ((Go.bits .and .i64 a0 63) % 256))]) (ok := fun _ => True) (okp := fun _ => True) ?hr ?hp (fun _ hk => hk) trivial (Below.refl _ _) (Nat.le_refl _) (by simp) ?_; (case hd => rfl); (case hg => rfl); (case hr => first | (go_simp; done) | (go_simp; rfl)); (case hp => exact (Reps.one (show Kd.M (Kd.int .u8) _ _ _ (Go.bits .or .u8 240 ((a0 / 262144) % 256)) [.int .u8 (Go.bits .or .u8 240 ((a0 / 262144) % 256))] from rfl) (Reps.one (show Kd.M (Kd.int .u8) _ _ _ (Go.bits .or .u8 128 ((Go.bits .and .i64 (a0 / 4096) 63) % 256)) [.int .u8 (Go.bits .or .u8 128 ((Go.bits .and .i64 (a0 / 4096) 63) % 256))] from rfl) (Reps.one (show Kd.M (Kd.int .u8) _ _ _ (Go.bits .or .u8 128 ((Go.bits .and .i64 (a0 / 64) 63) % 256)) [.int .u8 (Go.bits .or .u8 128 ((Go.bits .and .i64 (a0 / 64) 63) % 256))] from rfl) (Reps.one (show Kd.M (Kd.int .u8) _ _ _ (Go.bits .or .u8 128 ((Go.bits .and .i64 a0 63) % 256)) [.int .u8 (Go.bits .or .u8 128 ((Go.bits .and .i64 a0 63) % 256))] from rfl) (Reps.none _ _)))))); intro v342 w14 ho15 hb hg_ hnew_; clear hg_ hnew_; (first | rw [← Ny341.out] at ho15 | (simp only [Int.reduceToNat] at ho15; rw [← Ny341.out] at ho15)); have HO343 := Aside0.mk (Kd.R_lower ho15 (below_size (bl_ HB).out)); replace HB := Aside0.mk (below_step (bl_ HB).out hb); clear hb ho15; have hcv16 := own_string (P := Tryz.prog) Tryz.underlying67 Tryz.underlying5 Tryz.underlying9 (Kd.own_of_R HO343.out)))
        go_ret
        exact ⟨ew_, (bl_ HB).out⟩

end Go.Proofs.YtnpohgoacbpcjaaGreatDoor.P
