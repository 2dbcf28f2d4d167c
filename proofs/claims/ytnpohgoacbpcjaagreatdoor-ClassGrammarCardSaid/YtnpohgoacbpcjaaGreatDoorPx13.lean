-- written by a program of this session (wip/p2)
import Derived.Test.YtnpohgoacbpcjaaGreatDoorPx0
namespace Go.Proofs.YtnpohgoacbpcjaaGreatDoor.P
open Go.RowKit Go.Proofs.YtnpohgoacbpcjaaGreatDoorW.PrintWords Go.Proofs.YtnpohgoacbpcjaaGreatDoorW.PrintLast Go.Proofs.YtnpohgoacbpcjaaGreatDoorW.PrintMore
attribute [local go_sem] max2_int min2_int max_two min_two max_three min_three max_four min_four   -- for this text's walks alone
set_option linter.unusedVariables false
set_option linter.unusedSimpArgs false

/-! ### florinlaw09_Point: function 40 -/
def florinlaw09_Point.f (a0 : Int) : Option (Int) := if (Go.bits .and .i64 a0 2097151) > 1114111 then (if (Go.bits .and .i64 (Go.bits .and .i64 a0 2097151) 65535) ≥ 55296 then (if (Go.bits .and .i64 (Go.bits .and .i64 a0 2097151) 65535) ≤ 57343 then (some (Go.bits .and .i64 (Go.bits .and .i64 (Go.bits .and .i64 a0 2097151) 65535) 4095)) else (some (Go.bits .and .i64 (Go.bits .and .i64 a0 2097151) 65535))) else (some (Go.bits .and .i64 (Go.bits .and .i64 a0 2097151) 65535))) else (if (Go.bits .and .i64 a0 2097151) ≥ 55296 then (if (Go.bits .and .i64 a0 2097151) ≤ 57343 then (some (Go.bits .and .i64 (Go.bits .and .i64 a0 2097151) 4095)) else (some (Go.bits .and .i64 a0 2097151))) else (some (Go.bits .and .i64 a0 2097151)))
set_option maxHeartbeats 64000000 in
set_option maxRecDepth 100000 in
theorem florinlaw09_Point.calls (a0 : Int) (r : Int) (w : World) (h : florinlaw09_Point.f a0 = some r) :
    Calls Tryz.prog 40 #[.int .i64 a0] w fun e w' => e = .returned (.int .i64 r) ∧ Drawn0 w w' := by
  have H : (if (Go.bits .and .i64 a0 2097151) > 1114111 then (if (Go.bits .and .i64 (Go.bits .and .i64 a0 2097151) 65535) ≥ 55296 then (if (Go.bits .and .i64 (Go.bits .and .i64 a0 2097151) 65535) ≤ 57343 then (some (Go.bits .and .i64 (Go.bits .and .i64 (Go.bits .and .i64 a0 2097151) 65535) 4095)) else (some (Go.bits .and .i64 (Go.bits .and .i64 a0 2097151) 65535))) else (some (Go.bits .and .i64 (Go.bits .and .i64 a0 2097151) 65535))) else (if (Go.bits .and .i64 a0 2097151) ≥ 55296 then (if (Go.bits .and .i64 a0 2097151) ≤ 57343 then (some (Go.bits .and .i64 (Go.bits .and .i64 a0 2097151) 4095)) else (some (Go.bits .and .i64 a0 2097151))) else (some (Go.bits .and .i64 a0 2097151)))) = some r := h
  clear h
  by_cases c2 : (Go.bits .and .i64 a0 2097151) > 1114111
  · rw [if_pos c2] at H
    have c2b0 : decide (1114111 < (Go.bits .and .i64 a0 2097151)) = true := decide_eq_true c2
    clear c2
    by_cases c3 : (Go.bits .and .i64 (Go.bits .and .i64 a0 2097151) 65535) ≥ 55296
    · rw [if_pos c3] at H
      have c3b0 : decide (55296 ≤ (Go.bits .and .i64 (Go.bits .and .i64 a0 2097151) 65535)) = true := decide_eq_true c3
      clear c3
      by_cases c4 : (Go.bits .and .i64 (Go.bits .and .i64 a0 2097151) 65535) ≤ 57343
      · rw [if_pos c4] at H
        have c4b0 : decide ((Go.bits .and .i64 (Go.bits .and .i64 a0 2097151) 65535) ≤ 57343) = true := decide_eq_true c4
        clear c4
        obtain rfl := Option.some.inj H
        go_enter Tryz.func40, Tryz.ntmps40
        go_wp2
        go_ret
        exact ⟨by first | rfl | (simp; done) | (simp [*]; done) | (simp; first | exact given_isEmpty _ | exact (given_isEmpty _).symm) | (unfold wrap64; omega) | (congr 1; unfold wrap64; omega), by repeat (first | exact Drawn0.refl _ | apply Drawn0.step)⟩
      · rw [if_neg c4] at H
        have c4b0 : decide ((Go.bits .and .i64 (Go.bits .and .i64 a0 2097151) 65535) ≤ 57343) = false := decide_eq_false c4
        clear c4
        obtain rfl := Option.some.inj H
        go_enter Tryz.func40, Tryz.ntmps40
        go_wp2
        go_ret
        exact ⟨by first | rfl | (simp; done) | (simp [*]; done) | (simp; first | exact given_isEmpty _ | exact (given_isEmpty _).symm) | (unfold wrap64; omega) | (congr 1; unfold wrap64; omega), by repeat (first | exact Drawn0.refl _ | apply Drawn0.step)⟩
    · rw [if_neg c3] at H
      have c3b0 : decide (55296 ≤ (Go.bits .and .i64 (Go.bits .and .i64 a0 2097151) 65535)) = false := decide_eq_false c3
      clear c3
      obtain rfl := Option.some.inj H
      go_enter Tryz.func40, Tryz.ntmps40
      go_wp2
      go_ret
      exact ⟨by first | rfl | (simp; done) | (simp [*]; done) | (simp; first | exact given_isEmpty _ | exact (given_isEmpty _).symm) | (unfold wrap64; omega) | (congr 1; unfold wrap64; omega), by repeat (first | exact Drawn0.refl _ | apply Drawn0.step)⟩
  · rw [if_neg c2] at H
    have c2b0 : decide (1114111 < (Go.bits .and .i64 a0 2097151)) = false := decide_eq_false c2
    clear c2
    by_cases c5 : (Go.bits .and .i64 a0 2097151) ≥ 55296
    · rw [if_pos c5] at H
      have c5b0 : decide (55296 ≤ (Go.bits .and .i64 a0 2097151)) = true := decide_eq_true c5
      clear c5
      by_cases c6 : (Go.bits .and .i64 a0 2097151) ≤ 57343
      · rw [if_pos c6] at H
        have c6b0 : decide ((Go.bits .and .i64 a0 2097151) ≤ 57343) = true := decide_eq_true c6
        clear c6
        obtain rfl := Option.some.inj H
        go_enter Tryz.func40, Tryz.ntmps40
        go_wp2
        go_ret
        exact ⟨by first | rfl | (simp; done) | (simp [*]; done) | (simp; first | exact given_isEmpty _ | exact (given_isEmpty _).symm) | (unfold wrap64; omega) | (congr 1; unfold wrap64; omega), by repeat (first | exact Drawn0.refl _ | apply Drawn0.step)⟩
      · rw [if_neg c6] at H
        have c6b0 : decide ((Go.bits .and .i64 a0 2097151) ≤ 57343) = false := decide_eq_false c6
        clear c6
        obtain rfl := Option.some.inj H
        go_enter Tryz.func40, Tryz.ntmps40
        go_wp2
        go_ret
        exact ⟨by first | rfl | (simp; done) | (simp [*]; done) | (simp; first | exact given_isEmpty _ | exact (given_isEmpty _).symm) | (unfold wrap64; omega) | (congr 1; unfold wrap64; omega), by repeat (first | exact Drawn0.refl _ | apply Drawn0.step)⟩
    · rw [if_neg c5] at H
      have c5b0 : decide (55296 ≤ (Go.bits .and .i64 a0 2097151)) = false := decide_eq_false c5
      clear c5
      obtain rfl := Option.some.inj H
      go_enter Tryz.func40, Tryz.ntmps40
      go_wp2
      go_ret
      exact ⟨by first | rfl | (simp; done) | (simp [*]; done) | (simp; first | exact given_isEmpty _ | exact (given_isEmpty _).symm) | (unfold wrap64; omega) | (congr 1; unfold wrap64; omega), by repeat (first | exact Drawn0.refl _ | apply Drawn0.step)⟩

end Go.Proofs.YtnpohgoacbpcjaaGreatDoor.P
