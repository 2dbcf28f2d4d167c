import Derived.Test.YtaifmgdhdnmjiaaDoorS3
import Derived.Test.YtaifmgdhdnmjiaaDoorM7
import Derived.Test.YtaifmgdhdnmjiaaDoorPx3
namespace Go.Proofs.YtaifmgdhdnmjiaaDoor.P
open Go.RowKit Go.Proofs.YtaifmgdhdnmjiaaDoorW.PrintWords Go.Proofs.YtaifmgdhdnmjiaaDoorW.PrintLast Go.Proofs.YtaifmgdhdnmjiaaDoorW.PrintMore Go.Proofs.YtaifmgdhdnmjiaaDoor.FM
set_option linter.unusedVariables false
set_option linter.unusedSimpArgs false

/-! a number as an int -/
theorem Int_go (l : List UInt8) (hd : Dig l) (hl : l.length ≤ 18) : num_Int.go l = (nvl l : Int) := by
  unfold num_Int.go
  induction l using snoc_induction with
  | h0 => rfl
  | h1 l c ih =>
    rw [dig_append, dig_cons] at hd
    have hl' : l.length ≤ 18 := by simp at hl; omega
    rw [List.foldl_append, List.foldl_cons, List.foldl_nil, ih hd.1 hl', nvl_snoc]
    have hlt : nvl l < 10 ^ 18 := Nat.lt_of_lt_of_le (nvl_lt hd.1) (Nat.pow_le_pow_right (by omega) hl')
    have hlt' : nvl l < 10 ^ 17 := Nat.lt_of_lt_of_le (nvl_lt hd.1) (Nat.pow_le_pow_right (by omega) (by simp at hl; omega))
    unfold num_Int.step
    have hc := hd.2.1
    rw [w64 (x := 10 * (nvl l : Int)) (by omega) (by omega), w64 (by omega) (by omega)]
    omega
theorem Int_ev (a : List UInt8) (la : Sm a) (da : Dig a) (h : nvl a < 10 ^ 18) : Ev (fun k => num_Int.f k (S a)) ((nvl a : Int), true) := by
  unfold num_Int.f
  refine Ev.bind (Is_ev a (by unfold Sm at la; omega)) ?_
  rw [decide_eq_true da]
  refine Ev.if_pos rfl (Ev.bind (Trim_dig a (by unfold Sm at la; omega) da) ?_)
  have hl : (mkl (nvl a)).length ≤ 18 := mkl_length_le.2 h
  refine Ev.if_neg (by rw [S_size]; omega) ?_
  rw [S_data, Int_go _ (dig_mkl _) hl, nvl_mkl]
  exact Ev.now _
theorem Int_long (a : List UInt8) (la : Sm a) (da : Dig a) (h : 10 ^ 18 ≤ nvl a) : Ev (fun k => num_Int.f k (S a)) (0, false) := by
  unfold num_Int.f
  refine Ev.bind (Is_ev a (by unfold Sm at la; omega)) ?_
  rw [decide_eq_true da]
  refine Ev.if_pos rfl (Ev.bind (Trim_dig a (by unfold Sm at la; omega) da) ?_)
  have hl : ¬ (mkl (nvl a)).length ≤ 18 := by rw [mkl_length_le]; omega
  exact Ev.if_pos (by rw [S_size]; omega) (Ev.now _)
theorem Int_not (a : List UInt8) (la : Sm a) (da : ¬ Dig a) : Ev (fun k => num_Int.f k (S a)) (0, false) := by
  unfold num_Int.f
  refine Ev.bind (Is_ev a (by unfold Sm at la; omega)) ?_
  rw [decide_eq_false da]
  exact Ev.if_neg (by decide) (Ev.now _)

/-! noughts -/
theorem repeat_zs (n : Nat) : Lib.repeatL [48] n = zs n := by
  induction n with
  | zero => rfl
  | succ n ih => rw [Lib.repeatL, ih]; rfl
theorem Zeros_ev (n : Int) : num_Zeros.f n = some (S (zs (min n.toNat 60000))) := by
  unfold num_Zeros.f
  have e : mn (mx n 0) 60000 = ((min n.toNat 60000 : Nat) : Int) := by
    unfold mn mx
    repeat' split
    all_goals omega
  rw [e]
  unfold strings_Repeat.f
  rw [_root_.if_pos ⟨by omega, by omega, by show 1 * _ ≤ _; omega⟩, Int.toNat_natCast]
  show some (S (Lib.repeatL [48] _)) = _
  rw [repeat_zs]
end Go.Proofs.YtaifmgdhdnmjiaaDoor.P
