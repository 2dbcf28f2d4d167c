import Derived.Test.YtaifmgdhdnmjiaaDoorS1
namespace Go.Proofs.YtaifmgdhdnmjiaaDoor.P
open Go.RowKit Go.Proofs.YtaifmgdhdnmjiaaDoorW.PrintWords Go.Proofs.YtaifmgdhdnmjiaaDoorW.PrintLast Go.Proofs.YtaifmgdhdnmjiaaDoorW.PrintMore Go.Proofs.YtaifmgdhdnmjiaaDoor.FM
set_option linter.unusedVariables false
set_option linter.unusedSimpArgs false

theorem mx_len (a b : Nat) : mx (a : Int) (b : Int) = ((max a b : Nat) : Int) := by unfold mx; split <;> omega
theorem Dig.lt {l : List UInt8} (h : Dig l) (i : Nat) (hi : l.length ≤ i) : nvl l % 10 ^ i = nvl l :=
  Nat.mod_eq_of_lt (Nat.lt_of_lt_of_le (nvl_lt h) (Nat.pow_le_pow_right (by omega) hi))

theorem add_step_math {na nb i x y c r : Nat} (hx : na / 10 ^ i % 10 = x) (hy : nb / 10 ^ i % 10 = y) (hv : r + 10 ^ i * c = na % 10 ^ i + nb % 10 ^ i) :
    r + 10 ^ i * ((x + y + c) % 10) + 10 ^ (i + 1) * ((x + y + c) / 10) = na % 10 ^ (i + 1) + nb % 10 ^ (i + 1) := by
  rw [Nat.mod_pow_succ, Nat.mod_pow_succ, hx, hy, Nat.pow_succ]
  have e : 10 ^ i * ((x + y + c) % 10) + 10 ^ i * 10 * ((x + y + c) / 10) = 10 ^ i * (x + y + c) := by
    rw [Nat.mul_assoc, ← Nat.mul_add]; congr 1; omega
  have e2 : 10 ^ i * (x + y + c) = 10 ^ i * x + 10 ^ i * y + 10 ^ i * c := by rw [Nat.mul_add, Nat.mul_add]
  omega
theorem times_step_math {na i x m p c r : Nat} (hx : na / 10 ^ i % 10 = x) (hp : x * m = p) (hv : r + 10 ^ i * c = na % 10 ^ i * m) :
    r + 10 ^ i * ((p + c) % 10) + 10 ^ (i + 1) * ((p + c) / 10) = na % 10 ^ (i + 1) * m := by
  rw [Nat.mod_pow_succ, hx, Nat.pow_succ, Nat.add_mul, ← hv, Nat.mul_assoc (10 ^ i) x m, hp]
  have e : 10 ^ i * ((p + c) % 10) + 10 ^ i * 10 * ((p + c) / 10) = 10 ^ i * (p + c) := by
    rw [Nat.mul_assoc, ← Nat.mul_add]; congr 1; omega
  have e2 : 10 ^ i * (p + c) = 10 ^ i * p + 10 ^ i * c := by rw [Nat.mul_add]
  omega
theorem end_step_math {i c r v : Nat} (hv : r + 10 ^ i * c = v) : r + 10 ^ i * (c % 10) + 10 ^ (i + 1) * (c / 10) = v := by
  rw [Nat.pow_succ, ← hv]
  have e : 10 ^ i * (c % 10) + 10 ^ i * 10 * (c / 10) = 10 ^ i * c := by
    rw [Nat.mul_assoc, ← Nat.mul_add]; congr 1; omega
  omega

end Go.Proofs.YtaifmgdhdnmjiaaDoor.P
