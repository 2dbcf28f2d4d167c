import Derived.Test.YtaifmgdhdnmjiaaDoorS5
import Derived.Laws.BitsLemmas
namespace Go.Proofs.YtaifmgdhdnmjiaaDoor.P
open Go.RowKit Go.Proofs.YtaifmgdhdnmjiaaDoorW.PrintWords Go.Proofs.YtaifmgdhdnmjiaaDoorW.PrintLast Go.Proofs.YtaifmgdhdnmjiaaDoorW.PrintMore Go.Proofs.YtaifmgdhdnmjiaaDoor.FM
set_option linter.unusedVariables false
set_option linter.unusedSimpArgs false

/-- the last bits of an int -/
theorem and64 (j : Nat) (hj : j ≤ 63) (n m : Int) (hm : (BitVec.ofInt 64 m).toNat = 2 ^ j - 1) : Go.bits .and .i64 n m = n % ((2 ^ j : Nat) : Int) := by
  have key : (BitVec.ofInt 64 n &&& BitVec.ofInt 64 m).toNat = (n % ((2 ^ 64 : Nat) : Int)).toNat % 2 ^ j := by
    rw [BitVec.toNat_and, BitVec.toNat_ofInt, hm, Nat.and_two_pow_sub_one_eq_mod]
  show IntKind.i64.wrap ((BitVec.ofInt 64 n &&& BitVec.ofInt 64 m).toNat : Nat) = _
  rw [key, IntKind.wrap_i64]
  have h1 : (n % ((2 ^ 64 : Nat) : Int)).toNat % 2 ^ j < 2 ^ 63 := Nat.lt_of_lt_of_le (Nat.mod_lt _ (Nat.pow_pos (by omega))) (Nat.pow_le_pow_right (by omega) hj)
  have h2 : (((n % ((2 ^ 64 : Nat) : Int)).toNat % 2 ^ j : Nat) : Int) = n % ((2 ^ j : Nat) : Int) := by
    rw [Int.natCast_emod, Int.toNat_of_nonneg (Int.emod_nonneg _ (by decide))]
    exact Int.emod_emod_of_dvd n (Int.natCast_dvd_natCast.2 (Nat.pow_dvd_pow 2 (by omega)))
  rw [← h2]
  have h3 : (2 : Nat) ^ 63 = 9223372036854775808 := by decide
  rw [h3] at h1
  clear h2 key hm
  omega
theorem Ev.yes {b : Bool} (h : b = true) : Ev (fun _ => some b) true := by rw [h]; exact Ev.now true
/-- the last bits, as a number -/
theorem low64 (j : Nat) (hj : j ≤ 63) (n m : Int) (hm : (BitVec.ofInt 64 m).toNat = 2 ^ j - 1) : ∃ x : Nat, Go.bits .and .i64 n m = x ∧ x < 2 ^ j := by
  rw [and64 j hj n m hm]
  have h1 := Int.emod_nonneg n (b := ((2 ^ j : Nat) : Int)) (by have := Nat.pow_pos (a := 2) (n := j) (by omega); omega)
  have h2 := Int.emod_lt_of_pos n (b := ((2 ^ j : Nat) : Int)) (by have := Nat.pow_pos (a := 2) (n := j) (by omega); omega)
  exact ⟨(n % ((2 ^ j : Nat) : Int)).toNat, by omega, by omega⟩
theorem nvl_take_le (l : List UInt8) (i : Nat) : nvl (l.take i) ≤ nvl l := by
  conv => rhs; rw [← List.take_append_drop i l, nvl_append]
  have : nvl (l.take i) * 1 ≤ nvl (l.take i) * 10 ^ (l.drop i).length := Nat.mul_le_mul_left _ (Nat.pow_pos (by omega))
  omega
theorem sm_le {l : List UInt8} {n : Nat} (h : l.length ≤ n) (hn : n ≤ 100000000000) : Sm l := Nat.le_trans h hn
theorem mkl_len_of {n k : Nat} (h : n < 10 ^ k) (hk : k ≤ 100000000000) : Sm (mkl n) := sm_le (mkl_length_le.2 h) hk
end Go.Proofs.YtaifmgdhdnmjiaaDoor.P
