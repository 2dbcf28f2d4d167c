import Derived.Test.YtaifmgdhdnmjiaaDoorM6
namespace Go.Proofs.YtaifmgdhdnmjiaaDoor.FM
/-- -1, 0 or 1 -/
def cmpN (a b : Nat) : Int := if a < b then -1 else if b < a then 1 else 0
theorem cmpN_swap (a b : Nat) : cmpN a b = - cmpN b a := by
  unfold cmpN
  repeat' split
  all_goals omega
theorem cmpN_zero {a b : Nat} : cmpN a b = 0 ↔ a = b := by
  unfold cmpN
  repeat' split
  all_goals omega
theorem cmpN_neg {a b : Nat} : cmpN a b < 0 ↔ a < b := by
  unfold cmpN
  repeat' split
  all_goals omega
theorem cmpN_range (a b : Nat) : -1 ≤ cmpN a b ∧ cmpN a b ≤ 1 := by
  unfold cmpN
  repeat' split
  all_goals omega
theorem len_lt {a b : Nat} (h : (mkl a).length < (mkl b).length) : a < b := by
  rcases Nat.lt_or_ge a b with h' | h'
  · exact h'
  · have := mkl_length_mono h'; omega
/-- numbers so many digits long -/
theorem head_lt {c d : UInt8} {a b : List UInt8} (hd : Dig a) (hl : a.length = b.length) (h1 : 48 ≤ c.toNat) (h : c.toNat < d.toNat) : nvl (c :: a) < nvl (d :: b) := by
  rw [nvl_cons, nvl_cons, hl]
  have h2 := nvl_lt hd
  rw [hl] at h2
  have h3 : (c.toNat - 48 + 1) * 10 ^ b.length ≤ (d.toNat - 48) * 10 ^ b.length := Nat.mul_le_mul_right _ (by omega)
  rw [Nat.add_mul, Nat.one_mul] at h3
  omega

/-- what is left: one place more -/
theorem sub_step_math {na nb i x y c r q : Nat} (hx : na / 10 ^ i % 10 = x) (hy : nb / 10 ^ i % 10 = y) (hv : r + nb % 10 ^ i = na % 10 ^ i + 10 ^ i * c) (q1 : Nat) (hq : q + y + c = x + 10 * q1) :
    r + 10 ^ i * q + nb % 10 ^ (i + 1) = na % 10 ^ (i + 1) + 10 ^ (i + 1) * q1 := by
  rw [Nat.mod_pow_succ, Nat.mod_pow_succ, hx, hy, Nat.pow_succ]
  have e : 10 ^ i * (q + y + c) = 10 ^ i * x + 10 ^ i * 10 * q1 := by rw [hq, Nat.mul_add, Nat.mul_assoc]
  have e2 : 10 ^ i * (q + y + c) = 10 ^ i * q + 10 ^ i * y + 10 ^ i * c := by rw [Nat.mul_add, Nat.mul_add]
  omega
theorem rvi_lt {l : List Int} (h : DI l) : rvi l < 10 ^ l.length := by
  have h1 := nvl_lt (bytesR_dig h)
  rw [bytesR_nvl h] at h1
  simpa [bytesR] using h1
theorem sub_end_math {na nb n c r : Nat} (hr : r < 10 ^ n) (ha : na < 10 ^ n) (hb : nb < 10 ^ n) (hle : nb ≤ na) (hc : c ≤ 1) (hv : r + nb % 10 ^ n = na % 10 ^ n + 10 ^ n * c) : r = na - nb := by
  rw [Nat.mod_eq_of_lt ha, Nat.mod_eq_of_lt hb] at hv
  rcases Nat.eq_zero_or_pos c with rfl | h
  · rw [Nat.mul_zero] at hv; omega
  · obtain rfl : c = 1 := by omega
    rw [Nat.mul_one] at hv; omega

/-- how often a number goes into digits, digit by digit -/
theorem div_step_math {m r d v o : Nat} (hm : 0 < m) (hr : r < m) (hd : d ≤ 9) (hv : o * m + r = v) :
    (10 * r + d) / m ≤ 9 ∧ (10 * o + (10 * r + d) / m) * m + (10 * r + d) % m = 10 * v + d := by
  constructor
  · have : (10 * r + d) / m < 10 := (Nat.div_lt_iff_lt_mul hm).2 (by omega)
    omega
  · have e := Nat.div_add_mod (10 * r + d) m
    rw [Nat.add_mul, Nat.mul_assoc, Nat.mul_comm ((10 * r + d) / m) m]
    omega
end Go.Proofs.YtaifmgdhdnmjiaaDoor.FM
