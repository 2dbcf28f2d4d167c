import Derived.Test.YtaifmgdhdnmjiaaDoorM2
namespace Go.Proofs.YtaifmgdhdnmjiaaDoor.FM

/-- a decimal: sign, digits, power of ten -/
structure D where
  neg : Bool
  m : Nat
  e : Int
  deriving DecidableEq

def D0 : D := ⟨false, 0, 0⟩
def held (x : Int) : Int := max (-30000) (min 30000 x)
def nrm (neg : Bool) (n : Nat) (e : Int) : D := if n = 0 then D0 else ⟨neg, (st n).1, held (held e + (st n).2)⟩

def sg (neg : Bool) (n : Nat) : Int := if neg then -(n : Int) else n
theorem sg_zero (b : Bool) : sg b 0 = 0 := by unfold sg; split <;> rfl
theorem sg_natAbs (b : Bool) (n : Nat) : (sg b n).natAbs = n := by unfold sg; split <;> simp
theorem sg_eq_zero {b : Bool} {n : Nat} : sg b n = 0 ↔ n = 0 := by unfold sg; split <;> omega
theorem sg_neg {b : Bool} {n : Nat} (h : 0 < n) : decide (sg b n < 0) = b := by
  unfold sg; cases b <;> simp <;> omega
theorem sg_lt_zero {b : Bool} {n : Nat} : sg b n < 0 ↔ b = true ∧ 0 < n := by
  unfold sg; cases b <;> simp <;> omega
theorem sg_of (z : Int) : sg (decide (z < 0)) z.natAbs = z := by
  unfold sg; split <;> rename_i h <;> simp at h <;> omega
theorem sg_mul (b : Bool) (n k : Nat) : sg b (n * k) = sg b n * k := by
  unfold sg; cases b <;> simp [Int.neg_mul]
theorem sg_not (b : Bool) (n : Nat) : sg (!b) n = - sg b n := by unfold sg; cases b <;> simp

/-- the decimal that so many times ten to the power of -K is -/
def dk (K : Nat) (z : Int) : D := if z = 0 then D0 else ⟨decide (z < 0), (st z.natAbs).1, (st z.natAbs).2 - (K : Int)⟩
theorem dk_zero (K : Nat) : dk K 0 = D0 := by simp [dk]
theorem dk_m (K : Nat) (z : Int) : (dk K z).m = (st z.natAbs).1 := by
  unfold dk; split
  · rename_i h; subst h; simp [D0, st_zero]
  · rfl
theorem dk_neg (K : Nat) (z : Int) : (dk K z).neg = decide (z < 0) := by
  unfold dk; split
  · rename_i h; subst h; simp [D0]
  · rfl
theorem dk_e (K : Nat) {z : Int} (h : z ≠ 0) : (dk K z).e = (st z.natAbs).2 - (K : Int) := by
  unfold dk; rw [if_neg h]
theorem dk_inj {K : Nat} {y z : Int} : dk K y = dk K z ↔ y = z := by
  refine ⟨fun h => ?_, fun h => by rw [h]⟩
  have hm := congrArg D.m h
  have hn := congrArg D.neg h
  rw [dk_m, dk_m] at hm
  rw [dk_neg, dk_neg] at hn
  have ey := st_eq y.natAbs
  have ez := st_eq z.natAbs
  by_cases hy : y = 0
  · subst hy
    by_cases hz : z = 0
    · exact hz.symm
    · have := st_pos (n := z.natAbs) (by omega)
      simp [st_zero] at hm; omega
  · by_cases hz : z = 0
    · subst hz
      have := st_pos (n := y.natAbs) (by omega)
      simp [st_zero] at hm; omega
    · have he := congrArg D.e h
      rw [dk_e K hy, dk_e K hz] at he
      have he' : (st y.natAbs).2 = (st z.natAbs).2 := by omega
      rw [hm, he', ← ez] at ey
      have hs : y < 0 ↔ z < 0 := by simpa using hn
      omega
theorem dk_eq_D0 {K : Nat} {z : Int} : dk K z = D0 ↔ z = 0 := by rw [← dk_zero K, dk_inj]
theorem dk_m_zero {K : Nat} {z : Int} : (dk K z).m = 0 ↔ z = 0 := by
  rw [dk_m]
  constructor
  · intro h
    rcases Nat.eq_zero_or_pos z.natAbs with h0 | h0
    · omega
    · have := st_pos h0; omega
  · rintro rfl; simp [st_zero]
/-- at another scale -/
theorem dk_scale (K j : Nat) (z : Int) : dk (K + j) (z * (10 : Int) ^ j) = dk K z := by
  by_cases h : z = 0
  · subst h; simp [dk_zero]
  have hp : (0 : Int) < 10 ^ j := Int.pow_pos (by omega)
  have hz : z * 10 ^ j ≠ 0 := Int.mul_ne_zero h (by omega)
  have e1 : (z * (10 : Int) ^ j).natAbs = z.natAbs * 10 ^ j := by rw [Int.natAbs_mul, Int.natAbs_pow]; rfl
  have e2 : st (z.natAbs * 10 ^ j) = ((st z.natAbs).1, (st z.natAbs).2 + j) := by
    conv => lhs; rw [st_eq z.natAbs, Nat.mul_assoc, ← Nat.pow_add]
    exact st_uniq (st_mod (by omega))
  unfold dk
  rw [if_neg h, if_neg hz, e1, e2]
  have : (z * 10 ^ j < 0) ↔ z < 0 := by
    constructor
    · intro hh; by_cases h0 : z < 0
      · exact h0
      · have := Int.mul_nonneg (show 0 ≤ z by omega) (show (0:Int) ≤ 10 ^ j by omega); omega
    · intro hh; exact Int.mul_neg_of_neg_of_pos hh hp
  simp [this]; omega

theorem held_of {x : Int} (h1 : -30000 ≤ x) (h2 : x ≤ 30000) : held x = x := by unfold held; omega
theorem st_snd_lt {n k : Nat} (h : 0 < n) (hk : n < 10 ^ k) : (st n).2 < k := by
  have h1 := st_eq n
  have h2 := st_pos h
  have h3 : 10 ^ (st n).2 ≤ n := by
    conv => rhs; rw [h1]
    exact Nat.le_mul_of_pos_left _ h2
  exact (Nat.pow_lt_pow_iff_right (by omega : 1 < 10)).1 (Nat.lt_of_le_of_lt h3 hk)
/-- the normal form is the one of the value -/
theorem nrm_dk {neg : Bool} {n : Nat} {e : Int} {K : Nat} (h0 : 0 ≤ e + K) (h1 : e ≤ 30000) (hK : K ≤ 30000) (hn : n * 10 ^ (e + K).toNat < 10 ^ (30000 + K)) :
    nrm neg n e = dk K (sg neg (n * 10 ^ (e + K).toNat)) := by
  unfold nrm dk
  by_cases h : n = 0
  · subst h; simp [sg_zero]
  · have hpos : 0 < n * 10 ^ (e + K).toNat := Nat.mul_pos (by omega) (Nat.pow_pos (by omega))
    rw [if_neg h, if_neg (by rw [sg_eq_zero]; omega), sg_natAbs, sg_neg hpos]
    have e2 : st (n * 10 ^ (e + K).toNat) = ((st n).1, (st n).2 + (e + K).toNat) := by
      conv => lhs; rw [st_eq n, Nat.mul_assoc, ← Nat.pow_add]
      exact st_uniq (st_mod (by omega))
    have := st_snd_lt hpos hn
    rw [e2] at this ⊢
    simp only at this ⊢
    congr 1
    rw [held_of (x := e) (by omega) (by omega), held_of (by omega) (by omega)]; omega
theorem dk_nrm {K : Nat} {z : Int} (hK : K ≤ 30000) (hz : z.natAbs < 10 ^ (30000 + K)) : dk K z = nrm (decide (z < 0)) z.natAbs (-(K : Int)) := by
  have h := nrm_dk (neg := decide (z < 0)) (n := z.natAbs) (e := -(K : Int)) (K := K) (by omega) (by omega) hK (by simpa using by rw [show (-(K:Int) + K).toNat = 0 by omega]; simpa using hz)
  rw [h, show (-(K:Int) + K).toNat = 0 by omega]
  simp [sg_of]
end Go.Proofs.YtaifmgdhdnmjiaaDoor.FM
