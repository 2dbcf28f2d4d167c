namespace Go.Proofs.YthkpmiajcmihjaaGreatDoor.FM
abbrev B := UInt8

/-- the value of digits -/
def nvl (l : List UInt8) : Nat := l.foldl (fun a c => 10 * a + (c.toNat - 48)) 0
def Dig (l : List UInt8) : Prop := ∀ c ∈ l, 48 ≤ c.toNat ∧ c.toNat ≤ 57
instance (l : List UInt8) : Decidable (Dig l) := inferInstanceAs (Decidable (∀ c ∈ l, 48 ≤ c.toNat ∧ c.toNat ≤ 57))

theorem foldl_shift (l : List UInt8) (a : Nat) : l.foldl (fun a c => 10 * a + (c.toNat - 48)) a = a * 10 ^ l.length + nvl l := by
  induction l generalizing a with
  | nil => simp [nvl]
  | cons c l ih =>
    simp only [nvl, List.foldl_cons, List.length_cons]
    rw [ih, ih (10 * 0 + _)]
    simp only [Nat.mul_zero, Nat.zero_add, Nat.pow_succ]
    rw [Nat.add_mul, Nat.add_assoc]
    congr 1
    rw [Nat.mul_comm 10 a, Nat.mul_assoc, Nat.mul_comm 10]

@[simp] theorem nvl_nil : nvl [] = 0 := rfl
theorem nvl_append (a b : List UInt8) : nvl (a ++ b) = nvl a * 10 ^ b.length + nvl b := by
  unfold nvl; rw [List.foldl_append, foldl_shift]; rfl
theorem nvl_cons (c : UInt8) (l : List UInt8) : nvl (c :: l) = (c.toNat - 48) * 10 ^ l.length + nvl l := by
  have := nvl_append [c] l
  simpa [nvl] using this
theorem nvl_snoc (l : List UInt8) (c : UInt8) : nvl (l ++ [c]) = 10 * nvl l + (c.toNat - 48) := by
  rw [nvl_append]; simp [nvl]; omega

theorem Dig.nil : Dig [] := by intro c h; cases h
theorem Dig.append {a b : List UInt8} (ha : Dig a) (hb : Dig b) : Dig (a ++ b) := by
  intro c h; rcases List.mem_append.1 h with h | h; exact ha c h; exact hb c h
theorem Dig.of_append_left {a b : List UInt8} (h : Dig (a ++ b)) : Dig a := fun c hc => h c (List.mem_append.2 (.inl hc))
theorem Dig.of_append_right {a b : List UInt8} (h : Dig (a ++ b)) : Dig b := fun c hc => h c (List.mem_append.2 (.inr hc))
theorem dig_append {a b : List UInt8} : Dig (a ++ b) ↔ Dig a ∧ Dig b := ⟨fun h => ⟨h.of_append_left, h.of_append_right⟩, fun h => h.1.append h.2⟩
theorem dig_cons {c : UInt8} {b : List UInt8} : Dig (c :: b) ↔ (48 ≤ c.toNat ∧ c.toNat ≤ 57) ∧ Dig b := by
  unfold Dig; simp [List.mem_cons]
theorem Dig.take {a : List UInt8} (h : Dig a) (n : Nat) : Dig (a.take n) := fun c hc => h c (List.mem_of_mem_take hc)
theorem Dig.drop {a : List UInt8} (h : Dig a) (n : Nat) : Dig (a.drop n) := fun c hc => h c (List.mem_of_mem_drop hc)

theorem nvl_lt {l : List UInt8} (h : Dig l) : nvl l < 10 ^ l.length := by
  induction l with
  | nil => simp
  | cons c l ih =>
    rw [dig_cons] at h
    have := ih h.2
    rw [nvl_cons, List.length_cons, Nat.pow_succ]
    have h9 : (c.toNat - 48) * 10 ^ l.length ≤ 9 * 10 ^ l.length := Nat.mul_le_mul_right _ (by omega)
    omega

/-- the digits of a number; none of nought -/
def mkl (n : Nat) : List UInt8 := if _h : n = 0 then [] else mkl (n / 10) ++ [UInt8.ofNat (48 + n % 10)]
  termination_by n
  decreasing_by omega

@[simp] theorem mkl_zero : mkl 0 = [] := by unfold mkl; simp
theorem mkl_pos {n : Nat} (h : 0 < n) : mkl n = mkl (n / 10) ++ [UInt8.ofNat (48 + n % 10)] := by
  rw [mkl]; rw [dif_neg (by omega)]
theorem ofNat_toNat {n : Nat} (h : n < 256) : (UInt8.ofNat n).toNat = n := by simp; omega
theorem dig_mkl (n : Nat) : Dig (mkl n) := by
  induction n using Nat.strongRecOn with
  | ind n ih =>
    rcases Nat.eq_zero_or_pos n with rfl | h
    · simp [Dig.nil]
    · rw [mkl_pos h]
      refine (ih _ (by omega)).append ?_
      rw [dig_cons, ofNat_toNat (by omega)]
      exact ⟨by omega, Dig.nil⟩
@[simp] theorem nvl_mkl (n : Nat) : nvl (mkl n) = n := by
  induction n using Nat.strongRecOn with
  | ind n ih =>
    rcases Nat.eq_zero_or_pos n with rfl | h
    · simp
    · rw [mkl_pos h, nvl_snoc, ih _ (by omega), ofNat_toNat (by omega)]; omega
theorem mkl_inj {a b : Nat} : mkl a = mkl b ↔ a = b := ⟨fun h => by rw [← nvl_mkl a, h, nvl_mkl], fun h => by rw [h]⟩
theorem mkl_eq_nil {a : Nat} : mkl a = [] ↔ a = 0 := by rw [← mkl_zero, mkl_inj]
theorem mkl_length_le {n k : Nat} : (mkl n).length ≤ k ↔ n < 10 ^ k := by
  induction k generalizing n with
  | zero => simp [List.length_eq_zero_iff, mkl_eq_nil]
  | succ k ih =>
    rcases Nat.eq_zero_or_pos n with rfl | h
    · simp [Nat.pow_pos]
    · rw [mkl_pos h, List.length_append, List.length_singleton, Nat.add_le_add_iff_right, ih, Nat.pow_succ]
      omega
theorem lt_pow_length (n : Nat) : n < 10 ^ (mkl n).length := mkl_length_le.1 (Nat.le_refl _)
theorem mkl_length_mono {a b : Nat} (h : a ≤ b) : (mkl a).length ≤ (mkl b).length := by
  rw [mkl_length_le]; exact Nat.lt_of_le_of_lt h (lt_pow_length b)
/-- no nought ahead -/
def Bare (l : List UInt8) : Prop := l.head? ≠ some 48
theorem bare_mkl (n : Nat) : Bare (mkl n) := by
  induction n using Nat.strongRecOn with
  | ind n ih =>
    unfold Bare
    rcases Nat.eq_zero_or_pos n with rfl | h
    · simp
    · rw [mkl_pos h, List.head?_append]
      cases e : (mkl (n / 10)).head? with
      | none =>
        have h0 : n / 10 = 0 := by rw [← mkl_eq_nil]; exact List.head?_eq_none_iff.1 e
        simp
        intro hc
        have := congrArg UInt8.toNat hc
        rw [ofNat_toNat (by omega)] at this
        simp at this
        omega
      | some c =>
        have := ih (n / 10) (by omega)
        unfold Bare at this
        rw [e] at this
        simpa using this
theorem mkl_nvl {l : List UInt8} (h : Dig l) (hb : Bare l) : mkl (nvl l) = l := by
  suffices H : ∀ k (l : List UInt8), l.length = k → Dig l → Bare l → mkl (nvl l) = l from H _ l rfl h hb
  intro k
  induction k with
  | zero => intro l hl _ _; obtain rfl := List.eq_nil_of_length_eq_zero hl; simp
  | succ k ih =>
    intro l hl h hb
    obtain ⟨t, c, rfl⟩ : ∃ t c, l = t ++ [c] := ⟨l.dropLast, l.getLast (by intro e; simp [e] at hl), (List.dropLast_concat_getLast _).symm⟩
    have hl' : t.length = k := by simpa using hl
    have ⟨ht, hc⟩ := dig_append.1 h
    rw [dig_cons] at hc
    have hbt : Bare t := by
      unfold Bare at hb ⊢
      cases t with
      | nil => simp
      | cons d t => simpa using hb
    have e1 := ih t hl' ht hbt
    rw [nvl_snoc]
    have hpos : 0 < 10 * nvl t + (c.toNat - 48) := by
      cases t with
      | nil =>
        have : c ≠ 48 := by simpa [Bare] using hb
        have : c.toNat ≠ 48 := fun e => this (UInt8.toNat_inj.1 (by simpa using e))
        simp; omega
      | cons d t =>
        have : nvl (d :: t) ≠ 0 := by
          intro e; rw [e] at e1; simp at e1
        omega
    rw [mkl_pos hpos]
    have h1 : (10 * nvl t + (c.toNat - 48)) / 10 = nvl t := by omega
    have h2 : (10 * nvl t + (c.toNat - 48)) % 10 = c.toNat - 48 := by omega
    rw [h1, h2, e1]
    congr 2
    apply UInt8.toNat_inj.1
    rw [ofNat_toNat (by omega)]; omega
/-- digits without noughts ahead -/
def bare (l : List UInt8) : List UInt8 := l.dropWhile (· == 48)
theorem nvl_bare (l : List UInt8) : nvl (bare l) = nvl l := by
  induction l with
  | nil => rfl
  | cons c l ih =>
    unfold bare at ih ⊢
    rw [List.dropWhile_cons]
    split
    · rename_i h
      have : c = 48 := by simpa using h
      subst this
      rw [ih, nvl_cons]; simp
    · rfl
theorem dig_bare {l : List UInt8} (h : Dig l) : Dig (bare l) := fun c hc => h c ((List.dropWhile_sublist _).subset hc)
theorem bare_bare (l : List UInt8) : Bare (bare l) := by
  unfold Bare bare
  induction l with
  | nil => simp
  | cons c l ih =>
    rw [List.dropWhile_cons]
    split
    · exact ih
    · rename_i h; simpa using h
theorem bare_eq {l : List UInt8} (h : Dig l) : bare l = mkl (nvl l) := by
  rw [← nvl_bare, mkl_nvl (dig_bare h) (bare_bare l)]
end Go.Proofs.YthkpmiajcmihjaaGreatDoor.FM
namespace Go.Proofs.YthkpmiajcmihjaaGreatDoor.FM

/-- a number without noughts at the end, and how many there were -/
def st (n : Nat) : Nat × Nat := if h : n % 10 = 0 ∧ 0 < n then ((st (n / 10)).1, (st (n / 10)).2 + 1) else (n, 0)
  termination_by n
  decreasing_by all_goals omega

theorem st_zero : st 0 = (0, 0) := by rw [st]; simp
theorem st_of {n : Nat} (h : n % 10 ≠ 0) : st n = (n, 0) := by rw [st]; rw [dif_neg (by omega)]
theorem st_step {n : Nat} (h : 0 < n) : st (10 * n) = ((st n).1, (st n).2 + 1) := by
  rw [st, dif_pos ⟨by omega, by omega⟩]
  have : 10 * n / 10 = n := by omega
  rw [this]
theorem st_eq (n : Nat) : n = (st n).1 * 10 ^ (st n).2 := by
  induction n using Nat.strongRecOn with
  | ind n ih =>
    by_cases h : n % 10 = 0 ∧ 0 < n
    · obtain ⟨m, rfl⟩ : ∃ m, n = 10 * m := ⟨n / 10, by omega⟩
      rw [st_step (by omega)]
      have := ih m (by omega)
      simp only [Nat.pow_succ]
      rw [← Nat.mul_assoc, ← this]; omega
    · rw [st, dif_neg h]; simp
theorem st_mod {n : Nat} (h : 0 < n) : (st n).1 % 10 ≠ 0 := by
  induction n using Nat.strongRecOn with
  | ind n ih =>
    by_cases h' : n % 10 = 0
    · obtain ⟨m, rfl⟩ : ∃ m, n = 10 * m := ⟨n / 10, by omega⟩
      rw [st_step (by omega)]
      exact ih m (by omega) (by omega)
    · rw [st_of h']; exact h'
theorem st_pos {n : Nat} (h : 0 < n) : 0 < (st n).1 := by have := st_mod h; omega
/-- the parts are told by the number -/
theorem st_uniq {m k : Nat} (h : m % 10 ≠ 0) : st (m * 10 ^ k) = (m, k) := by
  induction k with
  | zero => simp [st_of h]
  | succ k ih =>
    have : m * 10 ^ (k + 1) = 10 * (m * 10 ^ k) := by rw [Nat.pow_succ, ← Nat.mul_assoc, Nat.mul_comm]
    rw [this, st_step (Nat.mul_pos (by omega) (Nat.pow_pos (by omega))), ih]
theorem st_le (n : Nat) : (st n).1 ≤ n := by
  conv => rhs; rw [st_eq n]
  exact Nat.le_mul_of_pos_right _ (Nat.pow_pos (by omega))

/-- noughts -/
def zs (k : Nat) : List UInt8 := List.replicate k 48
theorem dig_zs (k : Nat) : Dig (zs k) := by
  intro c hc; have := List.eq_of_mem_replicate hc; subst this; decide
@[simp] theorem zs_length (k : Nat) : (zs k).length = k := by simp [zs]
@[simp] theorem zs_zero : zs 0 = [] := rfl
theorem zs_succ (k : Nat) : zs (k + 1) = 48 :: zs k := rfl
@[simp] theorem nvl_zs (k : Nat) : nvl (zs k) = 0 := by
  induction k with
  | zero => rfl
  | succ k ih => rw [zs_succ, nvl_cons, ih]; simp
theorem zs_add (a b : Nat) : zs (a + b) = zs a ++ zs b := by simp [zs, List.replicate_append_replicate]
theorem nvl_append_zs (l : List UInt8) (k : Nat) : nvl (l ++ zs k) = nvl l * 10 ^ k := by rw [nvl_append]; simp
theorem nvl_zs_append (l : List UInt8) (k : Nat) : nvl (zs k ++ l) = nvl l := by rw [nvl_append]; simp
theorem mkl_mul_pow {n : Nat} (h : 0 < n) (k : Nat) : mkl (n * 10 ^ k) = mkl n ++ zs k := by
  have hb : Bare (mkl n ++ zs k) := by
    have := bare_mkl n
    unfold Bare at this ⊢
    cases e : mkl n with
    | nil => rw [mkl_eq_nil] at e; omega
    | cons c t => rw [e] at this; simpa using this
  have := mkl_nvl ((dig_mkl n).append (dig_zs k)) hb
  rw [nvl_append_zs, nvl_mkl] at this
  exact this

/-- without noughts at the end -/
def tr (l : List UInt8) : List UInt8 := (l.reverse.dropWhile (· == 48)).reverse
theorem tr_nil : tr [] = [] := rfl
theorem tr_snoc_zero (l : List UInt8) : tr (l ++ [48]) = tr l := by unfold tr; simp
theorem tr_snoc {l : List UInt8} {c : UInt8} (h : c ≠ 48) : tr (l ++ [c]) = l ++ [c] := by unfold tr; simp [h]
theorem snoc_induction {P : List UInt8 → Prop} (h0 : P []) (h1 : ∀ l c, P l → P (l ++ [c])) (l : List UInt8) : P l := by
  suffices H : ∀ k (l : List UInt8), l.length = k → P l from H _ l rfl
  intro k
  induction k with
  | zero => intro l hl; obtain rfl := List.eq_nil_of_length_eq_zero hl; exact h0
  | succ k ih =>
    intro l hl
    obtain ⟨t, c, rfl⟩ : ∃ t c, l = t ++ [c] := ⟨l.dropLast, l.getLast (by intro e; simp [e] at hl), (List.dropLast_concat_getLast _).symm⟩
    exact h1 t c (ih t (by simpa using hl))
theorem tr_eq (l : List UInt8) : l = tr l ++ zs (l.length - (tr l).length) ∧ (tr l).length ≤ l.length := by
  induction l using snoc_induction with
  | h0 => simp [tr_nil]
  | h1 l c ih =>
    by_cases h : c = 48
    · subst h
      rw [tr_snoc_zero]
      have e : (l ++ [48]).length - (tr l).length = l.length - (tr l).length + 1 := by have := ih.2; simp; omega
      rw [e, zs_add, ← List.append_assoc, ← ih.1]
      refine ⟨rfl, ?_⟩
      have := ih.2; simp; omega
    · rw [tr_snoc h]; simp
theorem tr_last (l : List UInt8) : (tr l).getLast? ≠ some 48 := by
  induction l using snoc_induction with
  | h0 => simp [tr_nil]
  | h1 l c ih =>
    by_cases h : c = 48
    · subst h; rw [tr_snoc_zero]; exact ih
    · rw [tr_snoc h]; simpa using h
theorem dig_tr {l : List UInt8} (h : Dig l) : Dig (tr l) := by
  rw [(tr_eq l).1] at h; exact h.of_append_left
theorem tr_append_zs (l : List UInt8) (k : Nat) : tr (l ++ zs k) = tr l := by
  induction k with
  | zero => simp
  | succ k ih => rw [zs_add, ← List.append_assoc]; exact (tr_snoc_zero _).trans ih
theorem tr_of_last {l : List UInt8} (h : l.getLast? ≠ some 48) : tr l = l := by
  induction l using snoc_induction with
  | h0 => rfl
  | h1 l c _ => exact tr_snoc (by simpa using h)
theorem mkl_last_ne {n : Nat} (h : n % 10 ≠ 0) : (mkl n).getLast? ≠ some 48 := by
  rw [mkl_pos (by omega)]
  simp
  intro hc
  have := congrArg UInt8.toNat hc
  rw [ofNat_toNat (by omega)] at this
  simp at this; omega
theorem tr_mkl {n : Nat} : tr (mkl n) = mkl (st n).1 := by
  rcases Nat.eq_zero_or_pos n with rfl | h
  · simp [st_zero, tr_nil]
  · conv => lhs; rw [st_eq n]
    rw [mkl_mul_pow (st_pos h), tr_append_zs, tr_of_last (mkl_last_ne (st_mod h))]
theorem mkl_len_st {n : Nat} (h : 0 < n) : (mkl n).length = (mkl (st n).1).length + (st n).2 := by
  conv => lhs; rw [st_eq n]
  rw [mkl_mul_pow (st_pos h)]; simp
end Go.Proofs.YthkpmiajcmihjaaGreatDoor.FM
namespace Go.Proofs.YthkpmiajcmihjaaGreatDoor.FM

/-- a decimal: sign, digits, power of ten -/
structure D where
  neg : Bool
  m : Nat
  e : Int
  deriving DecidableEq

def D0 : D := ⟨false, 0, 0⟩
def held (x : Int) : Int := max (-30000) (min 30000 x)
def nrm (neg : Bool) (n : Nat) (e : Int) : D := if n = 0 then D0 else ⟨neg, (st n).1, held (held e + (st n).2)⟩

def sg (neg : Bool) (n : Nat) : Int := if neg then -(n : Int) else n
theorem sg_zero (b : Bool) : sg b 0 = 0 := by unfold sg; split <;> rfl
theorem sg_natAbs (b : Bool) (n : Nat) : (sg b n).natAbs = n := by unfold sg; split <;> simp
theorem sg_eq_zero {b : Bool} {n : Nat} : sg b n = 0 ↔ n = 0 := by unfold sg; split <;> omega
theorem sg_neg {b : Bool} {n : Nat} (h : 0 < n) : decide (sg b n < 0) = b := by
  unfold sg; cases b <;> simp <;> omega
theorem sg_of (z : Int) : sg (decide (z < 0)) z.natAbs = z := by
  unfold sg; split <;> rename_i h <;> simp at h <;> omega
theorem sg_not (b : Bool) (n : Nat) : sg (!b) n = - sg b n := by unfold sg; cases b <;> simp

/-- the decimal that so many times ten to the power of -K is -/
def dk (K : Nat) (z : Int) : D := if z = 0 then D0 else ⟨decide (z < 0), (st z.natAbs).1, (st z.natAbs).2 - (K : Int)⟩
theorem dk_zero (K : Nat) : dk K 0 = D0 := by simp [dk]
theorem dk_m (K : Nat) (z : Int) : (dk K z).m = (st z.natAbs).1 := by
  unfold dk; split
  · rename_i h; subst h; simp [D0, st_zero]
  · rfl
theorem dk_neg (K : Nat) (z : Int) : (dk K z).neg = decide (z < 0) := by
  unfold dk; split
  · rename_i h; subst h; simp [D0]
  · rfl
theorem dk_e (K : Nat) {z : Int} (h : z ≠ 0) : (dk K z).e = (st z.natAbs).2 - (K : Int) := by
  unfold dk; rw [if_neg h]
theorem dk_inj {K : Nat} {y z : Int} : dk K y = dk K z ↔ y = z := by
  refine ⟨fun h => ?_, fun h => by rw [h]⟩
  have hm := congrArg D.m h
  have hn := congrArg D.neg h
  rw [dk_m, dk_m] at hm
  rw [dk_neg, dk_neg] at hn
  have ey := st_eq y.natAbs
  have ez := st_eq z.natAbs
  by_cases hy : y = 0
  · subst hy
    by_cases hz : z = 0
    · exact hz.symm
    · have := st_pos (n := z.natAbs) (by omega)
      simp [st_zero] at hm; omega
  · by_cases hz : z = 0
    · subst hz
      have := st_pos (n := y.natAbs) (by omega)
      simp [st_zero] at hm; omega
    · have he := congrArg D.e h
      rw [dk_e K hy, dk_e K hz] at he
      have he' : (st y.natAbs).2 = (st z.natAbs).2 := by omega
      rw [hm, he', ← ez] at ey
      have hs : y < 0 ↔ z < 0 := by simpa using hn
      omega
theorem dk_eq_D0 {K : Nat} {z : Int} : dk K z = D0 ↔ z = 0 := by rw [← dk_zero K, dk_inj]
theorem dk_m_zero {K : Nat} {z : Int} : (dk K z).m = 0 ↔ z = 0 := by
  rw [dk_m]
  constructor
  · intro h
    rcases Nat.eq_zero_or_pos z.natAbs with h0 | h0
    · omega
    · have := st_pos h0; omega
  · rintro rfl; simp [st_zero]
/-- at another scale -/
theorem dk_scale (K j : Nat) (z : Int) : dk (K + j) (z * (10 : Int) ^ j) = dk K z := by
  by_cases h : z = 0
  · subst h; simp [dk_zero]
  have hp : (0 : Int) < 10 ^ j := Int.pow_pos (by omega)
  have hz : z * 10 ^ j ≠ 0 := Int.mul_ne_zero h (by omega)
  have e1 : (z * (10 : Int) ^ j).natAbs = z.natAbs * 10 ^ j := by rw [Int.natAbs_mul, Int.natAbs_pow]; rfl
  have e2 : st (z.natAbs * 10 ^ j) = ((st z.natAbs).1, (st z.natAbs).2 + j) := by
    conv => lhs; rw [st_eq z.natAbs, Nat.mul_assoc, ← Nat.pow_add]
    exact st_uniq (st_mod (by omega))
  unfold dk
  rw [if_neg h, if_neg hz, e1, e2]
  have : (z * 10 ^ j < 0) ↔ z < 0 := by
    constructor
    · intro hh; by_cases h0 : z < 0
      · exact h0
      · have := Int.mul_nonneg (show 0 ≤ z by omega) (show (0:Int) ≤ 10 ^ j by omega); omega
    · intro hh; exact Int.mul_neg_of_neg_of_pos hh hp
  simp [this]; omega

theorem held_of {x : Int} (h1 : -30000 ≤ x) (h2 : x ≤ 30000) : held x = x := by unfold held; omega
theorem st_snd_lt {n k : Nat} (h : 0 < n) (hk : n < 10 ^ k) : (st n).2 < k := by
  have h1 := st_eq n
  have h2 := st_pos h
  have h3 : 10 ^ (st n).2 ≤ n := by
    conv => rhs; rw [h1]
    exact Nat.le_mul_of_pos_left _ h2
  exact (Nat.pow_lt_pow_iff_right (by omega : 1 < 10)).1 (Nat.lt_of_le_of_lt h3 hk)
/-- the normal form is the one of the value -/
theorem nrm_dk {neg : Bool} {n : Nat} {e : Int} {K : Nat} (h0 : 0 ≤ e + K) (h1 : e ≤ 30000) (hK : K ≤ 30000) (hn : n * 10 ^ (e + K).toNat < 10 ^ (30000 + K)) :
    nrm neg n e = dk K (sg neg (n * 10 ^ (e + K).toNat)) := by
  unfold nrm dk
  by_cases h : n = 0
  · subst h; simp [sg_zero]
  · have hpos : 0 < n * 10 ^ (e + K).toNat := Nat.mul_pos (by omega) (Nat.pow_pos (by omega))
    rw [if_neg h, if_neg (by rw [sg_eq_zero]; omega), sg_natAbs, sg_neg hpos]
    have e2 : st (n * 10 ^ (e + K).toNat) = ((st n).1, (st n).2 + (e + K).toNat) := by
      conv => lhs; rw [st_eq n, Nat.mul_assoc, ← Nat.pow_add]
      exact st_uniq (st_mod (by omega))
    have := st_snd_lt hpos hn
    rw [e2] at this ⊢
    simp only at this ⊢
    congr 1
    rw [held_of (x := e) (by omega) (by omega), held_of (by omega) (by omega)]; omega
end Go.Proofs.YthkpmiajcmihjaaGreatDoor.FM
namespace Go.Proofs.YthkpmiajcmihjaaGreatDoor.FM

/-- does a number that was cut go on to the next one? modes 0 to 6; the rest: 0 none, 1 less than half, 2 half, 3 more -/
def upf (m : Int) (neg odd : Bool) (r : Int) : Bool :=
  if r = 0 then false
  else if m = 0 then decide (r = 3) || (decide (r = 2) && odd)
  else if m = 1 then decide (2 ≤ r)
  else if m = 2 then decide (r = 3)
  else if m = 3 then true
  else if m = 5 then !neg
  else if m = 6 then neg
  else false
def restOf (r u : Nat) : Int := if r = 0 then 0 else if 2 * r < u then 1 else if 2 * r = u then 2 else 3
def rnat (m : Int) (neg : Bool) (n u : Nat) : Nat := (n / u + (if upf m neg (decide (n / u % 2 = 1)) (restOf (n % u) u) then 1 else 0)) * u
def rnd (m : Int) (x : Int) (u : Nat) : Int := sg (decide (x < 0)) (rnat m (decide (x < 0)) x.natAbs u)

theorem restOf_range (r u : Nat) : 0 ≤ restOf r u ∧ restOf r u ≤ 3 := by
  unfold restOf; repeat' split
  all_goals omega
theorem restOf_mono {r s u : Nat} (h : r ≤ s) : restOf r u ≤ restOf s u := by
  unfold restOf; repeat' split
  all_goals omega
theorem upf_mono {m : Int} {neg odd : Bool} {r s : Int} (h0 : 0 ≤ r) (h : r ≤ s) (hs : s ≤ 3) : upf m neg odd r = true → upf m neg odd s = true := by
  unfold upf
  by_cases hr : r = 0
  · simp [hr]
  · have hs0 : s ≠ 0 := by omega
    simp only [hr, hs0, if_false]
    repeat' split
    all_goals first | (intro a; exact a) | skip
    · intro a
      simp only [Bool.or_eq_true, Bool.and_eq_true, decide_eq_true_eq] at a ⊢
      rcases a with a | ⟨a, b⟩
      · left; omega
      · by_cases h2 : s = 2
        · right; exact ⟨h2, b⟩
        · left; omega
    · simp only [decide_eq_true_eq]; omega
    · simp only [decide_eq_true_eq]; omega
theorem upf_zero (m : Int) (neg odd : Bool) : upf m neg odd 0 = false := by simp [upf]
theorem rnat_dvd (m : Int) (neg : Bool) (n u : Nat) : u ∣ rnat m neg n u := ⟨_, Nat.mul_comm _ _⟩
/-- what is rounded lies at the multiple below, or at the next one -/
theorem rnat_cases (m : Int) (neg : Bool) (n u : Nat) :
    (upf m neg (decide (n / u % 2 = 1)) (restOf (n % u) u) = false ∧ rnat m neg n u = n - n % u) ∨
    (upf m neg (decide (n / u % 2 = 1)) (restOf (n % u) u) = true ∧ n % u ≠ 0 ∧ rnat m neg n u = n - n % u + u) := by
  have h := Nat.div_add_mod n u
  have h' : n / u * u = n - n % u := by rw [Nat.mul_comm]; omega
  unfold rnat
  cases e : upf m neg (decide (n / u % 2 = 1)) (restOf (n % u) u) with
  | false => left; simp [h']
  | true =>
    right
    refine ⟨rfl, ?_, ?_⟩
    · intro h0; rw [h0, show restOf 0 u = 0 by simp [restOf], upf_zero] at e; cases e
    · simp [Nat.add_mul, h']
theorem rnat_of_mod {m : Int} {neg : Bool} {n u : Nat} (h : n % u = 0) : rnat m neg n u = n := by
  rcases rnat_cases m neg n u with ⟨_, e⟩ | ⟨_, h', _⟩
  · omega
  · exact absurd h h'
theorem rnat_zero (m : Int) (neg : Bool) (u : Nat) : rnat m neg 0 u = 0 := rnat_of_mod (by simp)
theorem rnat_mono (m : Int) (neg : Bool) {n k u : Nat} (h : n ≤ k) : rnat m neg n u ≤ rnat m neg k u := by
  have hd : n / u ≤ k / u := Nat.div_le_div_right h
  by_cases he : n / u = k / u
  · have h1 := Nat.div_add_mod n u
    have h2 := Nat.div_add_mod k u
    have hm : n % u ≤ k % u := by rw [he] at h1; omega
    unfold rnat
    rw [he]
    apply Nat.mul_le_mul_right
    have a := restOf_range (n % u) u
    have b := restOf_range (k % u) u
    have c := restOf_mono (u := u) hm
    have := upf_mono (m := m) (neg := neg) (odd := decide (k / u % 2 = 1)) a.1 c b.2
    split <;> split <;> simp_all
  · have : (n / u + 1) * u ≤ k / u * u := Nat.mul_le_mul_right _ (by omega)
    refine Nat.le_trans (m := (n / u + 1) * u) ?_ (Nat.le_trans this ?_)
    · unfold rnat; apply Nat.mul_le_mul_right; split <;> omega
    · unfold rnat; apply Nat.mul_le_mul_right; omega

theorem rnd_nonneg (m : Int) {x : Int} (h : 0 ≤ x) (u : Nat) : rnd m x u = rnat m false x.natAbs u := by
  unfold rnd sg; simp [show ¬ x < 0 by omega]
theorem rnd_neg (m : Int) {x : Int} (h : x < 0) (u : Nat) : rnd m x u = - (rnat m true x.natAbs u : Int) := by
  unfold rnd sg; simp [h]
theorem rnd_zero (m : Int) (u : Nat) : rnd m 0 u = 0 := by rw [rnd_nonneg m (by omega)]; simp [rnat_zero]
theorem rnd_dvd (m : Int) (x : Int) (u : Nat) : (u : Int) ∣ rnd m x u := by
  unfold rnd sg
  split
  · exact Int.dvd_neg.2 (Int.natCast_dvd_natCast.2 (rnat_dvd ..))
  · exact Int.natCast_dvd_natCast.2 (rnat_dvd ..)
theorem rnd_natAbs (m : Int) (x : Int) (u : Nat) : (rnd m x u).natAbs = rnat m (decide (x < 0)) x.natAbs u := sg_natAbs ..
theorem rnd_of_dvd {m x : Int} {u : Nat} (h : (u : Int) ∣ x) : rnd m x u = x := by
  have : x.natAbs % u = 0 := Nat.mod_eq_zero_of_dvd (Int.ofNat_dvd_left.1 h)
  unfold rnd
  rw [rnat_of_mod this, sg_of]
theorem rnd_sign (m x : Int) (u : Nat) : (0 ≤ x → 0 ≤ rnd m x u) ∧ (x ≤ 0 → rnd m x u ≤ 0) := by
  constructor
  · intro h; rw [rnd_nonneg m h]; omega
  · intro h
    by_cases h' : x < 0
    · rw [rnd_neg m h']; omega
    · have : x = 0 := by omega
      subst this; rw [rnd_zero]; omega
end Go.Proofs.YthkpmiajcmihjaaGreatDoor.FM
namespace Go.Proofs.YthkpmiajcmihjaaGreatDoor.FM

theorem rnat_spec (m : Int) (neg : Bool) (n u : Nat) :
    (n % u = 0 ∧ rnat m neg n u = n) ∨
    (n % u ≠ 0 ∧ upf m neg (decide (n / u % 2 = 1)) (restOf (n % u) u) = false ∧ rnat m neg n u = n - n % u) ∨
    (n % u ≠ 0 ∧ upf m neg (decide (n / u % 2 = 1)) (restOf (n % u) u) = true ∧ rnat m neg n u = n - n % u + u) := by
  by_cases h : n % u = 0
  · exact .inl ⟨h, rnat_of_mod h⟩
  · rcases rnat_cases m neg n u with ⟨a, b⟩ | ⟨a, _, b⟩
    · exact .inr (.inl ⟨h, a, b⟩)
    · exact .inr (.inr ⟨h, a, b⟩)

/-- is r what x is rounded to, of the multiples of u, by a mode? -/
def RD (x r : Int) (u : Nat) (m : Int) : Prop :=
  (u : Int) ∣ r ∧ (x = r ∨ (¬ (u : Int) ∣ x ∧ (x - r).natAbs < u ∧
    (m = 3 → x.natAbs < r.natAbs) ∧
    (m = 4 → ¬ x.natAbs < r.natAbs) ∧
    (m = 5 → x - r < 0) ∧
    (m = 6 → ¬ x - r < 0) ∧
    (m = 1 → 2 * (x - r).natAbs < u ∨ (2 * (x - r).natAbs = u ∧ x.natAbs < r.natAbs)) ∧
    (m = 2 → 2 * (x - r).natAbs < u ∨ (2 * (x - r).natAbs = u ∧ ¬ x.natAbs < r.natAbs)) ∧
    (m = 0 → 2 * (x - r).natAbs < u ∨ (2 * (x - r).natAbs = u ∧ ((2 * u : Nat) : Int) ∣ r))))

theorem rest_one {r u : Nat} (h : r ≠ 0) : (restOf r u = 1 ↔ 2 * r < u) ∧ (restOf r u = 2 ↔ 2 * r = u) ∧ (restOf r u = 3 ↔ u < 2 * r) ∧ restOf r u ≠ 0 := by
  unfold restOf; rw [if_neg h]; repeat' split
  all_goals omega

theorem rnd_RD {m : Int} (hm0 : 0 ≤ m) (hm : m ≤ 6) (x : Int) {u : Nat} (hu : 0 < u) : RD x (rnd m x u) u m := by
  refine ⟨rnd_dvd .., ?_⟩
  have hlt := Nat.mod_lt x.natAbs hu
  have hle := Nat.mod_le x.natAbs u
  have hda := Nat.div_add_mod x.natAbs u
  rcases rnat_spec m (decide (x < 0)) x.natAbs u with ⟨h, _⟩ | ⟨h, hf, e⟩ | ⟨h, hf, e⟩
  · left
    rw [rnd_of_dvd]
    exact Int.ofNat_dvd_left.2 (Nat.dvd_of_mod_eq_zero h)
  · right
    have hr := rest_one (u := u) h
    have hnd : ¬ (u : Int) ∣ x := fun hd => h (Nat.mod_eq_zero_of_dvd (Int.ofNat_dvd_left.1 hd))
    have hR : (rnd m x u).natAbs = x.natAbs - x.natAbs % u := by rw [rnd_natAbs, e]
    have hs := rnd_sign m x u
    have hd : (x - rnd m x u).natAbs = x.natAbs % u := by omega
    refine ⟨hnd, by omega, fun hm => ?_, fun hm => by omega, fun hm => ?_, fun hm => ?_, fun hm => ?_, fun hm => ?_, fun hm => ?_⟩
    · subst hm; simp [upf, hr.2.2.2] at hf
    · subst hm; simp [upf, hr.2.2.2] at hf; omega
    · subst hm; simp [upf, hr.2.2.2] at hf; omega
    · subst hm; simp [upf, hr.2.2.2] at hf; rw [hd]; have := restOf_range (x.natAbs % u) u; omega
    · subst hm; simp [upf, hr.2.2.2] at hf; rw [hd]; have := restOf_range (x.natAbs % u) u; omega
    · subst hm
      rw [hd]
      by_cases h3 : 2 * (x.natAbs % u) < u
      · exact .inl h3
      · right
        have h4 : 2 * (x.natAbs % u) = u := by
          simp [upf, hr.2.2.2] at hf; omega
        refine ⟨h4, Int.ofNat_dvd_left.2 ?_⟩
        rw [hR]
        have hodd : x.natAbs / u % 2 = 0 := by
          simp [upf, hr.2.2.2] at hf
          have := hf.2 (hr.2.1.2 h4); omega
        refine ⟨x.natAbs / u / 2, ?_⟩
        have e2 : x.natAbs / u = 2 * (x.natAbs / u / 2) := by omega
        have : x.natAbs - x.natAbs % u = u * (x.natAbs / u) := by omega
        rw [this]; conv => lhs; rw [e2]
        rw [← Nat.mul_assoc, Nat.mul_comm u 2]
  · right
    have hr := rest_one (u := u) h
    have hnd : ¬ (u : Int) ∣ x := fun hd => h (Nat.mod_eq_zero_of_dvd (Int.ofNat_dvd_left.1 hd))
    have hR : (rnd m x u).natAbs = x.natAbs - x.natAbs % u + u := by rw [rnd_natAbs, e]
    have hs := rnd_sign m x u
    have hd : (x - rnd m x u).natAbs = u - x.natAbs % u := by omega
    refine ⟨hnd, by omega, fun hm => by omega, fun hm => ?_, fun hm => ?_, fun hm => ?_, fun hm => ?_, fun hm => ?_, fun hm => ?_⟩
    · subst hm; simp [upf, hr.2.2.2] at hf
    · subst hm; simp [upf, hr.2.2.2] at hf; omega
    · subst hm; simp [upf, hr.2.2.2] at hf; omega
    · subst hm; simp [upf, hr.2.2.2] at hf; rw [hd]; have := restOf_range (x.natAbs % u) u; omega
    · subst hm; simp [upf, hr.2.2.2] at hf; rw [hd]; have := restOf_range (x.natAbs % u) u; omega
    · subst hm
      rw [hd]
      by_cases h3 : u < 2 * (x.natAbs % u)
      · left; omega
      · right
        simp [upf, hr.2.2.2] at hf
        rcases hf with hf | ⟨h4, hodd⟩
        · omega
        have h4 := hr.2.1.1 h4
        refine ⟨by omega, Int.ofNat_dvd_left.2 ?_⟩
        rw [hR]
        refine ⟨(x.natAbs / u + 1) / 2, ?_⟩
        have e2 : x.natAbs / u + 1 = 2 * ((x.natAbs / u + 1) / 2) := by omega
        have : x.natAbs - x.natAbs % u + u = u * (x.natAbs / u + 1) := by rw [Nat.mul_add]; omega
        rw [this]; conv => lhs; rw [e2]
        rw [← Nat.mul_assoc, Nat.mul_comm u 2]

end Go.Proofs.YthkpmiajcmihjaaGreatDoor.FM
namespace Go.Proofs.YthkpmiajcmihjaaGreatDoor.FM
/-! digits from the end on -/
theorem get_digit {l : List UInt8} (h : Dig l) {i : Nat} (hi : i < l.length) : (l.getD (l.length - 1 - i) 0).toNat - 48 = nvl l / 10 ^ i % 10 := by
  have hj : l.length - 1 - i < l.length := by omega
  have e : l = l.take (l.length - 1 - i) ++ l[l.length - 1 - i] :: l.drop (l.length - 1 - i + 1) := by
    rw [List.getElem_cons_drop, List.take_append_drop]
  rw [List.getD_eq_getElem?_getD, List.getElem?_eq_getElem hj, Option.getD_some]
  have hc := h l[l.length - 1 - i] (List.getElem_mem hj)
  obtain ⟨c, hcc⟩ : ∃ c, l[l.length - 1 - i] = c := ⟨_, rfl⟩
  rw [hcc] at e hc ⊢
  have hd : Dig (l.drop (l.length - 1 - i + 1)) := h.drop _
  have hlen : (l.drop (l.length - 1 - i + 1)).length = i := by rw [List.length_drop]; omega
  have hlt := nvl_lt hd
  rw [hlen] at hlt
  have hp : 0 < 10 ^ i := Nat.pow_pos (by omega)
  have hv : nvl l = 10 ^ i * (10 * nvl (l.take (l.length - 1 - i)) + (c.toNat - 48)) + nvl (l.drop (l.length - 1 - i + 1)) := by
    conv => lhs; rw [e]
    rw [nvl_append, nvl_cons, List.length_cons, hlen, Nat.pow_succ, Nat.mul_add, Nat.add_assoc]
    rw [show nvl (l.take (l.length - 1 - i)) * (10 ^ i * 10) = 10 ^ i * (10 * nvl (l.take (l.length - 1 - i))) by
      rw [Nat.mul_comm, Nat.mul_assoc]]
    rw [Nat.mul_comm (c.toNat - 48)]
  rw [hv, Nat.mul_add_div hp, Nat.div_eq_of_lt hlt]
  omega
theorem digit_beyond {l : List UInt8} (h : Dig l) {i : Nat} (hi : l.length ≤ i) : nvl l / 10 ^ i = 0 := by
  apply Nat.div_eq_of_lt
  exact Nat.lt_of_lt_of_le (nvl_lt h) (Nat.pow_le_pow_right (by omega) hi)

/-- what bytes tell that were found from the end on -/
def rvi (l : List Int) : Nat := l.foldr (fun c a => (c - 48).toNat + 10 * a) 0
def DI (l : List Int) : Prop := ∀ c ∈ l, 48 ≤ c ∧ c ≤ 57
theorem rvi_append (a b : List Int) : rvi (a ++ b) = rvi a + 10 ^ a.length * rvi b := by
  induction a with
  | nil => simp [rvi]
  | cons c a ih =>
    have e : rvi (c :: a ++ b) = (c - 48).toNat + 10 * rvi (a ++ b) := rfl
    have e2 : rvi (c :: a) = (c - 48).toNat + 10 * rvi a := rfl
    rw [e, e2, ih, List.length_cons, Nat.pow_succ, Nat.mul_add, Nat.mul_comm (10 ^ a.length) 10, Nat.mul_assoc]; omega
theorem rvi_snoc (a : List Int) (c : Int) : rvi (a ++ [c]) = rvi a + 10 ^ a.length * (c - 48).toNat := by
  rw [rvi_append]; simp [rvi]
theorem DI.snoc {a : List Int} {c : Int} (h : DI a) (h1 : 48 ≤ c) (h2 : c ≤ 57) : DI (a ++ [c]) := by
  intro x hx
  rcases List.mem_append.1 hx with hx | hx
  · exact h x hx
  · rw [List.mem_singleton] at hx; subst hx; exact ⟨h1, h2⟩
theorem DI.nil : DI [] := by intro c h; cases h
/-- their text -/
def bytesR (l : List Int) : List UInt8 := l.reverse.map fun n => UInt8.ofNat n.toNat
theorem bytesR_dig {l : List Int} (h : DI l) : Dig (bytesR l) := by
  intro c hc
  obtain ⟨n, hn, rfl⟩ := List.mem_map.1 hc
  have := h n (List.mem_reverse.1 hn)
  rw [ofNat_toNat (by omega)]; omega
theorem bytesR_nvl {l : List Int} (h : DI l) : nvl (bytesR l) = rvi l := by
  induction l with
  | nil => rfl
  | cons c l ih =>
    have e : bytesR (c :: l) = bytesR l ++ [UInt8.ofNat c.toNat] := by simp [bytesR]
    have hc := h c List.mem_cons_self
    rw [e, nvl_snoc, ih (fun x hx => h x (List.mem_cons_of_mem _ hx)), ofNat_toNat (by omega)]
    show _ = (c - 48).toNat + 10 * rvi l
    omega
/-- a row of a length of which the last ones are laid -/
theorem set_row (l : List Int) (i : Nat) (hi : i < l.length) :
    (List.replicate (l.length - i) 0 ++ (l.take i).reverse).set (l.length - 1 - i) (l.getD i 0) = List.replicate (l.length - (i + 1)) 0 ++ (l.take (i + 1)).reverse := by
  have e1 : l.length - i = (l.length - 1 - i) + 1 := by omega
  rw [e1, List.replicate_succ', List.append_assoc, List.set_append_right _ _ (by simp), List.length_replicate, Nat.sub_self]
  rw [List.take_succ_eq_append_getElem hi, List.reverse_append, List.getD_eq_getElem?_getD, List.getElem?_eq_getElem hi]
  simp
  omega
end Go.Proofs.YthkpmiajcmihjaaGreatDoor.FM
namespace Go.Proofs.YthkpmiajcmihjaaGreatDoor.FM
/-- -1, 0 or 1 -/
def cmpN (a b : Nat) : Int := if a < b then -1 else if b < a then 1 else 0
theorem cmpN_neg {a b : Nat} : cmpN a b < 0 ↔ a < b := by
  unfold cmpN
  repeat' split
  all_goals omega
theorem len_lt {a b : Nat} (h : (mkl a).length < (mkl b).length) : a < b := by
  rcases Nat.lt_or_ge a b with h' | h'
  · exact h'
  · have := mkl_length_mono h'; omega
/-- numbers so many digits long -/
theorem head_lt {c d : UInt8} {a b : List UInt8} (hd : Dig a) (hl : a.length = b.length) (h1 : 48 ≤ c.toNat) (h : c.toNat < d.toNat) : nvl (c :: a) < nvl (d :: b) := by
  rw [nvl_cons, nvl_cons, hl]
  have h2 := nvl_lt hd
  rw [hl] at h2
  have h3 : (c.toNat - 48 + 1) * 10 ^ b.length ≤ (d.toNat - 48) * 10 ^ b.length := Nat.mul_le_mul_right _ (by omega)
  rw [Nat.add_mul, Nat.one_mul] at h3
  omega

/-- what is left: one place more -/
theorem sub_step_math {na nb i x y c r q : Nat} (hx : na / 10 ^ i % 10 = x) (hy : nb / 10 ^ i % 10 = y) (hv : r + nb % 10 ^ i = na % 10 ^ i + 10 ^ i * c) (q1 : Nat) (hq : q + y + c = x + 10 * q1) :
    r + 10 ^ i * q + nb % 10 ^ (i + 1) = na % 10 ^ (i + 1) + 10 ^ (i + 1) * q1 := by
  rw [Nat.mod_pow_succ, Nat.mod_pow_succ, hx, hy, Nat.pow_succ]
  have e : 10 ^ i * (q + y + c) = 10 ^ i * x + 10 ^ i * 10 * q1 := by rw [hq, Nat.mul_add, Nat.mul_assoc]
  have e2 : 10 ^ i * (q + y + c) = 10 ^ i * q + 10 ^ i * y + 10 ^ i * c := by rw [Nat.mul_add, Nat.mul_add]
  omega
theorem rvi_lt {l : List Int} (h : DI l) : rvi l < 10 ^ l.length := by
  have h1 := nvl_lt (bytesR_dig h)
  rw [bytesR_nvl h] at h1
  simpa [bytesR] using h1
theorem sub_end_math {na nb n c r : Nat} (hr : r < 10 ^ n) (ha : na < 10 ^ n) (hb : nb < 10 ^ n) (hle : nb ≤ na) (hc : c ≤ 1) (hv : r + nb % 10 ^ n = na % 10 ^ n + 10 ^ n * c) : r = na - nb := by
  rw [Nat.mod_eq_of_lt ha, Nat.mod_eq_of_lt hb] at hv
  rcases Nat.eq_zero_or_pos c with rfl | h
  · rw [Nat.mul_zero] at hv; omega
  · obtain rfl : c = 1 := by omega
    rw [Nat.mul_one] at hv; omega

/-- how often a number goes into digits, digit by digit -/
theorem div_step_math {m r d v o : Nat} (hm : 0 < m) (hr : r < m) (hd : d ≤ 9) (hv : o * m + r = v) :
    (10 * r + d) / m ≤ 9 ∧ (10 * o + (10 * r + d) / m) * m + (10 * r + d) % m = 10 * v + d := by
  constructor
  · have : (10 * r + d) / m < 10 := (Nat.div_lt_iff_lt_mul hm).2 (by omega)
    omega
  · have e := Nat.div_add_mod (10 * r + d) m
    rw [Nat.add_mul, Nat.mul_assoc, Nat.mul_comm ((10 * r + d) / m) m]
    omega
end Go.Proofs.YthkpmiajcmihjaaGreatDoor.FM
namespace Go.Proofs.YthkpmiajcmihjaaGreatDoor.FM

theorem st_mul_pow {n : Nat} (h : 0 < n) (j : Nat) : st (n * 10 ^ j) = ((st n).1, (st n).2 + j) := by
  conv => lhs; rw [st_eq n, Nat.mul_assoc, ← Nat.pow_add]
  exact st_uniq (st_mod h)
theorem held_range (e : Int) : -30000 ≤ held e ∧ held e ≤ 30000 := by unfold held; omega
theorem held_held (e : Int) : held (held e) = held e := by unfold held; omega
theorem nrm_zero (b : Bool) (e : Int) : nrm b 0 e = D0 := by simp [nrm]
theorem nrm_pos {b : Bool} {n : Nat} (h : 0 < n) (e : Int) : nrm b n e = ⟨b, (st n).1, held (held e + (st n).2)⟩ := by
  unfold nrm; rw [if_neg (by omega)]
theorem nrm_m (b : Bool) (n : Nat) (e : Int) : (nrm b n e).m = (st n).1 := by
  rcases Nat.eq_zero_or_pos n with rfl | h
  · rw [nrm_zero]; simp [D0, st_zero]
  · rw [nrm_pos h]
theorem nrm_neg (b : Bool) (n : Nat) (e : Int) : (nrm b n e).neg = (b && decide (n ≠ 0)) := by
  rcases Nat.eq_zero_or_pos n with rfl | h
  · rw [nrm_zero]; simp [D0]
  · rw [nrm_pos h]
    have : n ≠ 0 := by omega
    simp [this]
theorem nrm_e_range (b : Bool) (n : Nat) (e : Int) : -30000 ≤ (nrm b n e).e ∧ (nrm b n e).e ≤ 30000 := by
  rcases Nat.eq_zero_or_pos n with rfl | h
  · rw [nrm_zero]; simp [D0]
  · rw [nrm_pos h]; exact held_range _
theorem nrm_shift {b : Bool} {n : Nat} {e : Int} {j : Nat} (h1 : -30000 ≤ e) (h2 : e + j ≤ 30000) : nrm b (n * 10 ^ j) e = nrm b n (e + j) := by
  rcases Nat.eq_zero_or_pos n with rfl | h
  · rw [Nat.zero_mul, nrm_zero, nrm_zero]
  · rw [nrm_pos h, nrm_pos (Nat.mul_pos h (Nat.pow_pos (by decide))), st_mul_pow h]
    simp only [D.mk.injEq, true_and]
    rw [held_of h1 (by omega), held_of (x := e + j) (by omega) h2]
    congr 1
    rw [Int.natCast_add]
    omega
theorem st_st {n : Nat} (h : 0 < n) : st (st n).1 = ((st n).1, 0) := by
  have := st_uniq (m := (st n).1) (k := 0) (st_mod h)
  simpa using this
theorem nrm_again (b a : Bool) (n : Nat) (e : Int) : nrm b (nrm a n e).m (nrm a n e).e = nrm b n e := by
  rcases Nat.eq_zero_or_pos n with rfl | h
  · rw [nrm_zero, show D0.m = 0 from rfl, nrm_zero, nrm_zero]
  · rw [nrm_pos h, nrm_pos h]
    show nrm b (st n).1 (held (held e + (st n).2)) = _
    rw [nrm_pos (st_pos h), st_st h, held_held]
    simp only [D.mk.injEq, true_and, Int.natCast_zero, Int.add_zero]
    exact held_held _
theorem nrm_idem (n : Nat) (a : Bool) (e : Int) : nrm (nrm a n e).neg (nrm a n e).m (nrm a n e).e = nrm a n e := by
  rw [nrm_again]
  rcases Nat.eq_zero_or_pos n with rfl | h
  · rw [nrm_zero, nrm_zero]
  · rw [nrm_neg]
    have : n ≠ 0 := by omega
    simp [this]
end Go.Proofs.YthkpmiajcmihjaaGreatDoor.FM
namespace Go.Proofs.YthkpmiajcmihjaaGreatDoor.FM
/-! the digits ahead of the point and behind it -/

theorem nvl_take_drop {l : List UInt8} (h : Dig l) {q : Nat} (hq : q ≤ l.length) : nvl (l.take (l.length - q)) = nvl l / 10 ^ q ∧ nvl (l.drop (l.length - q)) = nvl l % 10 ^ q := by
  have e1 : nvl l = nvl (l.take (l.length - q)) * 10 ^ q + nvl (l.drop (l.length - q)) := by
    conv => lhs; rw [← List.take_append_drop (l.length - q) l, nvl_append, List.length_drop, show l.length - (l.length - q) = q by omega]
  have e2 : nvl (l.drop (l.length - q)) < 10 ^ q := by
    have := nvl_lt (h.drop (l.length - q))
    rwa [List.length_drop, show l.length - (l.length - q) = q by omega] at this
  have hp : 0 < 10 ^ q := Nat.pow_pos (by decide)
  constructor
  · rw [e1, Nat.mul_comm, Nat.mul_add_div hp, Nat.div_eq_of_lt e2, Nat.add_zero]
  · rw [e1, Nat.mul_comm, Nat.mul_add_mod, Nat.mod_eq_of_lt e2]
/-- digits with noughts ahead, so that there are at least q -/
def padL (q m : Nat) : List UInt8 := zs (q - (mkl m).length) ++ mkl m
theorem padL_length (q m : Nat) : (padL q m).length = max q (mkl m).length := by
  unfold padL; rw [List.length_append, zs_length]; omega
theorem dig_padL (q m : Nat) : Dig (padL q m) := (dig_zs _).append (dig_mkl _)
theorem nvl_padL (q m : Nat) : nvl (padL q m) = m := by unfold padL; rw [nvl_zs_append, nvl_mkl]
/-- ahead of the point, as a number -/
def wholeN (m : Nat) (e : Int) : Nat := if 0 ≤ e then m * 10 ^ e.toNat else m / 10 ^ (-e).toNat
/-- behind it -/
def partL (m : Nat) (e : Int) : List UInt8 := if 0 ≤ e then [] else (padL (-e).toNat m).drop ((padL (-e).toNat m).length - (-e).toNat)
theorem partL_length (m : Nat) (e : Int) : (partL m e).length = (-e).toNat := by
  unfold partL
  split
  · simp; omega
  · rw [List.length_drop, padL_length]; omega
theorem dig_partL (m : Nat) (e : Int) : Dig (partL m e) := by
  unfold partL
  split
  · exact Dig.nil
  · exact (dig_padL _ _).drop _
theorem nvl_partL (m : Nat) (e : Int) : nvl (partL m e) = m % 10 ^ (-e).toNat := by
  unfold partL
  split
  · rename_i h
    rw [show (-e).toNat = 0 by omega, nvl_nil, Nat.pow_zero, Nat.mod_one]
  · have := (nvl_take_drop (dig_padL (-e).toNat m) (q := (-e).toNat) (by rw [padL_length]; omega)).2
    rw [this, nvl_padL]
/-- whole and part make the number again -/
theorem whole_part (m : Nat) (e : Int) : nvl (mkl (wholeN m e) ++ partL m e) = m * 10 ^ e.toNat := by
  rw [nvl_append, nvl_mkl, partL_length, nvl_partL]
  unfold wholeN
  split
  · rename_i h
    rw [show (-e).toNat = 0 by omega, Nat.pow_zero, Nat.mod_one, Nat.mul_one, Nat.add_zero]
  · rename_i h
    rw [show e.toNat = 0 by omega, Nat.pow_zero, Nat.mul_one]
    have := Nat.div_add_mod m (10 ^ (-e).toNat)
    rw [Nat.mul_comm] at this
    exact this
theorem mkl_len_mul {m : Nat} (h : 0 < m) (k : Nat) : (mkl (m * 10 ^ k)).length = (mkl m).length + k := by
  rw [mkl_mul_pow h, List.length_append, zs_length]
end Go.Proofs.YthkpmiajcmihjaaGreatDoor.FM
namespace Go.Proofs.YthkpmiajcmihjaaGreatDoor.FM
/-! sums -/

theorem dk_val (K : Nat) (u : Int) : (dk K u).m * 10 ^ ((dk K u).e + K).toNat = u.natAbs := by
  by_cases h : u = 0
  · subst h; rw [dk_zero]; simp [D0]
  · rw [dk_m, dk_e K h, show ((st u.natAbs).2 - (K : Int) + K).toNat = (st u.natAbs).2 by omega]
    exact (st_eq _).symm
theorem dk_e_ge (K : Nat) (u : Int) : -(K : Int) ≤ (dk K u).e := by
  by_cases h : u = 0
  · subst h; rw [dk_zero]; simp [D0]
  · rw [dk_e K h]; omega
theorem dk_e_lt {K M : Nat} {u : Int} (h : u.natAbs < 10 ^ M) (hM : K ≤ M) : (dk K u).e ≤ M - K := by
  by_cases h0 : u = 0
  · subst h0; rw [dk_zero]; simp [D0]; omega
  · rw [dk_e K h0]
    have := st_snd_lt (n := u.natAbs) (by omega) h
    omega
/-- the sum of two, as the program makes it -/
def addD (a b : D) : D :=
  if a.neg = b.neg then nrm a.neg (a.m * 10 ^ (a.e - min a.e b.e).toNat + b.m * 10 ^ (b.e - min a.e b.e).toNat) (min a.e b.e)
  else if b.m * 10 ^ (b.e - min a.e b.e).toNat ≤ a.m * 10 ^ (a.e - min a.e b.e).toNat then nrm a.neg (a.m * 10 ^ (a.e - min a.e b.e).toNat - b.m * 10 ^ (b.e - min a.e b.e).toNat) (min a.e b.e)
  else nrm b.neg (b.m * 10 ^ (b.e - min a.e b.e).toNat - a.m * 10 ^ (a.e - min a.e b.e).toNat) (min a.e b.e)
theorem addD_dk {K M : Nat} {u v : Int} (hK : K ≤ M) (hM : M ≤ 29000) (hu : u.natAbs < 10 ^ M) (hv : v.natAbs < 10 ^ M) : addD (dk K u) (dk K v) = dk K (u + v) := by
  have a1 := dk_val K u
  have a2 := dk_val K v
  have e1 := dk_e_ge K u
  have e2 := dk_e_ge K v
  have e3 := dk_e_lt hu hK
  have e4 := dk_e_lt hv hK
  have n1 := dk_neg K u
  have n2 := dk_neg K v
  unfold addD
  obtain ⟨a, ha⟩ : ∃ a, dk K u = a := ⟨_, rfl⟩
  obtain ⟨b, hb⟩ : ∃ b, dk K v = b := ⟨_, rfl⟩
  rw [ha] at a1 e1 e3 n1 ⊢
  rw [hb] at a2 e2 e4 n2 ⊢
  obtain ⟨e, he⟩ : ∃ e, min a.e b.e = e := ⟨_, rfl⟩
  rw [he]
  obtain ⟨x, hx⟩ : ∃ x, a.m * 10 ^ (a.e - e).toNat = x := ⟨_, rfl⟩
  obtain ⟨y, hy⟩ : ∃ y, b.m * 10 ^ (b.e - e).toNat = y := ⟨_, rfl⟩
  rw [hx, hy]
  have x1 : x * 10 ^ (e + K).toNat = u.natAbs := by
    rw [← a1, ← hx, Nat.mul_assoc, ← Nat.pow_add]; congr 2; omega
  have y1 : y * 10 ^ (e + K).toNat = v.natAbs := by
    rw [← a2, ← hy, Nat.mul_assoc, ← Nat.pow_add]; congr 2; omega
  have hp : 0 < 10 ^ (e + K).toNat := Nat.pow_pos (by decide)
  have big : 2 * 10 ^ M ≤ 10 ^ (30000 + K) := by
    have h1 : 10 ^ (M + 1) ≤ 10 ^ (30000 + K) := Nat.pow_le_pow_right (by decide) (by omega)
    rw [Nat.pow_succ] at h1
    omega
  have hle : y ≤ x ↔ v.natAbs ≤ u.natAbs := by
    rw [← x1, ← y1]; exact (Nat.mul_le_mul_right_iff hp).symm
  obtain ⟨B, hB⟩ : ∃ B, 10 ^ M = B := ⟨_, rfl⟩
  rw [hB] at hu hv big
  have fin : ∀ (neg : Bool) (n : Nat) (z : Int), n * 10 ^ (e + K).toNat = z.natAbs → z.natAbs < 2 * B → sg neg z.natAbs = z → nrm neg n e = dk K z := by
    intro neg n z h1 h2 h3
    rw [nrm_dk (K := K) (by omega) (by omega) (by omega) (by rw [h1]; omega), h1, h3]
  clear a1 a2 hx hy hB
  rw [n1, n2]
  have hsg : ∀ (neg : Bool) (z : Int), (z ≠ 0 → neg = decide (z < 0)) → sg neg z.natAbs = z := by
    intro neg z h
    by_cases h0 : z = 0
    · subst h0; exact sg_zero neg
    · rw [h h0]; exact sg_of z
  by_cases hs : decide (u < 0) = decide (v < 0)
  · rw [if_pos hs]
    have hs2 : u < 0 ↔ v < 0 := decide_eq_decide.1 hs
    refine fin _ _ _ (by rw [Nat.add_mul, x1, y1]; omega) (by omega) (hsg _ _ (fun h => decide_eq_decide.2 (by omega)))
  · rw [if_neg hs]
    have hs2 : ¬ (u < 0 ↔ v < 0) := fun h => hs (decide_eq_decide.2 h)
    by_cases h : y ≤ x
    · rw [if_pos h]
      have h2 := hle.1 h
      exact fin _ _ _ (by rw [Nat.sub_mul, x1, y1]; omega) (by omega) (hsg _ _ (fun h => decide_eq_decide.2 (by omega)))
    · rw [if_neg h]
      have h2 : ¬ v.natAbs ≤ u.natAbs := fun hh => h (hle.2 hh)
      exact fin _ _ _ (by rw [Nat.sub_mul, x1, y1]; omega) (by omega) (hsg _ _ (fun h => decide_eq_decide.2 (by omega)))
/-- a decimal of few places, as a whole number of the places' unit -/
def raw (K : Nat) (neg : Bool) (n : Nat) (e : Int) : Int := sg neg (n * 10 ^ (e + K).toNat)
theorem pow_ltM {n k M : Nat} {e : Int} {K : Nat} (hn : n < 10 ^ k) (h : k + (e + K).toNat ≤ M) : n * 10 ^ (e + K).toNat < 10 ^ M := by
  refine Nat.lt_of_lt_of_le (Nat.mul_lt_mul_of_pos_right hn (Nat.pow_pos (by decide))) ?_
  rw [← Nat.pow_add]
  exact Nat.pow_le_pow_right (by decide) h
theorem nrm_raw {K k M : Nat} {neg : Bool} {n : Nat} {e : Int} (hK : K ≤ M) (hM : M ≤ 29000) (h0 : 0 ≤ e + K) (hn : n < 10 ^ k) (h : k + (e + K).toNat ≤ M) :
    nrm neg n e = dk K (raw K neg n e) ∧ (raw K neg n e).natAbs < 10 ^ M := by
  have h1 := pow_ltM hn h
  refine ⟨nrm_dk h0 (by omega) (by omega) (Nat.lt_of_lt_of_le h1 (Nat.pow_le_pow_right (by decide) (by omega))), ?_⟩
  unfold raw
  rw [sg_natAbs]
  exact h1
theorem dk_again {K M : Nat} {b : Bool} {z : Int} (hK : K ≤ M) (hM : M ≤ 29000) (hz : z.natAbs < 10 ^ M) : nrm b (dk K z).m (dk K z).e = dk K (sg b z.natAbs) := by
  have e1 := dk_e_ge K z
  have e3 := dk_e_lt hz hK
  have a1 := dk_val K z
  rw [nrm_dk (K := K) (by omega) (by omega) (by omega) (by rw [a1]; exact Nat.lt_of_lt_of_le hz (Nat.pow_le_pow_right (by decide) (by omega))), a1]
end Go.Proofs.YthkpmiajcmihjaaGreatDoor.FM
namespace Go.Proofs.YthkpmiajcmihjaaGreatDoor.FM
/-! rounding, as the program does it -/

theorem restOf_scale {r u c : Nat} (hc : 0 < c) : restOf (r * c) (u * c) = restOf r u := by
  unfold restOf
  have h1 : r * c = 0 ↔ r = 0 := by
    constructor
    · intro h; rcases Nat.mul_eq_zero.1 h with h | h
      · exact h
      · omega
    · rintro rfl; simp
  have h2 : 2 * (r * c) < u * c ↔ 2 * r < u := by rw [← Nat.mul_assoc]; exact Nat.mul_lt_mul_right hc
  have h3 : 2 * (r * c) = u * c ↔ 2 * r = u := by rw [← Nat.mul_assoc]; exact Nat.mul_right_cancel_iff hc
  by_cases a : r = 0
  · rw [if_pos a, if_pos (h1.2 a)]
  rw [if_neg a, if_neg (fun h => a (h1.1 h))]
  by_cases b : 2 * r < u
  · rw [if_pos b, if_pos (h2.2 b)]
  rw [if_neg b, if_neg (fun h => b (h2.1 h))]
  by_cases d : 2 * r = u
  · rw [if_pos d, if_pos (h3.2 d)]
  rw [if_neg d, if_neg (fun h => d (h3.1 h))]
theorem rnat_scale (m : Int) (neg : Bool) {n u c : Nat} (hc : 0 < c) : rnat m neg (n * c) (u * c) = rnat m neg n u * c := by
  unfold rnat
  rw [Nat.mul_div_mul_right _ _ hc, Nat.mul_mod_mul_right, restOf_scale hc, Nat.mul_assoc]
theorem rnat_le (m : Int) (neg : Bool) (n u : Nat) : rnat m neg n u ≤ n + u := by
  rcases rnat_cases m neg n u with ⟨_, h⟩ | ⟨_, _, h⟩ <;> omega
/-- so many units -/
def qn (m : Int) (neg : Bool) (n u : Nat) : Nat := n / u + (if upf m neg (decide (n / u % 2 = 1)) (restOf (n % u) u) then 1 else 0)
theorem qn_mul (m : Int) (neg : Bool) (n u : Nat) : qn m neg n u * u = rnat m neg n u := rfl
/-- a decimal rounded to a place -/
def atD (m : Int) (d : D) (p : Int) : D := if p ≤ d.e then d else nrm d.neg (qn m d.neg d.m (10 ^ (p - d.e).toNat)) p
theorem rnd_lt {m : Int} {z : Int} {U M : Nat} (hz : z.natAbs < 10 ^ M) (hU : U ≤ 10 ^ M) : (rnd m z U).natAbs < 10 ^ (M + 1) := by
  rw [rnd_natAbs]
  have := rnat_le m (decide (z < 0)) z.natAbs U
  rw [Nat.pow_succ]; omega
theorem rnd_sg (m z : Int) (U : Nat) : rnd m z U = sg (decide (z < 0)) (rnat m (decide (z < 0)) z.natAbs U) := rfl
theorem atD_dk {m : Int} {K M : Nat} {z p : Int} (hK : K ≤ M) (hM : M ≤ 28000) (hz : z.natAbs < 10 ^ M) (h0 : 0 ≤ p + K) (h1 : p + K ≤ M) : atD m (dk K z) p = dk K (rnd m z (10 ^ (p + K).toNat)) := by
  have hUM : 10 ^ (p + K).toNat ≤ 10 ^ M := Nat.pow_le_pow_right (by decide) (by omega)
  have hlt := rnd_lt (m := m) hz hUM
  by_cases hz0 : z = 0
  · subst hz0
    rw [dk_zero, rnd_zero, dk_zero]
    unfold atD
    split
    · rfl
    · have : qn m D0.neg D0.m (10 ^ (p - D0.e).toNat) = 0 := by
        unfold qn
        simp only [show D0.m = 0 from rfl, Nat.zero_div, Nat.zero_mod]
        rw [show restOf 0 (10 ^ (p - D0.e).toNat) = 0 by simp [restOf], upf_zero]
        rfl
      rw [this, nrm_zero]
  have hv := dk_val K z
  have he := dk_e K hz0
  have hn := dk_neg K z
  have hge := dk_e_ge K z
  obtain ⟨d, hd⟩ : ∃ d, dk K z = d := ⟨_, rfl⟩
  rw [hd] at hv he hn hge ⊢
  have hp : 0 < 10 ^ (d.e + K).toNat := Nat.pow_pos (by decide)
  unfold atD
  by_cases hle : p ≤ d.e
  · rw [if_pos hle, ← hd]
    congr 1
    have hdv : 10 ^ (p + K).toNat ∣ z.natAbs := by
      rw [← hv]
      exact Nat.dvd_trans (Nat.pow_dvd_pow 10 (by omega)) (Nat.dvd_mul_left _ _)
    exact (rnd_of_dvd (Int.ofNat_dvd_left.2 hdv)).symm
  · rw [if_neg hle]
    have hU : 10 ^ (p + K).toNat = 10 ^ (p - d.e).toNat * 10 ^ (d.e + K).toNat := by rw [← Nat.pow_add]; congr 1; omega
    have hr : rnat m (decide (z < 0)) z.natAbs (10 ^ (p + K).toNat) = qn m d.neg d.m (10 ^ (p - d.e).toNat) * 10 ^ (p + K).toNat := by
      rw [hU, ← hv, rnat_scale m _ hp, ← qn_mul, hn, Nat.mul_assoc]
    have hr2 : (rnd m z (10 ^ (p + K).toNat)).natAbs = qn m d.neg d.m (10 ^ (p - d.e).toNat) * 10 ^ (p + K).toNat := by rw [rnd_natAbs, hr]
    rw [nrm_dk (K := K) h0 (by omega) (by omega) (by rw [← hr2]; exact Nat.lt_of_lt_of_le hlt (Nat.pow_le_pow_right (by decide) (by omega)))]
    congr 1
    rw [rnd_sg, hr, hn]
/-- a decimal rounded to a multiple of so many times a power of ten -/
def stD (m : Int) (d : D) (n : Nat) (ie : Int) : D :=
  nrm d.neg ((if 0 ≤ d.e - ie then qn m d.neg (d.m * 10 ^ (d.e - ie).toNat) n else qn m d.neg d.m (n * 10 ^ (ie - d.e).toNat)) * n) ie
theorem stD_dk {m : Int} {K M n : Nat} {z ie : Int} (hK : K ≤ M) (hM : M ≤ 28000) (hz : z.natAbs < 10 ^ M) (h0 : 0 ≤ ie + K) (hn : 0 < n) (h1 : n * 10 ^ (ie + K).toNat ≤ 10 ^ M) : stD m (dk K z) n ie = dk K (rnd m z (n * 10 ^ (ie + K).toNat)) := by
  have hlt := rnd_lt (m := m) hz h1
  have hie : (ie + K).toNat ≤ M := by
    have : 10 ^ (ie + K).toNat ≤ 10 ^ M := Nat.le_trans (Nat.le_mul_of_pos_left _ hn) h1
    exact (Nat.pow_le_pow_iff_right (by decide : 1 < 10)).1 this
  have fin : ∀ (neg : Bool) (q : Nat), neg = decide (z < 0) → q * n * 10 ^ (ie + K).toNat = rnat m (decide (z < 0)) z.natAbs (n * 10 ^ (ie + K).toNat) → nrm neg (q * n) ie = dk K (rnd m z (n * 10 ^ (ie + K).toNat)) := by
    intro neg q hneg hq
    have hr2 : (rnd m z (n * 10 ^ (ie + K).toNat)).natAbs = q * n * 10 ^ (ie + K).toNat := by rw [rnd_natAbs, hq]
    rw [nrm_dk (K := K) h0 (by omega) (by omega) (by rw [← hr2]; exact Nat.lt_of_lt_of_le hlt (Nat.pow_le_pow_right (by decide) (by omega)))]
    congr 1
    rw [rnd_sg, hq, hneg]
  by_cases hz0 : z = 0
  · subst hz0
    rw [dk_zero, rnd_zero, dk_zero]
    unfold stD
    have hq0 : ∀ u, qn m D0.neg 0 u = 0 := by
      intro u
      unfold qn
      simp only [Nat.zero_div, Nat.zero_mod]
      rw [show restOf 0 u = 0 by simp [restOf], upf_zero]
      rfl
    rw [show D0.m = 0 from rfl, Nat.zero_mul, hq0, hq0, ite_self, Nat.zero_mul, nrm_zero]
  have hv := dk_val K z
  have hnn := dk_neg K z
  have hge := dk_e_ge K z
  have hee := dk_e_lt hz hK
  unfold stD
  obtain ⟨d, hd⟩ : ∃ d, dk K z = d := ⟨_, rfl⟩
  rw [hd] at hv hnn hge hee ⊢
  have hp : 0 < 10 ^ (d.e + K).toNat := Nat.pow_pos (by decide)
  have hp2 : 0 < 10 ^ (ie + K).toNat := Nat.pow_pos (by decide)
  by_cases hle : 0 ≤ d.e - ie
  · rw [if_pos hle]
    refine fin _ _ hnn ?_
    have e1 : z.natAbs = d.m * 10 ^ (d.e - ie).toNat * 10 ^ (ie + K).toNat := by
      rw [← hv, Nat.mul_assoc, ← Nat.pow_add]; congr 2; omega
    rw [e1, rnat_scale m _ hp2, ← qn_mul, hnn]
  · rw [if_neg hle]
    refine fin _ _ hnn ?_
    have e1 : n * 10 ^ (ie + K).toNat = n * 10 ^ (ie - d.e).toNat * 10 ^ (d.e + K).toNat := by
      rw [Nat.mul_assoc, ← Nat.pow_add]; congr 2; omega
    rw [e1, ← hv, rnat_scale m _ hp, ← qn_mul, hnn, Nat.mul_assoc, e1]
    simp only [Nat.mul_assoc]
/-- the rest of a quotient, and digits behind its point, against half of the divisor: 'left' of 'n', and f of 10 to the power of c -/
theorem restOf_two {left f n c : Nat} (hf : f < 10 ^ c) (hl : left < n) :
    restOf (left * 10 ^ c + f) (n * 10 ^ c) = (if left = 0 ∧ restOf f (10 ^ c) = 0 then 0 else if 2 ≤ (n : Int) - 2 * left ∨ ((n : Int) - 2 * left = 1 ∧ restOf f (10 ^ c) < 2) then 1 else if ((n : Int) - 2 * left = 1 ∧ restOf f (10 ^ c) = 2) ∨ ((n : Int) - 2 * left = 0 ∧ restOf f (10 ^ c) = 0) then 2 else 3) := by
  obtain ⟨C, hC⟩ : ∃ C, 10 ^ c = C := ⟨_, rfl⟩
  rw [hC] at hf ⊢
  have hCp : 0 < C := by omega
  have hf0 : restOf f C = 0 ↔ f = 0 := by
    unfold restOf; repeat' split
    all_goals omega
  have hf1 : restOf f C < 2 ↔ 2 * f < C := by
    unfold restOf; repeat' split
    all_goals omega
  have hf2 : restOf f C = 2 ↔ 2 * f = C := by
    unfold restOf; repeat' split
    all_goals omega
  have z1 : left * C + f = 0 ↔ left = 0 ∧ f = 0 := by
    constructor
    · intro h
      rcases Nat.eq_zero_or_pos left with h1 | h1
      · exact ⟨h1, by omega⟩
      · have := Nat.mul_pos h1 hCp; omega
    · rintro ⟨rfl, rfl⟩; simp
  -- n against 2 * left
  have lt1 : 2 * left + 2 ≤ n → 2 * (left * C) + 2 * C ≤ n * C := by
    intro h
    have := Nat.mul_le_mul_right C h
    rwa [Nat.add_mul, Nat.mul_assoc] at this
  have eq1 : n = 2 * left + 1 → n * C = 2 * (left * C) + C := by rintro rfl; rw [Nat.add_mul, Nat.one_mul, Nat.mul_assoc]
  have eq0 : n = 2 * left → n * C = 2 * (left * C) := by rintro rfl; rw [Nat.mul_assoc]
  have gt1 : n < 2 * left → n * C + C ≤ 2 * (left * C) := by
    intro h
    have := Nat.mul_le_mul_right C (show n + 1 ≤ 2 * left by omega)
    rwa [Nat.add_mul, Nat.one_mul, Nat.mul_assoc] at this
  simp only [hf0, hf1, hf2]
  unfold restOf
  obtain ⟨A, hA⟩ : ∃ A, left * C = A := ⟨_, rfl⟩
  obtain ⟨B, hB⟩ : ∃ B, n * C = B := ⟨_, rfl⟩
  rw [hA] at z1 lt1 eq1 eq0 gt1 ⊢
  rw [hB] at lt1 eq1 eq0 gt1 ⊢
  by_cases a : left = 0 ∧ f = 0
  · rw [if_pos (z1.2 a), if_pos a]
  rw [if_neg (fun h => a (z1.1 h)), if_neg a]
  clear z1
  rcases Nat.lt_or_ge (2 * left + 1) n with h | h
  · have := lt1 h
    clear lt1 eq1 eq0 gt1
    repeat' split
    all_goals first | rfl | (exfalso; omega)
  rcases Nat.eq_or_lt_of_le h with h | h
  · have := eq1 (by omega)
    clear lt1 eq1 eq0 gt1
    repeat' split
    all_goals first | rfl | (exfalso; omega)
  · rcases Nat.lt_or_ge n (2 * left) with h2 | h2
    · have := gt1 h2
      clear lt1 eq1 eq0 gt1
      repeat' split
      all_goals first | rfl | (exfalso; omega)
    · have := eq0 (by omega)
      clear lt1 eq1 eq0 gt1
      repeat' split
      all_goals first | rfl | (exfalso; omega)
end Go.Proofs.YthkpmiajcmihjaaGreatDoor.FM
namespace Go.Proofs.YthkpmiajcmihjaaGreatDoor.FM
/-! the modes that go one way alone -/
end Go.Proofs.YthkpmiajcmihjaaGreatDoor.FM
namespace Go.Proofs.YthkpmiajcmihjaaGreatDoor.FM
/-! what is shown: rounding to places that hang on the first digit -/
/-- how many digits a whole number has -/
def nd (z : Int) : Nat := (mkl z.natAbs).length
theorem nd_lt (z : Int) : z.natAbs < 10 ^ nd z := lt_pow_length _
theorem nd_pos {z : Int} (h : z ≠ 0) : 0 < nd z := by
  unfold nd
  rcases Nat.eq_zero_or_pos (mkl z.natAbs).length with h2 | h2
  · have := List.eq_nil_of_length_eq_zero h2
    rw [mkl_eq_nil] at this; omega
  · exact h2
theorem nd_ge {z : Int} (h : z ≠ 0) : 10 ^ (nd z - 1) ≤ z.natAbs := by
  have h0 := nd_pos h
  rcases Nat.lt_or_ge z.natAbs (10 ^ (nd z - 1)) with h1 | h1
  · have := mkl_length_le.2 h1
    unfold nd at h0 this
    omega
  · exact h1
theorem dk_mag {K : Nat} {z : Int} (h : z ≠ 0) : (dk K z).e + (mkl (dk K z).m).length = (nd z : Int) - K := by
  have hv := dk_val K z
  have he := dk_e_ge K z
  have hm : 0 < (dk K z).m := by
    rcases Nat.eq_zero_or_pos (dk K z).m with h0 | h0
    · rw [h0, Nat.zero_mul] at hv; omega
    · exact h0
  unfold nd
  rw [← hv, mkl_len_mul hm]
  omega
/-- the unit of which a multiple is shown: from the first digit on, or one for all -/
def Uf (sig : Bool) (mx U0 : Nat) (z : Int) : Nat := if sig = true then 10 ^ (nd z - mx) else U0
theorem rnat_le_top (m : Int) (neg : Bool) {n j k : Nat} (h : n ≤ 10 ^ k) (hj : j ≤ k) : rnat m neg n (10 ^ j) ≤ 10 ^ k := by
  have h1 := rnat_mono m neg (u := 10 ^ j) h
  rwa [rnat_of_mod (n := 10 ^ k) (Nat.mod_eq_zero_of_dvd (Nat.pow_dvd_pow 10 hj))] at h1
theorem rnat_ge_low (m : Int) (neg : Bool) {n j k : Nat} (h : 10 ^ k ≤ n) (hj : j ≤ k) : 10 ^ k ≤ rnat m neg n (10 ^ j) := by
  have h1 := rnat_mono m neg (u := 10 ^ j) h
  rwa [rnat_of_mod (n := 10 ^ k) (Nat.mod_eq_zero_of_dvd (Nat.pow_dvd_pow 10 hj))] at h1
theorem sig_top (m : Int) (z : Int) {mx : Nat} : (rnd m z (10 ^ (nd z - mx))).natAbs ≤ 10 ^ nd z := by
  rw [rnd_natAbs]
  exact rnat_le_top m _ (Nat.le_of_lt (nd_lt z)) (Nat.sub_le _ _)
theorem sig_low (m : Int) {z : Int} (h : z ≠ 0) {mx : Nat} (h1 : 1 ≤ mx) : 10 ^ (nd z - 1) ≤ (rnd m z (10 ^ (nd z - mx))).natAbs := by
  rw [rnd_natAbs]
  exact rnat_ge_low m _ (nd_ge h) (by omega)
/-! the digits that are shown -/
/-- ahead of the point -/
def visI (mn : Nat) (d : D) (part : List UInt8) : List UInt8 :=
  if zs (mn - (mkl (wholeN d.m d.e)).length) ++ mkl (wholeN d.m d.e) = [] ∧ part = [] then [48] else zs (mn - (mkl (wholeN d.m d.e)).length) ++ mkl (wholeN d.m d.e)
/-- behind it -/
def visF (least : Nat) (d : D) : List UInt8 := partL d.m d.e ++ zs (least - (partL d.m d.e).length)
theorem dig_visF (least : Nat) (d : D) : Dig (visF least d) := (dig_partL _ _).append (dig_zs _)
theorem dig_visI (mn : Nat) (d : D) (p : List UInt8) : Dig (visI mn d p) := by
  unfold visI; split
  · unfold Dig; decide
  · exact (dig_zs _).append (dig_mkl _)
theorem visF_length (least : Nat) (d : D) : (visF least d).length = max least (-d.e).toNat := by
  unfold visF; rw [List.length_append, partL_length, zs_length]; omega
theorem nvl_visI (mn : Nat) (d : D) (p : List UInt8) : nvl (visI mn d p) = wholeN d.m d.e := by
  unfold visI; split
  · rename_i h
    have h2 := (List.append_eq_nil_iff.1 h.1).2
    rw [mkl_eq_nil] at h2
    rw [h2]; decide
  · rw [nvl_zs_append, nvl_mkl]
theorem nvl_append' (a b : List UInt8) (_h : Dig b) : nvl (a ++ b) = nvl a * 10 ^ b.length + nvl b := nvl_append a b
theorem vis_nvl (mn least : Nat) (d : D) (p : List UInt8) : nvl (visI mn d p ++ visF least d) = d.m * 10 ^ d.e.toNat * 10 ^ (least - (-d.e).toNat) := by
  have h := whole_part d.m d.e
  rw [nvl_append' _ _ (dig_partL _ _), nvl_mkl] at h
  unfold visF
  rw [← List.append_assoc, nvl_append_zs, nvl_append' _ _ (dig_partL _ _), nvl_visI, h, partL_length]
/-- the digits that are shown are the decimal's value -/
theorem vis_value {d : D} (hn : nrm d.neg d.m d.e = d) (h0 : -29000 ≤ d.e) (h1 : d.e ≤ 29000) {mn least : Nat} (hl : least ≤ 1000) (p : List UInt8) :
    nrm d.neg (nvl (visI mn d p ++ visF least d)) (-((visF least d).length : Int)) = d := by
  rw [vis_nvl, visF_length]
  rw [nrm_shift (by omega) (by omega), nrm_shift (by omega) (by omega)]
  rw [show -((max least (-d.e).toNat : Nat) : Int) + ((least - (-d.e).toNat : Nat) : Int) + ((d.e.toNat : Nat) : Int) = d.e by omega]
  exact hn
end Go.Proofs.YthkpmiajcmihjaaGreatDoor.FM
