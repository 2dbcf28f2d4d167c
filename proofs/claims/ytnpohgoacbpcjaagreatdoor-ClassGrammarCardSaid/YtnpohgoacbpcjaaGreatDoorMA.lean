namespace Go.Proofs.YtnpohgoacbpcjaaGreatDoor.FM
abbrev B := UInt8

/-- the value of digits -/
def nvl (l : List UInt8) : Nat := l.foldl (fun a c => 10 * a + (c.toNat - 48)) 0
def Dig (l : List UInt8) : Prop := ∀ c ∈ l, 48 ≤ c.toNat ∧ c.toNat ≤ 57
instance (l : List UInt8) : Decidable (Dig l) := inferInstanceAs (Decidable (∀ c ∈ l, 48 ≤ c.toNat ∧ c.toNat ≤ 57))

theorem foldl_shift (l : List UInt8) (a : Nat) : l.foldl (fun a c => 10 * a + (c.toNat - 48)) a = a * 10 ^ l.length + nvl l := by
  induction l generalizing a with
  | nil => simp [nvl]
  | cons c l ih =>
    simp only [nvl, List.foldl_cons, List.length_cons]
    rw [ih, ih (10 * 0 + _)]
    simp only [Nat.mul_zero, Nat.zero_add, Nat.pow_succ]
    rw [Nat.add_mul, Nat.add_assoc]
    congr 1
    rw [Nat.mul_comm 10 a, Nat.mul_assoc, Nat.mul_comm 10]

@[simp] theorem nvl_nil : nvl [] = 0 := rfl
theorem nvl_append (a b : List UInt8) : nvl (a ++ b) = nvl a * 10 ^ b.length + nvl b := by
  unfold nvl; rw [List.foldl_append, foldl_shift]; rfl
theorem nvl_cons (c : UInt8) (l : List UInt8) : nvl (c :: l) = (c.toNat - 48) * 10 ^ l.length + nvl l := by
  have := nvl_append [c] l
  simpa [nvl] using this
theorem nvl_snoc (l : List UInt8) (c : UInt8) : nvl (l ++ [c]) = 10 * nvl l + (c.toNat - 48) := by
  rw [nvl_append]; simp [nvl]; omega

theorem Dig.nil : Dig [] := by intro c h; cases h
theorem Dig.append {a b : List UInt8} (ha : Dig a) (hb : Dig b) : Dig (a ++ b) := by
  intro c h; rcases List.mem_append.1 h with h | h; exact ha c h; exact hb c h
theorem Dig.of_append_left {a b : List UInt8} (h : Dig (a ++ b)) : Dig a := fun c hc => h c (List.mem_append.2 (.inl hc))
theorem Dig.of_append_right {a b : List UInt8} (h : Dig (a ++ b)) : Dig b := fun c hc => h c (List.mem_append.2 (.inr hc))
theorem dig_append {a b : List UInt8} : Dig (a ++ b) ↔ Dig a ∧ Dig b := ⟨fun h => ⟨h.of_append_left, h.of_append_right⟩, fun h => h.1.append h.2⟩
theorem dig_cons {c : UInt8} {b : List UInt8} : Dig (c :: b) ↔ (48 ≤ c.toNat ∧ c.toNat ≤ 57) ∧ Dig b := by
  unfold Dig; simp [List.mem_cons]
theorem Dig.take {a : List UInt8} (h : Dig a) (n : Nat) : Dig (a.take n) := fun c hc => h c (List.mem_of_mem_take hc)
theorem Dig.drop {a : List UInt8} (h : Dig a) (n : Nat) : Dig (a.drop n) := fun c hc => h c (List.mem_of_mem_drop hc)

theorem nvl_lt {l : List UInt8} (h : Dig l) : nvl l < 10 ^ l.length := by
  induction l with
  | nil => simp
  | cons c l ih =>
    rw [dig_cons] at h
    have := ih h.2
    rw [nvl_cons, List.length_cons, Nat.pow_succ]
    have h9 : (c.toNat - 48) * 10 ^ l.length ≤ 9 * 10 ^ l.length := Nat.mul_le_mul_right _ (by omega)
    omega

/-- the digits of a number; none of nought -/
def mkl (n : Nat) : List UInt8 := if _h : n = 0 then [] else mkl (n / 10) ++ [UInt8.ofNat (48 + n % 10)]
  termination_by n
  decreasing_by omega

@[simp] theorem mkl_zero : mkl 0 = [] := by unfold mkl; simp
theorem mkl_pos {n : Nat} (h : 0 < n) : mkl n = mkl (n / 10) ++ [UInt8.ofNat (48 + n % 10)] := by
  rw [mkl]; rw [dif_neg (by omega)]
theorem ofNat_toNat {n : Nat} (h : n < 256) : (UInt8.ofNat n).toNat = n := by simp; omega
theorem dig_mkl (n : Nat) : Dig (mkl n) := by
  induction n using Nat.strongRecOn with
  | ind n ih =>
    rcases Nat.eq_zero_or_pos n with rfl | h
    · simp [Dig.nil]
    · rw [mkl_pos h]
      refine (ih _ (by omega)).append ?_
      rw [dig_cons, ofNat_toNat (by omega)]
      exact ⟨by omega, Dig.nil⟩
@[simp] theorem nvl_mkl (n : Nat) : nvl (mkl n) = n := by
  induction n using Nat.strongRecOn with
  | ind n ih =>
    rcases Nat.eq_zero_or_pos n with rfl | h
    · simp
    · rw [mkl_pos h, nvl_snoc, ih _ (by omega), ofNat_toNat (by omega)]; omega
theorem mkl_inj {a b : Nat} : mkl a = mkl b ↔ a = b := ⟨fun h => by rw [← nvl_mkl a, h, nvl_mkl], fun h => by rw [h]⟩
theorem mkl_eq_nil {a : Nat} : mkl a = [] ↔ a = 0 := by rw [← mkl_zero, mkl_inj]
theorem mkl_length_le {n k : Nat} : (mkl n).length ≤ k ↔ n < 10 ^ k := by
  induction k generalizing n with
  | zero => simp [List.length_eq_zero_iff, mkl_eq_nil]
  | succ k ih =>
    rcases Nat.eq_zero_or_pos n with rfl | h
    · simp [Nat.pow_pos]
    · rw [mkl_pos h, List.length_append, List.length_singleton, Nat.add_le_add_iff_right, ih, Nat.pow_succ]
      omega
theorem lt_pow_length (n : Nat) : n < 10 ^ (mkl n).length := mkl_length_le.1 (Nat.le_refl _)
theorem pow_length_le {n : Nat} (h : 0 < n) : 10 ^ ((mkl n).length - 1) ≤ n := by
  have h1 : ¬ (mkl n).length ≤ (mkl n).length - 1 := by
    have : (mkl n).length ≠ 0 := by rw [Ne, List.length_eq_zero_iff, mkl_eq_nil]; omega
    omega
  rw [mkl_length_le] at h1; omega
theorem mkl_length_mono {a b : Nat} (h : a ≤ b) : (mkl a).length ≤ (mkl b).length := by
  rw [mkl_length_le]; exact Nat.lt_of_le_of_lt h (lt_pow_length b)
theorem mkl_length_eq {n k : Nat} (h1 : 10 ^ k ≤ n) (h2 : n < 10 ^ (k + 1)) : (mkl n).length = k + 1 := by
  have a : (mkl n).length ≤ k + 1 := mkl_length_le.2 h2
  have b : ¬ (mkl n).length ≤ k := by rw [mkl_length_le]; omega
  omega

/-- no nought ahead -/
def Bare (l : List UInt8) : Prop := l.head? ≠ some 48
theorem bare_mkl (n : Nat) : Bare (mkl n) := by
  induction n using Nat.strongRecOn with
  | ind n ih =>
    unfold Bare
    rcases Nat.eq_zero_or_pos n with rfl | h
    · simp
    · rw [mkl_pos h, List.head?_append]
      cases e : (mkl (n / 10)).head? with
      | none =>
        have h0 : n / 10 = 0 := by rw [← mkl_eq_nil]; exact List.head?_eq_none_iff.1 e
        simp
        intro hc
        have := congrArg UInt8.toNat hc
        rw [ofNat_toNat (by omega)] at this
        simp at this
        omega
      | some c =>
        have := ih (n / 10) (by omega)
        unfold Bare at this
        rw [e] at this
        simpa using this
theorem mkl_nvl {l : List UInt8} (h : Dig l) (hb : Bare l) : mkl (nvl l) = l := by
  suffices H : ∀ k (l : List UInt8), l.length = k → Dig l → Bare l → mkl (nvl l) = l from H _ l rfl h hb
  intro k
  induction k with
  | zero => intro l hl _ _; obtain rfl := List.eq_nil_of_length_eq_zero hl; simp
  | succ k ih =>
    intro l hl h hb
    obtain ⟨t, c, rfl⟩ : ∃ t c, l = t ++ [c] := ⟨l.dropLast, l.getLast (by intro e; simp [e] at hl), (List.dropLast_concat_getLast _).symm⟩
    have hl' : t.length = k := by simpa using hl
    have ⟨ht, hc⟩ := dig_append.1 h
    rw [dig_cons] at hc
    have hbt : Bare t := by
      unfold Bare at hb ⊢
      cases t with
      | nil => simp
      | cons d t => simpa using hb
    have e1 := ih t hl' ht hbt
    rw [nvl_snoc]
    have hpos : 0 < 10 * nvl t + (c.toNat - 48) := by
      cases t with
      | nil =>
        have : c ≠ 48 := by simpa [Bare] using hb
        have : c.toNat ≠ 48 := fun e => this (UInt8.toNat_inj.1 (by simpa using e))
        simp; omega
      | cons d t =>
        have : nvl (d :: t) ≠ 0 := by
          intro e; rw [e] at e1; simp at e1
        omega
    rw [mkl_pos hpos]
    have h1 : (10 * nvl t + (c.toNat - 48)) / 10 = nvl t := by omega
    have h2 : (10 * nvl t + (c.toNat - 48)) % 10 = c.toNat - 48 := by omega
    rw [h1, h2, e1]
    congr 2
    apply UInt8.toNat_inj.1
    rw [ofNat_toNat (by omega)]; omega
/-- digits without noughts ahead -/
def bare (l : List UInt8) : List UInt8 := l.dropWhile (· == 48)
theorem nvl_bare (l : List UInt8) : nvl (bare l) = nvl l := by
  induction l with
  | nil => rfl
  | cons c l ih =>
    unfold bare at ih ⊢
    rw [List.dropWhile_cons]
    split
    · rename_i h
      have : c = 48 := by simpa using h
      subst this
      rw [ih, nvl_cons]; simp
    · rfl
theorem dig_bare {l : List UInt8} (h : Dig l) : Dig (bare l) := fun c hc => h c ((List.dropWhile_sublist _).subset hc)
theorem bare_bare (l : List UInt8) : Bare (bare l) := by
  unfold Bare bare
  induction l with
  | nil => simp
  | cons c l ih =>
    rw [List.dropWhile_cons]
    split
    · exact ih
    · rename_i h; simpa using h
theorem bare_eq {l : List UInt8} (h : Dig l) : bare l = mkl (nvl l) := by
  rw [← nvl_bare, mkl_nvl (dig_bare h) (bare_bare l)]
theorem dig_eq_of {a b : List UInt8} (ha : Dig a) (hb : Dig b) (hl : a.length = b.length) (h : nvl a = nvl b) : a = b := by
  induction a generalizing b with
  | nil => exact (List.eq_nil_of_length_eq_zero hl.symm).symm
  | cons c a ih =>
    cases b with
    | nil => simp at hl
    | cons d b =>
      rw [dig_cons] at ha hb
      simp at hl
      rw [nvl_cons, nvl_cons, hl] at h
      have h1 := nvl_lt ha.2
      have h2 := nvl_lt hb.2
      rw [hl] at h1
      have hp : 0 < 10 ^ b.length := Nat.pow_pos (by omega)
      have key : c.toNat - 48 = d.toNat - 48 := by
        have e1 : ((c.toNat - 48) * 10 ^ b.length + nvl a) / 10 ^ b.length = c.toNat - 48 := by
          rw [Nat.mul_comm, Nat.mul_add_div hp, Nat.div_eq_of_lt h1]; rfl
        have e2 : ((d.toNat - 48) * 10 ^ b.length + nvl b) / 10 ^ b.length = d.toNat - 48 := by
          rw [Nat.mul_comm, Nat.mul_add_div hp, Nat.div_eq_of_lt h2]; rfl
        rw [← e1, h, e2]
      have hcd : c = d := UInt8.toNat_inj.1 (by omega)
      subst hcd
      rw [ih ha.2 hb.2 hl (by omega)]
end Go.Proofs.YtnpohgoacbpcjaaGreatDoor.FM
namespace Go.Proofs.YtnpohgoacbpcjaaGreatDoor.FM

/-- a number without noughts at the end, and how many there were -/
def st (n : Nat) : Nat × Nat := if h : n % 10 = 0 ∧ 0 < n then ((st (n / 10)).1, (st (n / 10)).2 + 1) else (n, 0)
  termination_by n
  decreasing_by all_goals omega

theorem st_zero : st 0 = (0, 0) := by rw [st]; simp
theorem st_of {n : Nat} (h : n % 10 ≠ 0) : st n = (n, 0) := by rw [st]; rw [dif_neg (by omega)]
theorem st_step {n : Nat} (h : 0 < n) : st (10 * n) = ((st n).1, (st n).2 + 1) := by
  rw [st, dif_pos ⟨by omega, by omega⟩]
  have : 10 * n / 10 = n := by omega
  rw [this]
theorem st_eq (n : Nat) : n = (st n).1 * 10 ^ (st n).2 := by
  induction n using Nat.strongRecOn with
  | ind n ih =>
    by_cases h : n % 10 = 0 ∧ 0 < n
    · obtain ⟨m, rfl⟩ : ∃ m, n = 10 * m := ⟨n / 10, by omega⟩
      rw [st_step (by omega)]
      have := ih m (by omega)
      simp only [Nat.pow_succ]
      rw [← Nat.mul_assoc, ← this]; omega
    · rw [st, dif_neg h]; simp
theorem st_mod {n : Nat} (h : 0 < n) : (st n).1 % 10 ≠ 0 := by
  induction n using Nat.strongRecOn with
  | ind n ih =>
    by_cases h' : n % 10 = 0
    · obtain ⟨m, rfl⟩ : ∃ m, n = 10 * m := ⟨n / 10, by omega⟩
      rw [st_step (by omega)]
      exact ih m (by omega) (by omega)
    · rw [st_of h']; exact h'
theorem st_pos {n : Nat} (h : 0 < n) : 0 < (st n).1 := by have := st_mod h; omega
/-- the parts are told by the number -/
theorem st_uniq {m k : Nat} (h : m % 10 ≠ 0) : st (m * 10 ^ k) = (m, k) := by
  induction k with
  | zero => simp [st_of h]
  | succ k ih =>
    have : m * 10 ^ (k + 1) = 10 * (m * 10 ^ k) := by rw [Nat.pow_succ, ← Nat.mul_assoc, Nat.mul_comm]
    rw [this, st_step (Nat.mul_pos (by omega) (Nat.pow_pos (by omega))), ih]
theorem mul_pow_uniq {m m' k k' : Nat} (h : m % 10 ≠ 0) (h' : m' % 10 ≠ 0) (e : m * 10 ^ k = m' * 10 ^ k') : m = m' ∧ k = k' := by
  have a := st_uniq (k := k) h
  rw [e, st_uniq h'] at a
  injection a with a b
  exact ⟨a.symm, b.symm⟩
theorem st_le (n : Nat) : (st n).1 ≤ n := by
  conv => rhs; rw [st_eq n]
  exact Nat.le_mul_of_pos_right _ (Nat.pow_pos (by omega))

/-- noughts -/
def zs (k : Nat) : List UInt8 := List.replicate k 48
theorem dig_zs (k : Nat) : Dig (zs k) := by
  intro c hc; have := List.eq_of_mem_replicate hc; subst this; decide
@[simp] theorem zs_length (k : Nat) : (zs k).length = k := by simp [zs]
@[simp] theorem zs_zero : zs 0 = [] := rfl
theorem zs_succ (k : Nat) : zs (k + 1) = 48 :: zs k := rfl
@[simp] theorem nvl_zs (k : Nat) : nvl (zs k) = 0 := by
  induction k with
  | zero => rfl
  | succ k ih => rw [zs_succ, nvl_cons, ih]; simp
theorem zs_add (a b : Nat) : zs (a + b) = zs a ++ zs b := by simp [zs, List.replicate_append_replicate]
theorem nvl_append_zs (l : List UInt8) (k : Nat) : nvl (l ++ zs k) = nvl l * 10 ^ k := by rw [nvl_append]; simp
theorem nvl_zs_append (l : List UInt8) (k : Nat) : nvl (zs k ++ l) = nvl l := by rw [nvl_append]; simp
theorem mkl_mul_pow {n : Nat} (h : 0 < n) (k : Nat) : mkl (n * 10 ^ k) = mkl n ++ zs k := by
  have hb : Bare (mkl n ++ zs k) := by
    have := bare_mkl n
    unfold Bare at this ⊢
    cases e : mkl n with
    | nil => rw [mkl_eq_nil] at e; omega
    | cons c t => rw [e] at this; simpa using this
  have := mkl_nvl ((dig_mkl n).append (dig_zs k)) hb
  rw [nvl_append_zs, nvl_mkl] at this
  exact this

/-- without noughts at the end -/
def tr (l : List UInt8) : List UInt8 := (l.reverse.dropWhile (· == 48)).reverse
theorem tr_nil : tr [] = [] := rfl
theorem tr_snoc_zero (l : List UInt8) : tr (l ++ [48]) = tr l := by unfold tr; simp
theorem tr_snoc {l : List UInt8} {c : UInt8} (h : c ≠ 48) : tr (l ++ [c]) = l ++ [c] := by unfold tr; simp [h]
theorem snoc_induction {P : List UInt8 → Prop} (h0 : P []) (h1 : ∀ l c, P l → P (l ++ [c])) (l : List UInt8) : P l := by
  suffices H : ∀ k (l : List UInt8), l.length = k → P l from H _ l rfl
  intro k
  induction k with
  | zero => intro l hl; obtain rfl := List.eq_nil_of_length_eq_zero hl; exact h0
  | succ k ih =>
    intro l hl
    obtain ⟨t, c, rfl⟩ : ∃ t c, l = t ++ [c] := ⟨l.dropLast, l.getLast (by intro e; simp [e] at hl), (List.dropLast_concat_getLast _).symm⟩
    exact h1 t c (ih t (by simpa using hl))
theorem tr_eq (l : List UInt8) : l = tr l ++ zs (l.length - (tr l).length) ∧ (tr l).length ≤ l.length := by
  induction l using snoc_induction with
  | h0 => simp [tr_nil]
  | h1 l c ih =>
    by_cases h : c = 48
    · subst h
      rw [tr_snoc_zero]
      have e : (l ++ [48]).length - (tr l).length = l.length - (tr l).length + 1 := by have := ih.2; simp; omega
      rw [e, zs_add, ← List.append_assoc, ← ih.1]
      refine ⟨rfl, ?_⟩
      have := ih.2; simp; omega
    · rw [tr_snoc h]; simp
theorem tr_last (l : List UInt8) : (tr l).getLast? ≠ some 48 := by
  induction l using snoc_induction with
  | h0 => simp [tr_nil]
  | h1 l c ih =>
    by_cases h : c = 48
    · subst h; rw [tr_snoc_zero]; exact ih
    · rw [tr_snoc h]; simpa using h
theorem dig_tr {l : List UInt8} (h : Dig l) : Dig (tr l) := by
  rw [(tr_eq l).1] at h; exact h.of_append_left
theorem tr_append_zs (l : List UInt8) (k : Nat) : tr (l ++ zs k) = tr l := by
  induction k with
  | zero => simp
  | succ k ih => rw [zs_add, ← List.append_assoc]; exact (tr_snoc_zero _).trans ih
theorem tr_of_last {l : List UInt8} (h : l.getLast? ≠ some 48) : tr l = l := by
  induction l using snoc_induction with
  | h0 => rfl
  | h1 l c _ => exact tr_snoc (by simpa using h)
theorem mkl_last_ne {n : Nat} (h : n % 10 ≠ 0) : (mkl n).getLast? ≠ some 48 := by
  rw [mkl_pos (by omega)]
  simp
  intro hc
  have := congrArg UInt8.toNat hc
  rw [ofNat_toNat (by omega)] at this
  simp at this; omega
theorem tr_mkl {n : Nat} : tr (mkl n) = mkl (st n).1 := by
  rcases Nat.eq_zero_or_pos n with rfl | h
  · simp [st_zero, tr_nil]
  · conv => lhs; rw [st_eq n]
    rw [mkl_mul_pow (st_pos h), tr_append_zs, tr_of_last (mkl_last_ne (st_mod h))]
theorem mkl_len_st {n : Nat} (h : 0 < n) : (mkl n).length = (mkl (st n).1).length + (st n).2 := by
  conv => lhs; rw [st_eq n]
  rw [mkl_mul_pow (st_pos h)]; simp
end Go.Proofs.YtnpohgoacbpcjaaGreatDoor.FM
namespace Go.Proofs.YtnpohgoacbpcjaaGreatDoor.FM

/-- a decimal: sign, digits, power of ten -/
structure D where
  neg : Bool
  m : Nat
  e : Int
  deriving DecidableEq

def D0 : D := ⟨false, 0, 0⟩
def held (x : Int) : Int := max (-30000) (min 30000 x)
def nrm (neg : Bool) (n : Nat) (e : Int) : D := if n = 0 then D0 else ⟨neg, (st n).1, held (held e + (st n).2)⟩

def sg (neg : Bool) (n : Nat) : Int := if neg then -(n : Int) else n
theorem sg_zero (b : Bool) : sg b 0 = 0 := by unfold sg; split <;> rfl
theorem sg_natAbs (b : Bool) (n : Nat) : (sg b n).natAbs = n := by unfold sg; split <;> simp
theorem sg_eq_zero {b : Bool} {n : Nat} : sg b n = 0 ↔ n = 0 := by unfold sg; split <;> omega
theorem sg_neg {b : Bool} {n : Nat} (h : 0 < n) : decide (sg b n < 0) = b := by
  unfold sg; cases b <;> simp <;> omega
theorem sg_lt_zero {b : Bool} {n : Nat} : sg b n < 0 ↔ b = true ∧ 0 < n := by
  unfold sg; cases b <;> simp <;> omega
theorem sg_of (z : Int) : sg (decide (z < 0)) z.natAbs = z := by
  unfold sg; split <;> rename_i h <;> simp at h <;> omega
theorem sg_mul (b : Bool) (n k : Nat) : sg b (n * k) = sg b n * k := by
  unfold sg; cases b <;> simp [Int.neg_mul]
theorem sg_not (b : Bool) (n : Nat) : sg (!b) n = - sg b n := by unfold sg; cases b <;> simp

/-- the decimal that so many times ten to the power of -K is -/
def dk (K : Nat) (z : Int) : D := if z = 0 then D0 else ⟨decide (z < 0), (st z.natAbs).1, (st z.natAbs).2 - (K : Int)⟩
theorem dk_zero (K : Nat) : dk K 0 = D0 := by simp [dk]
theorem dk_m (K : Nat) (z : Int) : (dk K z).m = (st z.natAbs).1 := by
  unfold dk; split
  · rename_i h; subst h; simp [D0, st_zero]
  · rfl
theorem dk_neg (K : Nat) (z : Int) : (dk K z).neg = decide (z < 0) := by
  unfold dk; split
  · rename_i h; subst h; simp [D0]
  · rfl
theorem dk_e (K : Nat) {z : Int} (h : z ≠ 0) : (dk K z).e = (st z.natAbs).2 - (K : Int) := by
  unfold dk; rw [if_neg h]
theorem dk_inj {K : Nat} {y z : Int} : dk K y = dk K z ↔ y = z := by
  refine ⟨fun h => ?_, fun h => by rw [h]⟩
  have hm := congrArg D.m h
  have hn := congrArg D.neg h
  rw [dk_m, dk_m] at hm
  rw [dk_neg, dk_neg] at hn
  have ey := st_eq y.natAbs
  have ez := st_eq z.natAbs
  by_cases hy : y = 0
  · subst hy
    by_cases hz : z = 0
    · exact hz.symm
    · have := st_pos (n := z.natAbs) (by omega)
      simp [st_zero] at hm; omega
  · by_cases hz : z = 0
    · subst hz
      have := st_pos (n := y.natAbs) (by omega)
      simp [st_zero] at hm; omega
    · have he := congrArg D.e h
      rw [dk_e K hy, dk_e K hz] at he
      have he' : (st y.natAbs).2 = (st z.natAbs).2 := by omega
      rw [hm, he', ← ez] at ey
      have hs : y < 0 ↔ z < 0 := by simpa using hn
      omega
theorem dk_eq_D0 {K : Nat} {z : Int} : dk K z = D0 ↔ z = 0 := by rw [← dk_zero K, dk_inj]
theorem dk_m_zero {K : Nat} {z : Int} : (dk K z).m = 0 ↔ z = 0 := by
  rw [dk_m]
  constructor
  · intro h
    rcases Nat.eq_zero_or_pos z.natAbs with h0 | h0
    · omega
    · have := st_pos h0; omega
  · rintro rfl; simp [st_zero]
/-- at another scale -/
theorem dk_scale (K j : Nat) (z : Int) : dk (K + j) (z * (10 : Int) ^ j) = dk K z := by
  by_cases h : z = 0
  · subst h; simp [dk_zero]
  have hp : (0 : Int) < 10 ^ j := Int.pow_pos (by omega)
  have hz : z * 10 ^ j ≠ 0 := Int.mul_ne_zero h (by omega)
  have e1 : (z * (10 : Int) ^ j).natAbs = z.natAbs * 10 ^ j := by rw [Int.natAbs_mul, Int.natAbs_pow]; rfl
  have e2 : st (z.natAbs * 10 ^ j) = ((st z.natAbs).1, (st z.natAbs).2 + j) := by
    conv => lhs; rw [st_eq z.natAbs, Nat.mul_assoc, ← Nat.pow_add]
    exact st_uniq (st_mod (by omega))
  unfold dk
  rw [if_neg h, if_neg hz, e1, e2]
  have : (z * 10 ^ j < 0) ↔ z < 0 := by
    constructor
    · intro hh; by_cases h0 : z < 0
      · exact h0
      · have := Int.mul_nonneg (show 0 ≤ z by omega) (show (0:Int) ≤ 10 ^ j by omega); omega
    · intro hh; exact Int.mul_neg_of_neg_of_pos hh hp
  simp [this]; omega

theorem held_of {x : Int} (h1 : -30000 ≤ x) (h2 : x ≤ 30000) : held x = x := by unfold held; omega
theorem st_snd_lt {n k : Nat} (h : 0 < n) (hk : n < 10 ^ k) : (st n).2 < k := by
  have h1 := st_eq n
  have h2 := st_pos h
  have h3 : 10 ^ (st n).2 ≤ n := by
    conv => rhs; rw [h1]
    exact Nat.le_mul_of_pos_left _ h2
  exact (Nat.pow_lt_pow_iff_right (by omega : 1 < 10)).1 (Nat.lt_of_le_of_lt h3 hk)
/-- the normal form is the one of the value -/
theorem nrm_dk {neg : Bool} {n : Nat} {e : Int} {K : Nat} (h0 : 0 ≤ e + K) (h1 : e ≤ 30000) (hK : K ≤ 30000) (hn : n * 10 ^ (e + K).toNat < 10 ^ (30000 + K)) :
    nrm neg n e = dk K (sg neg (n * 10 ^ (e + K).toNat)) := by
  unfold nrm dk
  by_cases h : n = 0
  · subst h; simp [sg_zero]
  · have hpos : 0 < n * 10 ^ (e + K).toNat := Nat.mul_pos (by omega) (Nat.pow_pos (by omega))
    rw [if_neg h, if_neg (by rw [sg_eq_zero]; omega), sg_natAbs, sg_neg hpos]
    have e2 : st (n * 10 ^ (e + K).toNat) = ((st n).1, (st n).2 + (e + K).toNat) := by
      conv => lhs; rw [st_eq n, Nat.mul_assoc, ← Nat.pow_add]
      exact st_uniq (st_mod (by omega))
    have := st_snd_lt hpos hn
    rw [e2] at this ⊢
    simp only at this ⊢
    congr 1
    rw [held_of (x := e) (by omega) (by omega), held_of (by omega) (by omega)]; omega
theorem dk_nrm {K : Nat} {z : Int} (hK : K ≤ 30000) (hz : z.natAbs < 10 ^ (30000 + K)) : dk K z = nrm (decide (z < 0)) z.natAbs (-(K : Int)) := by
  have h := nrm_dk (neg := decide (z < 0)) (n := z.natAbs) (e := -(K : Int)) (K := K) (by omega) (by omega) hK (by simpa using by rw [show (-(K:Int) + K).toNat = 0 by omega]; simpa using hz)
  rw [h, show (-(K:Int) + K).toNat = 0 by omega]
  simp [sg_of]
end Go.Proofs.YtnpohgoacbpcjaaGreatDoor.FM
namespace Go.Proofs.YtnpohgoacbpcjaaGreatDoor.FM

/-- does a number that was cut go on to the next one? modes 0 to 6; the rest: 0 none, 1 less than half, 2 half, 3 more -/
def upf (m : Int) (neg odd : Bool) (r : Int) : Bool :=
  if r = 0 then false
  else if m = 0 then decide (r = 3) || (decide (r = 2) && odd)
  else if m = 1 then decide (2 ≤ r)
  else if m = 2 then decide (r = 3)
  else if m = 3 then true
  else if m = 5 then !neg
  else if m = 6 then neg
  else false
def restOf (r u : Nat) : Int := if r = 0 then 0 else if 2 * r < u then 1 else if 2 * r = u then 2 else 3
def rnat (m : Int) (neg : Bool) (n u : Nat) : Nat := (n / u + (if upf m neg (decide (n / u % 2 = 1)) (restOf (n % u) u) then 1 else 0)) * u
def rnd (m : Int) (x : Int) (u : Nat) : Int := sg (decide (x < 0)) (rnat m (decide (x < 0)) x.natAbs u)

theorem restOf_range (r u : Nat) : 0 ≤ restOf r u ∧ restOf r u ≤ 3 := by
  unfold restOf; repeat' split
  all_goals omega
theorem restOf_mono {r s u : Nat} (h : r ≤ s) : restOf r u ≤ restOf s u := by
  unfold restOf; repeat' split
  all_goals omega
theorem upf_mono {m : Int} {neg odd : Bool} {r s : Int} (h0 : 0 ≤ r) (h : r ≤ s) (hs : s ≤ 3) : upf m neg odd r = true → upf m neg odd s = true := by
  unfold upf
  by_cases hr : r = 0
  · simp [hr]
  · have hs0 : s ≠ 0 := by omega
    simp only [hr, hs0, if_false]
    repeat' split
    all_goals first | (intro a; exact a) | skip
    · intro a
      simp only [Bool.or_eq_true, Bool.and_eq_true, decide_eq_true_eq] at a ⊢
      rcases a with a | ⟨a, b⟩
      · left; omega
      · by_cases h2 : s = 2
        · right; exact ⟨h2, b⟩
        · left; omega
    · simp only [decide_eq_true_eq]; omega
    · simp only [decide_eq_true_eq]; omega
theorem upf_zero (m : Int) (neg odd : Bool) : upf m neg odd 0 = false := by simp [upf]
theorem rnat_dvd (m : Int) (neg : Bool) (n u : Nat) : u ∣ rnat m neg n u := ⟨_, Nat.mul_comm _ _⟩
theorem rnat_mod (m : Int) (neg : Bool) (n u : Nat) : rnat m neg n u % u = 0 := Nat.mod_eq_zero_of_dvd (rnat_dvd ..)
/-- what is rounded lies at the multiple below, or at the next one -/
theorem rnat_cases (m : Int) (neg : Bool) (n u : Nat) :
    (upf m neg (decide (n / u % 2 = 1)) (restOf (n % u) u) = false ∧ rnat m neg n u = n - n % u) ∨
    (upf m neg (decide (n / u % 2 = 1)) (restOf (n % u) u) = true ∧ n % u ≠ 0 ∧ rnat m neg n u = n - n % u + u) := by
  have h := Nat.div_add_mod n u
  have h' : n / u * u = n - n % u := by rw [Nat.mul_comm]; omega
  unfold rnat
  cases e : upf m neg (decide (n / u % 2 = 1)) (restOf (n % u) u) with
  | false => left; simp [h']
  | true =>
    right
    refine ⟨rfl, ?_, ?_⟩
    · intro h0; rw [h0, show restOf 0 u = 0 by simp [restOf], upf_zero] at e; cases e
    · simp [Nat.add_mul, h']
theorem rnat_of_mod {m : Int} {neg : Bool} {n u : Nat} (h : n % u = 0) : rnat m neg n u = n := by
  rcases rnat_cases m neg n u with ⟨_, e⟩ | ⟨_, h', _⟩
  · omega
  · exact absurd h h'
theorem rnat_zero (m : Int) (neg : Bool) (u : Nat) : rnat m neg 0 u = 0 := rnat_of_mod (by simp)
theorem rnat_idem (m m' : Int) (neg neg' : Bool) (n u : Nat) : rnat m' neg' (rnat m neg n u) u = rnat m neg n u := rnat_of_mod (rnat_mod ..)
theorem rnat_mono (m : Int) (neg : Bool) {n k u : Nat} (h : n ≤ k) : rnat m neg n u ≤ rnat m neg k u := by
  have hd : n / u ≤ k / u := Nat.div_le_div_right h
  by_cases he : n / u = k / u
  · have h1 := Nat.div_add_mod n u
    have h2 := Nat.div_add_mod k u
    have hm : n % u ≤ k % u := by rw [he] at h1; omega
    unfold rnat
    rw [he]
    apply Nat.mul_le_mul_right
    have a := restOf_range (n % u) u
    have b := restOf_range (k % u) u
    have c := restOf_mono (u := u) hm
    have := upf_mono (m := m) (neg := neg) (odd := decide (k / u % 2 = 1)) a.1 c b.2
    split <;> split <;> simp_all
  · have : (n / u + 1) * u ≤ k / u * u := Nat.mul_le_mul_right _ (by omega)
    refine Nat.le_trans (m := (n / u + 1) * u) ?_ (Nat.le_trans this ?_)
    · unfold rnat; apply Nat.mul_le_mul_right; split <;> omega
    · unfold rnat; apply Nat.mul_le_mul_right; omega

theorem rnd_nonneg (m : Int) {x : Int} (h : 0 ≤ x) (u : Nat) : rnd m x u = rnat m false x.natAbs u := by
  unfold rnd sg; simp [show ¬ x < 0 by omega]
theorem rnd_neg (m : Int) {x : Int} (h : x < 0) (u : Nat) : rnd m x u = - (rnat m true x.natAbs u : Int) := by
  unfold rnd sg; simp [h]
theorem rnd_zero (m : Int) (u : Nat) : rnd m 0 u = 0 := by rw [rnd_nonneg m (by omega)]; simp [rnat_zero]
theorem rnd_dvd (m : Int) (x : Int) (u : Nat) : (u : Int) ∣ rnd m x u := by
  unfold rnd sg
  split
  · exact Int.dvd_neg.2 (Int.natCast_dvd_natCast.2 (rnat_dvd ..))
  · exact Int.natCast_dvd_natCast.2 (rnat_dvd ..)
theorem rnd_natAbs (m : Int) (x : Int) (u : Nat) : (rnd m x u).natAbs = rnat m (decide (x < 0)) x.natAbs u := sg_natAbs ..
theorem rnd_of_dvd {m x : Int} {u : Nat} (h : (u : Int) ∣ x) : rnd m x u = x := by
  have : x.natAbs % u = 0 := Nat.mod_eq_zero_of_dvd (Int.ofNat_dvd_left.1 h)
  unfold rnd
  rw [rnat_of_mod this, sg_of]
theorem rnd_idem (m m' x : Int) (u : Nat) : rnd m' (rnd m x u) u = rnd m x u := rnd_of_dvd (rnd_dvd ..)
theorem rnd_sign (m x : Int) (u : Nat) : (0 ≤ x → 0 ≤ rnd m x u) ∧ (x ≤ 0 → rnd m x u ≤ 0) := by
  constructor
  · intro h; rw [rnd_nonneg m h]; omega
  · intro h
    by_cases h' : x < 0
    · rw [rnd_neg m h']; omega
    · have : x = 0 := by omega
      subst this; rw [rnd_zero]; omega
theorem rnd_mono (m : Int) {x y : Int} {u : Nat} (h : x ≤ y) : rnd m x u ≤ rnd m y u := by
  by_cases hx : 0 ≤ x
  · rw [rnd_nonneg m hx, rnd_nonneg m (by omega)]
    have := rnat_mono m false (u := u) (n := x.natAbs) (k := y.natAbs) (by omega)
    omega
  · by_cases hy : 0 ≤ y
    · have a := (rnd_sign m x u).2 (by omega)
      have b := (rnd_sign m y u).1 hy
      omega
    · rw [rnd_neg m (by omega), rnd_neg m (by omega)]
      have := rnat_mono m true (u := u) (n := y.natAbs) (k := x.natAbs) (by omega)
      omega
end Go.Proofs.YtnpohgoacbpcjaaGreatDoor.FM
namespace Go.Proofs.YtnpohgoacbpcjaaGreatDoor.FM

theorem rnat_spec (m : Int) (neg : Bool) (n u : Nat) :
    (n % u = 0 ∧ rnat m neg n u = n) ∨
    (n % u ≠ 0 ∧ upf m neg (decide (n / u % 2 = 1)) (restOf (n % u) u) = false ∧ rnat m neg n u = n - n % u) ∨
    (n % u ≠ 0 ∧ upf m neg (decide (n / u % 2 = 1)) (restOf (n % u) u) = true ∧ rnat m neg n u = n - n % u + u) := by
  by_cases h : n % u = 0
  · exact .inl ⟨h, rnat_of_mod h⟩
  · rcases rnat_cases m neg n u with ⟨a, b⟩ | ⟨a, _, b⟩
    · exact .inr (.inl ⟨h, a, b⟩)
    · exact .inr (.inr ⟨h, a, b⟩)

/-- is r what x is rounded to, of the multiples of u, by a mode? -/
def RD (x r : Int) (u : Nat) (m : Int) : Prop :=
  (u : Int) ∣ r ∧ (x = r ∨ (¬ (u : Int) ∣ x ∧ (x - r).natAbs < u ∧
    (m = 3 → x.natAbs < r.natAbs) ∧
    (m = 4 → ¬ x.natAbs < r.natAbs) ∧
    (m = 5 → x - r < 0) ∧
    (m = 6 → ¬ x - r < 0) ∧
    (m = 1 → 2 * (x - r).natAbs < u ∨ (2 * (x - r).natAbs = u ∧ x.natAbs < r.natAbs)) ∧
    (m = 2 → 2 * (x - r).natAbs < u ∨ (2 * (x - r).natAbs = u ∧ ¬ x.natAbs < r.natAbs)) ∧
    (m = 0 → 2 * (x - r).natAbs < u ∨ (2 * (x - r).natAbs = u ∧ ((2 * u : Nat) : Int) ∣ r))))

theorem rest_one {r u : Nat} (h : r ≠ 0) : (restOf r u = 1 ↔ 2 * r < u) ∧ (restOf r u = 2 ↔ 2 * r = u) ∧ (restOf r u = 3 ↔ u < 2 * r) ∧ restOf r u ≠ 0 := by
  unfold restOf; rw [if_neg h]; repeat' split
  all_goals omega

theorem rnd_RD {m : Int} (hm0 : 0 ≤ m) (hm : m ≤ 6) (x : Int) {u : Nat} (hu : 0 < u) : RD x (rnd m x u) u m := by
  refine ⟨rnd_dvd .., ?_⟩
  have hlt := Nat.mod_lt x.natAbs hu
  have hle := Nat.mod_le x.natAbs u
  have hda := Nat.div_add_mod x.natAbs u
  rcases rnat_spec m (decide (x < 0)) x.natAbs u with ⟨h, _⟩ | ⟨h, hf, e⟩ | ⟨h, hf, e⟩
  · left
    rw [rnd_of_dvd]
    exact Int.ofNat_dvd_left.2 (Nat.dvd_of_mod_eq_zero h)
  · right
    have hr := rest_one (u := u) h
    have hnd : ¬ (u : Int) ∣ x := fun hd => h (Nat.mod_eq_zero_of_dvd (Int.ofNat_dvd_left.1 hd))
    have hR : (rnd m x u).natAbs = x.natAbs - x.natAbs % u := by rw [rnd_natAbs, e]
    have hs := rnd_sign m x u
    have hd : (x - rnd m x u).natAbs = x.natAbs % u := by omega
    refine ⟨hnd, by omega, fun hm => ?_, fun hm => by omega, fun hm => ?_, fun hm => ?_, fun hm => ?_, fun hm => ?_, fun hm => ?_⟩
    · subst hm; simp [upf, hr.2.2.2] at hf
    · subst hm; simp [upf, hr.2.2.2] at hf; omega
    · subst hm; simp [upf, hr.2.2.2] at hf; omega
    · subst hm; simp [upf, hr.2.2.2] at hf; rw [hd]; have := restOf_range (x.natAbs % u) u; omega
    · subst hm; simp [upf, hr.2.2.2] at hf; rw [hd]; have := restOf_range (x.natAbs % u) u; omega
    · subst hm
      rw [hd]
      by_cases h3 : 2 * (x.natAbs % u) < u
      · exact .inl h3
      · right
        have h4 : 2 * (x.natAbs % u) = u := by
          simp [upf, hr.2.2.2] at hf; omega
        refine ⟨h4, Int.ofNat_dvd_left.2 ?_⟩
        rw [hR]
        have hodd : x.natAbs / u % 2 = 0 := by
          simp [upf, hr.2.2.2] at hf
          have := hf.2 (hr.2.1.2 h4); omega
        refine ⟨x.natAbs / u / 2, ?_⟩
        have e2 : x.natAbs / u = 2 * (x.natAbs / u / 2) := by omega
        have : x.natAbs - x.natAbs % u = u * (x.natAbs / u) := by omega
        rw [this]; conv => lhs; rw [e2]
        rw [← Nat.mul_assoc, Nat.mul_comm u 2]
  · right
    have hr := rest_one (u := u) h
    have hnd : ¬ (u : Int) ∣ x := fun hd => h (Nat.mod_eq_zero_of_dvd (Int.ofNat_dvd_left.1 hd))
    have hR : (rnd m x u).natAbs = x.natAbs - x.natAbs % u + u := by rw [rnd_natAbs, e]
    have hs := rnd_sign m x u
    have hd : (x - rnd m x u).natAbs = u - x.natAbs % u := by omega
    refine ⟨hnd, by omega, fun hm => by omega, fun hm => ?_, fun hm => ?_, fun hm => ?_, fun hm => ?_, fun hm => ?_, fun hm => ?_⟩
    · subst hm; simp [upf, hr.2.2.2] at hf
    · subst hm; simp [upf, hr.2.2.2] at hf; omega
    · subst hm; simp [upf, hr.2.2.2] at hf; omega
    · subst hm; simp [upf, hr.2.2.2] at hf; rw [hd]; have := restOf_range (x.natAbs % u) u; omega
    · subst hm; simp [upf, hr.2.2.2] at hf; rw [hd]; have := restOf_range (x.natAbs % u) u; omega
    · subst hm
      rw [hd]
      by_cases h3 : u < 2 * (x.natAbs % u)
      · left; omega
      · right
        simp [upf, hr.2.2.2] at hf
        rcases hf with hf | ⟨h4, hodd⟩
        · omega
        have h4 := hr.2.1.1 h4
        refine ⟨by omega, Int.ofNat_dvd_left.2 ?_⟩
        rw [hR]
        refine ⟨(x.natAbs / u + 1) / 2, ?_⟩
        have e2 : x.natAbs / u + 1 = 2 * ((x.natAbs / u + 1) / 2) := by omega
        have : x.natAbs - x.natAbs % u + u = u * (x.natAbs / u + 1) := by rw [Nat.mul_add]; omega
        rw [this]; conv => lhs; rw [e2]
        rw [← Nat.mul_assoc, Nat.mul_comm u 2]

/-- the mode that does below nought what a mode does above it -/
def turned (m : Int) : Int := if m = 5 then 6 else if m = 6 then 5 else m
theorem upf_turned (m : Int) (neg odd : Bool) (r : Int) : upf (turned m) (!neg) odd r = upf m neg odd r := by
  unfold turned upf
  by_cases h5 : m = 5
  · subst h5; simp
  · by_cases h6 : m = 6
    · subst h6; simp
    · simp [h5, h6]
theorem rnat_turned (m : Int) (neg : Bool) (n u : Nat) : rnat (turned m) (!neg) n u = rnat m neg n u := by
  unfold rnat; rw [upf_turned]
theorem rnd_turned (m x : Int) (u : Nat) : rnd (turned m) (-x) u = - rnd m x u := by
  rcases Int.lt_trichotomy x 0 with h | h | h
  · rw [rnd_nonneg _ (by omega), rnd_neg _ h]
    have := rnat_turned m true x.natAbs u
    simp only [Bool.not_true] at this
    rw [Int.natAbs_neg, this]; simp
  · subst h; simp [rnd_zero]
  · rw [rnd_neg _ (by omega), rnd_nonneg _ (by omega)]
    have := rnat_turned m false x.natAbs u
    simp only [Bool.not_false] at this
    rw [Int.natAbs_neg, this]
/-- downward is no more, upward no less; what is rounded is one of both -/
theorem rnd_lo_hi (m x : Int) {u : Nat} (hu : 0 < u) : rnd 6 x u ≤ x ∧ x ≤ rnd 5 x u ∧ (rnd m x u = rnd 6 x u ∨ rnd m x u = rnd 5 x u) := by
  have hlt := Nat.mod_lt x.natAbs hu
  have hle := Nat.mod_le x.natAbs u
  have key : ∀ neg : Bool, (upf 6 neg (decide (x.natAbs / u % 2 = 1)) (restOf (x.natAbs % u) u) = (neg && decide (x.natAbs % u ≠ 0))) ∧ (upf 5 neg (decide (x.natAbs / u % 2 = 1)) (restOf (x.natAbs % u) u) = (!neg && decide (x.natAbs % u ≠ 0))) := by
    intro neg
    by_cases h : x.natAbs % u = 0
    · have : restOf (x.natAbs % u) u = 0 := by simp [restOf, h]
      rw [this]; simp [upf, h]
    · have := (rest_one (u := u) h).2.2.2
      simp [upf, this, h]
  by_cases hx : 0 ≤ x
  · simp only [rnd_nonneg _ hx]
    have k := key false
    rcases rnat_spec m false x.natAbs u with ⟨h, e⟩ | ⟨h, hf, e⟩ | ⟨h, hf, e⟩ <;>
    rcases rnat_spec 5 false x.natAbs u with ⟨h5, e5⟩ | ⟨h5, hf5, e5⟩ | ⟨h5, hf5, e5⟩ <;>
    rcases rnat_spec 6 false x.natAbs u with ⟨h6, e6⟩ | ⟨h6, hf6, e6⟩ | ⟨h6, hf6, e6⟩ <;>
    simp_all <;> omega
  · simp only [rnd_neg _ (show x < 0 by omega)]
    have k := key true
    rcases rnat_spec m true x.natAbs u with ⟨h, e⟩ | ⟨h, hf, e⟩ | ⟨h, hf, e⟩ <;>
    rcases rnat_spec 5 true x.natAbs u with ⟨h5, e5⟩ | ⟨h5, hf5, e5⟩ | ⟨h5, hf5, e5⟩ <;>
    rcases rnat_spec 6 true x.natAbs u with ⟨h6, e6⟩ | ⟨h6, hf6, e6⟩ | ⟨h6, hf6, e6⟩ <;>
    simp_all <;> omega
end Go.Proofs.YtnpohgoacbpcjaaGreatDoor.FM
namespace Go.Proofs.YtnpohgoacbpcjaaGreatDoor.FM
/-! digits from the end on -/
theorem get_digit {l : List UInt8} (h : Dig l) {i : Nat} (hi : i < l.length) : (l.getD (l.length - 1 - i) 0).toNat - 48 = nvl l / 10 ^ i % 10 := by
  have hj : l.length - 1 - i < l.length := by omega
  have e : l = l.take (l.length - 1 - i) ++ l[l.length - 1 - i] :: l.drop (l.length - 1 - i + 1) := by
    rw [List.getElem_cons_drop, List.take_append_drop]
  rw [List.getD_eq_getElem?_getD, List.getElem?_eq_getElem hj, Option.getD_some]
  have hc := h l[l.length - 1 - i] (List.getElem_mem hj)
  obtain ⟨c, hcc⟩ : ∃ c, l[l.length - 1 - i] = c := ⟨_, rfl⟩
  rw [hcc] at e hc ⊢
  have hd : Dig (l.drop (l.length - 1 - i + 1)) := h.drop _
  have hlen : (l.drop (l.length - 1 - i + 1)).length = i := by rw [List.length_drop]; omega
  have hlt := nvl_lt hd
  rw [hlen] at hlt
  have hp : 0 < 10 ^ i := Nat.pow_pos (by omega)
  have hv : nvl l = 10 ^ i * (10 * nvl (l.take (l.length - 1 - i)) + (c.toNat - 48)) + nvl (l.drop (l.length - 1 - i + 1)) := by
    conv => lhs; rw [e]
    rw [nvl_append, nvl_cons, List.length_cons, hlen, Nat.pow_succ, Nat.mul_add, Nat.add_assoc]
    rw [show nvl (l.take (l.length - 1 - i)) * (10 ^ i * 10) = 10 ^ i * (10 * nvl (l.take (l.length - 1 - i))) by
      rw [Nat.mul_comm, Nat.mul_assoc]]
    rw [Nat.mul_comm (c.toNat - 48)]
  rw [hv, Nat.mul_add_div hp, Nat.div_eq_of_lt hlt]
  omega
theorem digit_beyond {l : List UInt8} (h : Dig l) {i : Nat} (hi : l.length ≤ i) : nvl l / 10 ^ i = 0 := by
  apply Nat.div_eq_of_lt
  exact Nat.lt_of_lt_of_le (nvl_lt h) (Nat.pow_le_pow_right (by omega) hi)

/-- what bytes tell that were found from the end on -/
def rvi (l : List Int) : Nat := l.foldr (fun c a => (c - 48).toNat + 10 * a) 0
def DI (l : List Int) : Prop := ∀ c ∈ l, 48 ≤ c ∧ c ≤ 57
theorem rvi_append (a b : List Int) : rvi (a ++ b) = rvi a + 10 ^ a.length * rvi b := by
  induction a with
  | nil => simp [rvi]
  | cons c a ih =>
    have e : rvi (c :: a ++ b) = (c - 48).toNat + 10 * rvi (a ++ b) := rfl
    have e2 : rvi (c :: a) = (c - 48).toNat + 10 * rvi a := rfl
    rw [e, e2, ih, List.length_cons, Nat.pow_succ, Nat.mul_add, Nat.mul_comm (10 ^ a.length) 10, Nat.mul_assoc]; omega
theorem rvi_snoc (a : List Int) (c : Int) : rvi (a ++ [c]) = rvi a + 10 ^ a.length * (c - 48).toNat := by
  rw [rvi_append]; simp [rvi]
theorem DI.snoc {a : List Int} {c : Int} (h : DI a) (h1 : 48 ≤ c) (h2 : c ≤ 57) : DI (a ++ [c]) := by
  intro x hx
  rcases List.mem_append.1 hx with hx | hx
  · exact h x hx
  · rw [List.mem_singleton] at hx; subst hx; exact ⟨h1, h2⟩
theorem DI.nil : DI [] := by intro c h; cases h
/-- their text -/
def bytesR (l : List Int) : List UInt8 := l.reverse.map fun n => UInt8.ofNat n.toNat
theorem bytesR_dig {l : List Int} (h : DI l) : Dig (bytesR l) := by
  intro c hc
  obtain ⟨n, hn, rfl⟩ := List.mem_map.1 hc
  have := h n (List.mem_reverse.1 hn)
  rw [ofNat_toNat (by omega)]; omega
theorem bytesR_nvl {l : List Int} (h : DI l) : nvl (bytesR l) = rvi l := by
  induction l with
  | nil => rfl
  | cons c l ih =>
    have e : bytesR (c :: l) = bytesR l ++ [UInt8.ofNat c.toNat] := by simp [bytesR]
    have hc := h c List.mem_cons_self
    rw [e, nvl_snoc, ih (fun x hx => h x (List.mem_cons_of_mem _ hx)), ofNat_toNat (by omega)]
    show _ = (c - 48).toNat + 10 * rvi l
    omega
/-- a row of a length of which the last ones are laid -/
theorem set_row (l : List Int) (i : Nat) (hi : i < l.length) :
    (List.replicate (l.length - i) 0 ++ (l.take i).reverse).set (l.length - 1 - i) (l.getD i 0) = List.replicate (l.length - (i + 1)) 0 ++ (l.take (i + 1)).reverse := by
  have e1 : l.length - i = (l.length - 1 - i) + 1 := by omega
  rw [e1, List.replicate_succ', List.append_assoc, List.set_append_right _ _ (by simp), List.length_replicate, Nat.sub_self]
  rw [List.take_succ_eq_append_getElem hi, List.reverse_append, List.getD_eq_getElem?_getD, List.getElem?_eq_getElem hi]
  simp
  omega
end Go.Proofs.YtnpohgoacbpcjaaGreatDoor.FM
namespace Go.Proofs.YtnpohgoacbpcjaaGreatDoor.FM
/-- -1, 0 or 1 -/
def cmpN (a b : Nat) : Int := if a < b then -1 else if b < a then 1 else 0
theorem cmpN_swap (a b : Nat) : cmpN a b = - cmpN b a := by
  unfold cmpN
  repeat' split
  all_goals omega
theorem cmpN_zero {a b : Nat} : cmpN a b = 0 ↔ a = b := by
  unfold cmpN
  repeat' split
  all_goals omega
theorem cmpN_neg {a b : Nat} : cmpN a b < 0 ↔ a < b := by
  unfold cmpN
  repeat' split
  all_goals omega
theorem cmpN_range (a b : Nat) : -1 ≤ cmpN a b ∧ cmpN a b ≤ 1 := by
  unfold cmpN
  repeat' split
  all_goals omega
theorem len_lt {a b : Nat} (h : (mkl a).length < (mkl b).length) : a < b := by
  rcases Nat.lt_or_ge a b with h' | h'
  · exact h'
  · have := mkl_length_mono h'; omega
/-- numbers so many digits long -/
theorem head_lt {c d : UInt8} {a b : List UInt8} (hd : Dig a) (hl : a.length = b.length) (h1 : 48 ≤ c.toNat) (h : c.toNat < d.toNat) : nvl (c :: a) < nvl (d :: b) := by
  rw [nvl_cons, nvl_cons, hl]
  have h2 := nvl_lt hd
  rw [hl] at h2
  have h3 : (c.toNat - 48 + 1) * 10 ^ b.length ≤ (d.toNat - 48) * 10 ^ b.length := Nat.mul_le_mul_right _ (by omega)
  rw [Nat.add_mul, Nat.one_mul] at h3
  omega

/-- what is left: one place more -/
theorem sub_step_math {na nb i x y c r q : Nat} (hx : na / 10 ^ i % 10 = x) (hy : nb / 10 ^ i % 10 = y) (hv : r + nb % 10 ^ i = na % 10 ^ i + 10 ^ i * c) (q1 : Nat) (hq : q + y + c = x + 10 * q1) :
    r + 10 ^ i * q + nb % 10 ^ (i + 1) = na % 10 ^ (i + 1) + 10 ^ (i + 1) * q1 := by
  rw [Nat.mod_pow_succ, Nat.mod_pow_succ, hx, hy, Nat.pow_succ]
  have e : 10 ^ i * (q + y + c) = 10 ^ i * x + 10 ^ i * 10 * q1 := by rw [hq, Nat.mul_add, Nat.mul_assoc]
  have e2 : 10 ^ i * (q + y + c) = 10 ^ i * q + 10 ^ i * y + 10 ^ i * c := by rw [Nat.mul_add, Nat.mul_add]
  omega
theorem rvi_lt {l : List Int} (h : DI l) : rvi l < 10 ^ l.length := by
  have h1 := nvl_lt (bytesR_dig h)
  rw [bytesR_nvl h] at h1
  simpa [bytesR] using h1
theorem sub_end_math {na nb n c r : Nat} (hr : r < 10 ^ n) (ha : na < 10 ^ n) (hb : nb < 10 ^ n) (hle : nb ≤ na) (hc : c ≤ 1) (hv : r + nb % 10 ^ n = na % 10 ^ n + 10 ^ n * c) : r = na - nb := by
  rw [Nat.mod_eq_of_lt ha, Nat.mod_eq_of_lt hb] at hv
  rcases Nat.eq_zero_or_pos c with rfl | h
  · rw [Nat.mul_zero] at hv; omega
  · obtain rfl : c = 1 := by omega
    rw [Nat.mul_one] at hv; omega

/-- how often a number goes into digits, digit by digit -/
theorem div_step_math {m r d v o : Nat} (hm : 0 < m) (hr : r < m) (hd : d ≤ 9) (hv : o * m + r = v) :
    (10 * r + d) / m ≤ 9 ∧ (10 * o + (10 * r + d) / m) * m + (10 * r + d) % m = 10 * v + d := by
  constructor
  · have : (10 * r + d) / m < 10 := (Nat.div_lt_iff_lt_mul hm).2 (by omega)
    omega
  · have e := Nat.div_add_mod (10 * r + d) m
    rw [Nat.add_mul, Nat.mul_assoc, Nat.mul_comm ((10 * r + d) / m) m]
    omega
end Go.Proofs.YtnpohgoacbpcjaaGreatDoor.FM
