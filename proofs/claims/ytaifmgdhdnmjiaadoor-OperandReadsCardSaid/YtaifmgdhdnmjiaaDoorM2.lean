import Derived.Test.YtaifmgdhdnmjiaaDoorM1
namespace Go.Proofs.YtaifmgdhdnmjiaaDoor.FM

/-- a number without noughts at the end, and how many there were -/
def st (n : Nat) : Nat × Nat := if h : n % 10 = 0 ∧ 0 < n then ((st (n / 10)).1, (st (n / 10)).2 + 1) else (n, 0)
  termination_by n
  decreasing_by all_goals omega

theorem st_zero : st 0 = (0, 0) := by rw [st]; simp
theorem st_of {n : Nat} (h : n % 10 ≠ 0) : st n = (n, 0) := by rw [st]; rw [dif_neg (by omega)]
theorem st_step {n : Nat} (h : 0 < n) : st (10 * n) = ((st n).1, (st n).2 + 1) := by
  rw [st, dif_pos ⟨by omega, by omega⟩]
  have : 10 * n / 10 = n := by omega
  rw [this]
theorem st_eq (n : Nat) : n = (st n).1 * 10 ^ (st n).2 := by
  induction n using Nat.strongRecOn with
  | ind n ih =>
    by_cases h : n % 10 = 0 ∧ 0 < n
    · obtain ⟨m, rfl⟩ : ∃ m, n = 10 * m := ⟨n / 10, by omega⟩
      rw [st_step (by omega)]
      have := ih m (by omega)
      simp only [Nat.pow_succ]
      rw [← Nat.mul_assoc, ← this]; omega
    · rw [st, dif_neg h]; simp
theorem st_mod {n : Nat} (h : 0 < n) : (st n).1 % 10 ≠ 0 := by
  induction n using Nat.strongRecOn with
  | ind n ih =>
    by_cases h' : n % 10 = 0
    · obtain ⟨m, rfl⟩ : ∃ m, n = 10 * m := ⟨n / 10, by omega⟩
      rw [st_step (by omega)]
      exact ih m (by omega) (by omega)
    · rw [st_of h']; exact h'
theorem st_pos {n : Nat} (h : 0 < n) : 0 < (st n).1 := by have := st_mod h; omega
/-- the parts are told by the number -/
theorem st_uniq {m k : Nat} (h : m % 10 ≠ 0) : st (m * 10 ^ k) = (m, k) := by
  induction k with
  | zero => simp [st_of h]
  | succ k ih =>
    have : m * 10 ^ (k + 1) = 10 * (m * 10 ^ k) := by rw [Nat.pow_succ, ← Nat.mul_assoc, Nat.mul_comm]
    rw [this, st_step (Nat.mul_pos (by omega) (Nat.pow_pos (by omega))), ih]
theorem mul_pow_uniq {m m' k k' : Nat} (h : m % 10 ≠ 0) (h' : m' % 10 ≠ 0) (e : m * 10 ^ k = m' * 10 ^ k') : m = m' ∧ k = k' := by
  have a := st_uniq (k := k) h
  rw [e, st_uniq h'] at a
  injection a with a b
  exact ⟨a.symm, b.symm⟩
theorem st_le (n : Nat) : (st n).1 ≤ n := by
  conv => rhs; rw [st_eq n]
  exact Nat.le_mul_of_pos_right _ (Nat.pow_pos (by omega))

/-- noughts -/
def zs (k : Nat) : List UInt8 := List.replicate k 48
theorem dig_zs (k : Nat) : Dig (zs k) := by
  intro c hc; have := List.eq_of_mem_replicate hc; subst this; decide
@[simp] theorem zs_length (k : Nat) : (zs k).length = k := by simp [zs]
@[simp] theorem zs_zero : zs 0 = [] := rfl
theorem zs_succ (k : Nat) : zs (k + 1) = 48 :: zs k := rfl
@[simp] theorem nvl_zs (k : Nat) : nvl (zs k) = 0 := by
  induction k with
  | zero => rfl
  | succ k ih => rw [zs_succ, nvl_cons, ih]; simp
theorem zs_add (a b : Nat) : zs (a + b) = zs a ++ zs b := by simp [zs, List.replicate_append_replicate]
theorem nvl_append_zs (l : List UInt8) (k : Nat) : nvl (l ++ zs k) = nvl l * 10 ^ k := by rw [nvl_append]; simp
theorem nvl_zs_append (l : List UInt8) (k : Nat) : nvl (zs k ++ l) = nvl l := by rw [nvl_append]; simp
theorem mkl_mul_pow {n : Nat} (h : 0 < n) (k : Nat) : mkl (n * 10 ^ k) = mkl n ++ zs k := by
  have hb : Bare (mkl n ++ zs k) := by
    have := bare_mkl n
    unfold Bare at this ⊢
    cases e : mkl n with
    | nil => rw [mkl_eq_nil] at e; omega
    | cons c t => rw [e] at this; simpa using this
  have := mkl_nvl ((dig_mkl n).append (dig_zs k)) hb
  rw [nvl_append_zs, nvl_mkl] at this
  exact this

/-- without noughts at the end -/
def tr (l : List UInt8) : List UInt8 := (l.reverse.dropWhile (· == 48)).reverse
theorem tr_nil : tr [] = [] := rfl
theorem tr_snoc_zero (l : List UInt8) : tr (l ++ [48]) = tr l := by unfold tr; simp
theorem tr_snoc {l : List UInt8} {c : UInt8} (h : c ≠ 48) : tr (l ++ [c]) = l ++ [c] := by unfold tr; simp [h]
theorem snoc_induction {P : List UInt8 → Prop} (h0 : P []) (h1 : ∀ l c, P l → P (l ++ [c])) (l : List UInt8) : P l := by
  suffices H : ∀ k (l : List UInt8), l.length = k → P l from H _ l rfl
  intro k
  induction k with
  | zero => intro l hl; obtain rfl := List.eq_nil_of_length_eq_zero hl; exact h0
  | succ k ih =>
    intro l hl
    obtain ⟨t, c, rfl⟩ : ∃ t c, l = t ++ [c] := ⟨l.dropLast, l.getLast (by intro e; simp [e] at hl), (List.dropLast_concat_getLast _).symm⟩
    exact h1 t c (ih t (by simpa using hl))
theorem tr_eq (l : List UInt8) : l = tr l ++ zs (l.length - (tr l).length) ∧ (tr l).length ≤ l.length := by
  induction l using snoc_induction with
  | h0 => simp [tr_nil]
  | h1 l c ih =>
    by_cases h : c = 48
    · subst h
      rw [tr_snoc_zero]
      have e : (l ++ [48]).length - (tr l).length = l.length - (tr l).length + 1 := by have := ih.2; simp; omega
      rw [e, zs_add, ← List.append_assoc, ← ih.1]
      refine ⟨rfl, ?_⟩
      have := ih.2; simp; omega
    · rw [tr_snoc h]; simp
theorem tr_last (l : List UInt8) : (tr l).getLast? ≠ some 48 := by
  induction l using snoc_induction with
  | h0 => simp [tr_nil]
  | h1 l c ih =>
    by_cases h : c = 48
    · subst h; rw [tr_snoc_zero]; exact ih
    · rw [tr_snoc h]; simpa using h
theorem dig_tr {l : List UInt8} (h : Dig l) : Dig (tr l) := by
  rw [(tr_eq l).1] at h; exact h.of_append_left
theorem tr_append_zs (l : List UInt8) (k : Nat) : tr (l ++ zs k) = tr l := by
  induction k with
  | zero => simp
  | succ k ih => rw [zs_add, ← List.append_assoc]; exact (tr_snoc_zero _).trans ih
theorem tr_of_last {l : List UInt8} (h : l.getLast? ≠ some 48) : tr l = l := by
  induction l using snoc_induction with
  | h0 => rfl
  | h1 l c _ => exact tr_snoc (by simpa using h)
theorem mkl_last_ne {n : Nat} (h : n % 10 ≠ 0) : (mkl n).getLast? ≠ some 48 := by
  rw [mkl_pos (by omega)]
  simp
  intro hc
  have := congrArg UInt8.toNat hc
  rw [ofNat_toNat (by omega)] at this
  simp at this; omega
theorem tr_mkl {n : Nat} : tr (mkl n) = mkl (st n).1 := by
  rcases Nat.eq_zero_or_pos n with rfl | h
  · simp [st_zero, tr_nil]
  · conv => lhs; rw [st_eq n]
    rw [mkl_mul_pow (st_pos h), tr_append_zs, tr_of_last (mkl_last_ne (st_mod h))]
theorem mkl_len_st {n : Nat} (h : 0 < n) : (mkl n).length = (mkl (st n).1).length + (st n).2 := by
  conv => lhs; rw [st_eq n]
  rw [mkl_mul_pow (st_pos h)]; simp
end Go.Proofs.YtaifmgdhdnmjiaaDoor.FM
