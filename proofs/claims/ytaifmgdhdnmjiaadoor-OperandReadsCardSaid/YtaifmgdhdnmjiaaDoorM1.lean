namespace Go.Proofs.YtaifmgdhdnmjiaaDoor.FM
abbrev B := UInt8

/-- the value of digits -/
def nvl (l : List UInt8) : Nat := l.foldl (fun a c => 10 * a + (c.toNat - 48)) 0
def Dig (l : List UInt8) : Prop := ∀ c ∈ l, 48 ≤ c.toNat ∧ c.toNat ≤ 57
instance (l : List UInt8) : Decidable (Dig l) := inferInstanceAs (Decidable (∀ c ∈ l, 48 ≤ c.toNat ∧ c.toNat ≤ 57))

theorem foldl_shift (l : List UInt8) (a : Nat) : l.foldl (fun a c => 10 * a + (c.toNat - 48)) a = a * 10 ^ l.length + nvl l := by
  induction l generalizing a with
  | nil => simp [nvl]
  | cons c l ih =>
    simp only [nvl, List.foldl_cons, List.length_cons]
    rw [ih, ih (10 * 0 + _)]
    simp only [Nat.mul_zero, Nat.zero_add, Nat.pow_succ]
    rw [Nat.add_mul, Nat.add_assoc]
    congr 1
    rw [Nat.mul_comm 10 a, Nat.mul_assoc, Nat.mul_comm 10]

@[simp] theorem nvl_nil : nvl [] = 0 := rfl
theorem nvl_append (a b : List UInt8) : nvl (a ++ b) = nvl a * 10 ^ b.length + nvl b := by
  unfold nvl; rw [List.foldl_append, foldl_shift]; rfl
theorem nvl_cons (c : UInt8) (l : List UInt8) : nvl (c :: l) = (c.toNat - 48) * 10 ^ l.length + nvl l := by
  have := nvl_append [c] l
  simpa [nvl] using this
theorem nvl_snoc (l : List UInt8) (c : UInt8) : nvl (l ++ [c]) = 10 * nvl l + (c.toNat - 48) := by
  rw [nvl_append]; simp [nvl]; omega

theorem Dig.nil : Dig [] := by intro c h; cases h
theorem Dig.append {a b : List UInt8} (ha : Dig a) (hb : Dig b) : Dig (a ++ b) := by
  intro c h; rcases List.mem_append.1 h with h | h; exact ha c h; exact hb c h
theorem Dig.of_append_left {a b : List UInt8} (h : Dig (a ++ b)) : Dig a := fun c hc => h c (List.mem_append.2 (.inl hc))
theorem Dig.of_append_right {a b : List UInt8} (h : Dig (a ++ b)) : Dig b := fun c hc => h c (List.mem_append.2 (.inr hc))
theorem dig_append {a b : List UInt8} : Dig (a ++ b) ↔ Dig a ∧ Dig b := ⟨fun h => ⟨h.of_append_left, h.of_append_right⟩, fun h => h.1.append h.2⟩
theorem dig_cons {c : UInt8} {b : List UInt8} : Dig (c :: b) ↔ (48 ≤ c.toNat ∧ c.toNat ≤ 57) ∧ Dig b := by
  unfold Dig; simp [List.mem_cons]
theorem Dig.take {a : List UInt8} (h : Dig a) (n : Nat) : Dig (a.take n) := fun c hc => h c (List.mem_of_mem_take hc)
theorem Dig.drop {a : List UInt8} (h : Dig a) (n : Nat) : Dig (a.drop n) := fun c hc => h c (List.mem_of_mem_drop hc)

theorem nvl_lt {l : List UInt8} (h : Dig l) : nvl l < 10 ^ l.length := by
  induction l with
  | nil => simp
  | cons c l ih =>
    rw [dig_cons] at h
    have := ih h.2
    rw [nvl_cons, List.length_cons, Nat.pow_succ]
    have h9 : (c.toNat - 48) * 10 ^ l.length ≤ 9 * 10 ^ l.length := Nat.mul_le_mul_right _ (by omega)
    omega

/-- the digits of a number; none of nought -/
def mkl (n : Nat) : List UInt8 := if _h : n = 0 then [] else mkl (n / 10) ++ [UInt8.ofNat (48 + n % 10)]
  termination_by n
  decreasing_by omega

@[simp] theorem mkl_zero : mkl 0 = [] := by unfold mkl; simp
theorem mkl_pos {n : Nat} (h : 0 < n) : mkl n = mkl (n / 10) ++ [UInt8.ofNat (48 + n % 10)] := by
  rw [mkl]; rw [dif_neg (by omega)]
theorem ofNat_toNat {n : Nat} (h : n < 256) : (UInt8.ofNat n).toNat = n := by simp; omega
theorem dig_mkl (n : Nat) : Dig (mkl n) := by
  induction n using Nat.strongRecOn with
  | ind n ih =>
    rcases Nat.eq_zero_or_pos n with rfl | h
    · simp [Dig.nil]
    · rw [mkl_pos h]
      refine (ih _ (by omega)).append ?_
      rw [dig_cons, ofNat_toNat (by omega)]
      exact ⟨by omega, Dig.nil⟩
@[simp] theorem nvl_mkl (n : Nat) : nvl (mkl n) = n := by
  induction n using Nat.strongRecOn with
  | ind n ih =>
    rcases Nat.eq_zero_or_pos n with rfl | h
    · simp
    · rw [mkl_pos h, nvl_snoc, ih _ (by omega), ofNat_toNat (by omega)]; omega
theorem mkl_inj {a b : Nat} : mkl a = mkl b ↔ a = b := ⟨fun h => by rw [← nvl_mkl a, h, nvl_mkl], fun h => by rw [h]⟩
theorem mkl_eq_nil {a : Nat} : mkl a = [] ↔ a = 0 := by rw [← mkl_zero, mkl_inj]
theorem mkl_length_le {n k : Nat} : (mkl n).length ≤ k ↔ n < 10 ^ k := by
  induction k generalizing n with
  | zero => simp [List.length_eq_zero_iff, mkl_eq_nil]
  | succ k ih =>
    rcases Nat.eq_zero_or_pos n with rfl | h
    · simp [Nat.pow_pos]
    · rw [mkl_pos h, List.length_append, List.length_singleton, Nat.add_le_add_iff_right, ih, Nat.pow_succ]
      omega
theorem lt_pow_length (n : Nat) : n < 10 ^ (mkl n).length := mkl_length_le.1 (Nat.le_refl _)
theorem pow_length_le {n : Nat} (h : 0 < n) : 10 ^ ((mkl n).length - 1) ≤ n := by
  have h1 : ¬ (mkl n).length ≤ (mkl n).length - 1 := by
    have : (mkl n).length ≠ 0 := by rw [Ne, List.length_eq_zero_iff, mkl_eq_nil]; omega
    omega
  rw [mkl_length_le] at h1; omega
theorem mkl_length_mono {a b : Nat} (h : a ≤ b) : (mkl a).length ≤ (mkl b).length := by
  rw [mkl_length_le]; exact Nat.lt_of_le_of_lt h (lt_pow_length b)
theorem mkl_length_eq {n k : Nat} (h1 : 10 ^ k ≤ n) (h2 : n < 10 ^ (k + 1)) : (mkl n).length = k + 1 := by
  have a : (mkl n).length ≤ k + 1 := mkl_length_le.2 h2
  have b : ¬ (mkl n).length ≤ k := by rw [mkl_length_le]; omega
  omega

/-- no nought ahead -/
def Bare (l : List UInt8) : Prop := l.head? ≠ some 48
theorem bare_mkl (n : Nat) : Bare (mkl n) := by
  induction n using Nat.strongRecOn with
  | ind n ih =>
    unfold Bare
    rcases Nat.eq_zero_or_pos n with rfl | h
    · simp
    · rw [mkl_pos h, List.head?_append]
      cases e : (mkl (n / 10)).head? with
      | none =>
        have h0 : n / 10 = 0 := by rw [← mkl_eq_nil]; exact List.head?_eq_none_iff.1 e
        simp
        intro hc
        have := congrArg UInt8.toNat hc
        rw [ofNat_toNat (by omega)] at this
        simp at this
        omega
      | some c =>
        have := ih (n / 10) (by omega)
        unfold Bare at this
        rw [e] at this
        simpa using this
theorem mkl_nvl {l : List UInt8} (h : Dig l) (hb : Bare l) : mkl (nvl l) = l := by
  suffices H : ∀ k (l : List UInt8), l.length = k → Dig l → Bare l → mkl (nvl l) = l from H _ l rfl h hb
  intro k
  induction k with
  | zero => intro l hl _ _; obtain rfl := List.eq_nil_of_length_eq_zero hl; simp
  | succ k ih =>
    intro l hl h hb
    obtain ⟨t, c, rfl⟩ : ∃ t c, l = t ++ [c] := ⟨l.dropLast, l.getLast (by intro e; simp [e] at hl), (List.dropLast_concat_getLast _).symm⟩
    have hl' : t.length = k := by simpa using hl
    have ⟨ht, hc⟩ := dig_append.1 h
    rw [dig_cons] at hc
    have hbt : Bare t := by
      unfold Bare at hb ⊢
      cases t with
      | nil => simp
      | cons d t => simpa using hb
    have e1 := ih t hl' ht hbt
    rw [nvl_snoc]
    have hpos : 0 < 10 * nvl t + (c.toNat - 48) := by
      cases t with
      | nil =>
        have : c ≠ 48 := by simpa [Bare] using hb
        have : c.toNat ≠ 48 := fun e => this (UInt8.toNat_inj.1 (by simpa using e))
        simp; omega
      | cons d t =>
        have : nvl (d :: t) ≠ 0 := by
          intro e; rw [e] at e1; simp at e1
        omega
    rw [mkl_pos hpos]
    have h1 : (10 * nvl t + (c.toNat - 48)) / 10 = nvl t := by omega
    have h2 : (10 * nvl t + (c.toNat - 48)) % 10 = c.toNat - 48 := by omega
    rw [h1, h2, e1]
    congr 2
    apply UInt8.toNat_inj.1
    rw [ofNat_toNat (by omega)]; omega
/-- digits without noughts ahead -/
def bare (l : List UInt8) : List UInt8 := l.dropWhile (· == 48)
theorem nvl_bare (l : List UInt8) : nvl (bare l) = nvl l := by
  induction l with
  | nil => rfl
  | cons c l ih =>
    unfold bare at ih ⊢
    rw [List.dropWhile_cons]
    split
    · rename_i h
      have : c = 48 := by simpa using h
      subst this
      rw [ih, nvl_cons]; simp
    · rfl
theorem dig_bare {l : List UInt8} (h : Dig l) : Dig (bare l) := fun c hc => h c ((List.dropWhile_sublist _).subset hc)
theorem bare_bare (l : List UInt8) : Bare (bare l) := by
  unfold Bare bare
  induction l with
  | nil => simp
  | cons c l ih =>
    rw [List.dropWhile_cons]
    split
    · exact ih
    · rename_i h; simpa using h
theorem bare_eq {l : List UInt8} (h : Dig l) : bare l = mkl (nvl l) := by
  rw [← nvl_bare, mkl_nvl (dig_bare h) (bare_bare l)]
theorem dig_eq_of {a b : List UInt8} (ha : Dig a) (hb : Dig b) (hl : a.length = b.length) (h : nvl a = nvl b) : a = b := by
  induction a generalizing b with
  | nil => exact (List.eq_nil_of_length_eq_zero hl.symm).symm
  | cons c a ih =>
    cases b with
    | nil => simp at hl
    | cons d b =>
      rw [dig_cons] at ha hb
      simp at hl
      rw [nvl_cons, nvl_cons, hl] at h
      have h1 := nvl_lt ha.2
      have h2 := nvl_lt hb.2
      rw [hl] at h1
      have hp : 0 < 10 ^ b.length := Nat.pow_pos (by omega)
      have key : c.toNat - 48 = d.toNat - 48 := by
        have e1 : ((c.toNat - 48) * 10 ^ b.length + nvl a) / 10 ^ b.length = c.toNat - 48 := by
          rw [Nat.mul_comm, Nat.mul_add_div hp, Nat.div_eq_of_lt h1]; rfl
        have e2 : ((d.toNat - 48) * 10 ^ b.length + nvl b) / 10 ^ b.length = d.toNat - 48 := by
          rw [Nat.mul_comm, Nat.mul_add_div hp, Nat.div_eq_of_lt h2]; rfl
        rw [← e1, h, e2]
      have hcd : c = d := UInt8.toNat_inj.1 (by omega)
      subst hcd
      rw [ih ha.2 hb.2 hl (by omega)]
end Go.Proofs.YtaifmgdhdnmjiaaDoor.FM
