import Derived.Test.YtaifmgdhdnmjiaaDoorM5
namespace Go.Proofs.YtaifmgdhdnmjiaaDoor.FM
/-! digits from the end on -/
theorem get_digit {l : List UInt8} (h : Dig l) {i : Nat} (hi : i < l.length) : (l.getD (l.length - 1 - i) 0).toNat - 48 = nvl l / 10 ^ i % 10 := by
  have hj : l.length - 1 - i < l.length := by omega
  have e : l = l.take (l.length - 1 - i) ++ l[l.length - 1 - i] :: l.drop (l.length - 1 - i + 1) := by
    rw [List.getElem_cons_drop, List.take_append_drop]
  rw [List.getD_eq_getElem?_getD, List.getElem?_eq_getElem hj, Option.getD_some]
  have hc := h l[l.length - 1 - i] (List.getElem_mem hj)
  obtain ⟨c, hcc⟩ : ∃ c, l[l.length - 1 - i] = c := ⟨_, rfl⟩
  rw [hcc] at e hc ⊢
  have hd : Dig (l.drop (l.length - 1 - i + 1)) := h.drop _
  have hlen : (l.drop (l.length - 1 - i + 1)).length = i := by rw [List.length_drop]; omega
  have hlt := nvl_lt hd
  rw [hlen] at hlt
  have hp : 0 < 10 ^ i := Nat.pow_pos (by omega)
  have hv : nvl l = 10 ^ i * (10 * nvl (l.take (l.length - 1 - i)) + (c.toNat - 48)) + nvl (l.drop (l.length - 1 - i + 1)) := by
    conv => lhs; rw [e]
    rw [nvl_append, nvl_cons, List.length_cons, hlen, Nat.pow_succ, Nat.mul_add, Nat.add_assoc]
    rw [show nvl (l.take (l.length - 1 - i)) * (10 ^ i * 10) = 10 ^ i * (10 * nvl (l.take (l.length - 1 - i))) by
      rw [Nat.mul_comm, Nat.mul_assoc]]
    rw [Nat.mul_comm (c.toNat - 48)]
  rw [hv, Nat.mul_add_div hp, Nat.div_eq_of_lt hlt]
  omega
theorem digit_beyond {l : List UInt8} (h : Dig l) {i : Nat} (hi : l.length ≤ i) : nvl l / 10 ^ i = 0 := by
  apply Nat.div_eq_of_lt
  exact Nat.lt_of_lt_of_le (nvl_lt h) (Nat.pow_le_pow_right (by omega) hi)

/-- what bytes tell that were found from the end on -/
def rvi (l : List Int) : Nat := l.foldr (fun c a => (c - 48).toNat + 10 * a) 0
def DI (l : List Int) : Prop := ∀ c ∈ l, 48 ≤ c ∧ c ≤ 57
theorem rvi_append (a b : List Int) : rvi (a ++ b) = rvi a + 10 ^ a.length * rvi b := by
  induction a with
  | nil => simp [rvi]
  | cons c a ih =>
    have e : rvi (c :: a ++ b) = (c - 48).toNat + 10 * rvi (a ++ b) := rfl
    have e2 : rvi (c :: a) = (c - 48).toNat + 10 * rvi a := rfl
    rw [e, e2, ih, List.length_cons, Nat.pow_succ, Nat.mul_add, Nat.mul_comm (10 ^ a.length) 10, Nat.mul_assoc]; omega
theorem rvi_snoc (a : List Int) (c : Int) : rvi (a ++ [c]) = rvi a + 10 ^ a.length * (c - 48).toNat := by
  rw [rvi_append]; simp [rvi]
theorem DI.snoc {a : List Int} {c : Int} (h : DI a) (h1 : 48 ≤ c) (h2 : c ≤ 57) : DI (a ++ [c]) := by
  intro x hx
  rcases List.mem_append.1 hx with hx | hx
  · exact h x hx
  · rw [List.mem_singleton] at hx; subst hx; exact ⟨h1, h2⟩
theorem DI.nil : DI [] := by intro c h; cases h
/-- their text -/
def bytesR (l : List Int) : List UInt8 := l.reverse.map fun n => UInt8.ofNat n.toNat
theorem bytesR_dig {l : List Int} (h : DI l) : Dig (bytesR l) := by
  intro c hc
  obtain ⟨n, hn, rfl⟩ := List.mem_map.1 hc
  have := h n (List.mem_reverse.1 hn)
  rw [ofNat_toNat (by omega)]; omega
theorem bytesR_nvl {l : List Int} (h : DI l) : nvl (bytesR l) = rvi l := by
  induction l with
  | nil => rfl
  | cons c l ih =>
    have e : bytesR (c :: l) = bytesR l ++ [UInt8.ofNat c.toNat] := by simp [bytesR]
    have hc := h c List.mem_cons_self
    rw [e, nvl_snoc, ih (fun x hx => h x (List.mem_cons_of_mem _ hx)), ofNat_toNat (by omega)]
    show _ = (c - 48).toNat + 10 * rvi l
    omega
/-- a row of a length of which the last ones are laid -/
theorem set_row (l : List Int) (i : Nat) (hi : i < l.length) :
    (List.replicate (l.length - i) 0 ++ (l.take i).reverse).set (l.length - 1 - i) (l.getD i 0) = List.replicate (l.length - (i + 1)) 0 ++ (l.take (i + 1)).reverse := by
  have e1 : l.length - i = (l.length - 1 - i) + 1 := by omega
  rw [e1, List.replicate_succ', List.append_assoc, List.set_append_right _ _ (by simp), List.length_replicate, Nat.sub_self]
  rw [List.take_succ_eq_append_getElem hi, List.reverse_append, List.getD_eq_getElem?_getD, List.getElem?_eq_getElem hi]
  simp
  omega
end Go.Proofs.YtaifmgdhdnmjiaaDoor.FM
