import Derived.Test.YtnpohgoacbpcjaaGreatDoorMA
import Derived.Test.YtnpohgoacbpcjaaGreatDoorPx10
import Derived.Test.YtnpohgoacbpcjaaGreatDoorPx12
import Derived.Test.YtnpohgoacbpcjaaGreatDoorPx13
import Derived.Test.YtnpohgoacbpcjaaGreatDoorPx14
import Derived.Test.YtnpohgoacbpcjaaGreatDoorPx15
import Derived.Test.YtnpohgoacbpcjaaGreatDoorPx2
import Derived.Test.YtnpohgoacbpcjaaGreatDoorPx3
import Derived.Test.YtnpohgoacbpcjaaGreatDoorPx4
import Derived.Test.YtnpohgoacbpcjaaGreatDoorPx5
import Derived.Test.YtnpohgoacbpcjaaGreatDoorPx6
import Derived.Test.YtnpohgoacbpcjaaGreatDoorPx7
import Derived.Test.YtnpohgoacbpcjaaGreatDoorPx8
import Derived.Laws.BitsLemmas
namespace Go.Proofs.YtnpohgoacbpcjaaGreatDoor.P
open Go.RowKit Go.Proofs.YtnpohgoacbpcjaaGreatDoorW.PrintWords Go.Proofs.YtnpohgoacbpcjaaGreatDoorW.PrintLast Go.Proofs.YtnpohgoacbpcjaaGreatDoorW.PrintMore Go.Proofs.YtnpohgoacbpcjaaGreatDoor.FM
set_option linter.unusedVariables false
set_option linter.unusedSimpArgs false

/-! strings as lists of bytes -/
def S (l : List UInt8) : ByteArray := ⟨l.toArray⟩
theorem S_data (l : List UInt8) : (S l).data.toList = l := rfl
theorem S_of (s : ByteArray) : s = S s.data.toList := rfl
theorem S_size (l : List UInt8) : (S l).size = l.length := rfl
theorem S_toList (l : List UInt8) : (S l).toList = l := by rw [ByteArray.toList_eq]; rfl
theorem S_inj {a b : List UInt8} : S a = S b ↔ a = b := ⟨fun h => by have := congrArg (fun s : ByteArray => s.data.toList) h; exact this, fun h => by rw [h]⟩
theorem S_append (a b : List UInt8) : S a ++ S b = S (a ++ b) := by
  have h : (S a ++ S b).data.toList = a ++ b := by simp [S]
  rw [S_of (S a ++ S b), h]
theorem S_extract (l : List UInt8) (i j : Nat) : (S l).extract i j = S ((l.take j).drop i) := by
  have h : ((S l).extract i j).data.toList = (l.take j).drop i := by
    simp [S, ByteArray.data_extract, Array.toList_extract, List.drop_take]
  rw [S_of ((S l).extract i j), h]
theorem bt_S (l : List UInt8) (i : Int) : bt (S l) i = (l.getD i.toNat 0).toNat := by
  unfold bt
  have hs : (S l).size = l.length := rfl
  by_cases h : i.toNat < l.length
  · rw [dif_pos (by rw [hs]; exact h)]
    rw [List.getD_eq_getElem?_getD, List.getElem?_eq_getElem h]
    rfl
  · rw [dif_neg (by rw [hs]; exact h), List.getD_eq_getElem?_getD, List.getElem?_eq_none (by omega)]
    rfl
theorem w64 {x : Int} (h1 : -9223372036854775808 ≤ x) (h2 : x ≤ 9223372036854775807) : wrap64 x = x := by unfold wrap64; omega
theorem strOfNums_S (l : List Int) : strOfNums l = S (l.map fun n => UInt8.ofNat n.toNat) := rfl

/-- from some number of rounds on, whatever was asked first: a call that doesn't hang on the rounds -/
theorem Ev.const {α β : Type} {g : Option α} {f : Nat → α → Option β} {a : α} {r : β} (h : g = some a) (k : Ev (fun n => f n a) r) : Ev (fun n => g.bind (f n)) r := by
  subst h; exact k
theorem Ev.if_pos {α : Type} {c : Prop} [Decidable c] {a b : Nat → Option α} {r : α} (h : c) (k : Ev a r) : Ev (fun n => if c then a n else b n) r := by
  simpa only [_root_.if_pos h] using k
theorem Ev.if_neg {α : Type} {c : Prop} [Decidable c] {a b : Nat → Option α} {r : α} (h : ¬ c) (k : Ev b r) : Ev (fun n => if c then a n else b n) r := by
  simpa only [_root_.if_neg h] using k
theorem Ev.uniq {α : Type} {g : Nat → Option α} {a b : α} (h : Ev g a) (k : Ev g b) : a = b := by
  obtain ⟨K, h⟩ := h
  obtain ⟨K', k⟩ := k
  have h1 := h (max K K') (by omega)
  have h2 := k (max K K') (by omega)
  rw [h1] at h2; exact Option.some.inj h2

/-- a length that never wraps -/
abbrev Sm (l : List UInt8) : Prop := l.length ≤ 100000000000

end Go.Proofs.YtnpohgoacbpcjaaGreatDoor.P
namespace Go.Proofs.YtnpohgoacbpcjaaGreatDoor.P
open Go.RowKit Go.Proofs.YtnpohgoacbpcjaaGreatDoorW.PrintWords Go.Proofs.YtnpohgoacbpcjaaGreatDoorW.PrintLast Go.Proofs.YtnpohgoacbpcjaaGreatDoorW.PrintMore Go.Proofs.YtnpohgoacbpcjaaGreatDoor.FM
set_option linter.unusedVariables false
set_option linter.unusedSimpArgs false

theorem mx_len (a b : Nat) : mx (a : Int) (b : Int) = ((max a b : Nat) : Int) := by unfold mx; split <;> omega
theorem Dig.lt {l : List UInt8} (h : Dig l) (i : Nat) (hi : l.length ≤ i) : nvl l % 10 ^ i = nvl l :=
  Nat.mod_eq_of_lt (Nat.lt_of_lt_of_le (nvl_lt h) (Nat.pow_le_pow_right (by omega) hi))

theorem add_step_math {na nb i x y c r : Nat} (hx : na / 10 ^ i % 10 = x) (hy : nb / 10 ^ i % 10 = y) (hv : r + 10 ^ i * c = na % 10 ^ i + nb % 10 ^ i) :
    r + 10 ^ i * ((x + y + c) % 10) + 10 ^ (i + 1) * ((x + y + c) / 10) = na % 10 ^ (i + 1) + nb % 10 ^ (i + 1) := by
  rw [Nat.mod_pow_succ, Nat.mod_pow_succ, hx, hy, Nat.pow_succ]
  have e : 10 ^ i * ((x + y + c) % 10) + 10 ^ i * 10 * ((x + y + c) / 10) = 10 ^ i * (x + y + c) := by
    rw [Nat.mul_assoc, ← Nat.mul_add]; congr 1; omega
  have e2 : 10 ^ i * (x + y + c) = 10 ^ i * x + 10 ^ i * y + 10 ^ i * c := by rw [Nat.mul_add, Nat.mul_add]
  omega
theorem times_step_math {na i x m p c r : Nat} (hx : na / 10 ^ i % 10 = x) (hp : x * m = p) (hv : r + 10 ^ i * c = na % 10 ^ i * m) :
    r + 10 ^ i * ((p + c) % 10) + 10 ^ (i + 1) * ((p + c) / 10) = na % 10 ^ (i + 1) * m := by
  rw [Nat.mod_pow_succ, hx, Nat.pow_succ, Nat.add_mul, ← hv, Nat.mul_assoc (10 ^ i) x m, hp]
  have e : 10 ^ i * ((p + c) % 10) + 10 ^ i * 10 * ((p + c) / 10) = 10 ^ i * (p + c) := by
    rw [Nat.mul_assoc, ← Nat.mul_add]; congr 1; omega
  have e2 : 10 ^ i * (p + c) = 10 ^ i * p + 10 ^ i * c := by rw [Nat.mul_add]
  omega
theorem end_step_math {i c r v : Nat} (hv : r + 10 ^ i * c = v) : r + 10 ^ i * (c % 10) + 10 ^ (i + 1) * (c / 10) = v := by
  rw [Nat.pow_succ, ← hv]
  have e : 10 ^ i * (c % 10) + 10 ^ i * 10 * (c / 10) = 10 ^ i * c := by
    rw [Nat.mul_assoc, ← Nat.mul_add]; congr 1; omega
  omega

end Go.Proofs.YtnpohgoacbpcjaaGreatDoor.P
namespace Go.Proofs.YtnpohgoacbpcjaaGreatDoor.P
open Go.RowKit Go.Proofs.YtnpohgoacbpcjaaGreatDoorW.PrintWords Go.Proofs.YtnpohgoacbpcjaaGreatDoorW.PrintLast Go.Proofs.YtnpohgoacbpcjaaGreatDoorW.PrintMore Go.Proofs.YtnpohgoacbpcjaaGreatDoor.FM
set_option linter.unusedVariables false
set_option linter.unusedSimpArgs false

theorem d10 (c : Nat) : Int.tdiv (c : Int) 10 = ((c / 10 : Nat) : Int) := (Int.ofNat_tdiv c 10).symm
theorem m10 (c : Nat) : Int.tmod (c : Int) 10 = ((c % 10 : Nat) : Int) := (Int.ofNat_tmod c 10).symm
theorem byte10 (c : Nat) : (48 + ((c % 10 : Nat) : Int)) % 256 = ((48 + c % 10 : Nat) : Int) := by omega
theorem back10 (c : Nat) : (((48 + c % 10 : Nat) : Int) - 48).toNat = c % 10 := by omega
theorem snoc10 {l : List Int} (h : DI l) (c : Nat) : DI (l ++ [((48 + c % 10 : Nat) : Int)]) := h.snoc (by omega) (by omega)
theorem inc64 {i : Nat} (h : i ≤ 9000000000000000000) : wrap64 ((i : Int) + 1) = ((i + 1 : Nat) : Int) := by rw [w64 (by omega) (by omega)]; rfl
theorem nat64 {i : Nat} (h : i ≤ 9000000000000000000) : wrap64 (i : Int) = (i : Int) := w64 (by omega) (by omega)

end Go.Proofs.YtnpohgoacbpcjaaGreatDoor.P
namespace Go.Proofs.YtnpohgoacbpcjaaGreatDoor.P
open Go.RowKit Go.Proofs.YtnpohgoacbpcjaaGreatDoorW.PrintWords Go.Proofs.YtnpohgoacbpcjaaGreatDoorW.PrintLast Go.Proofs.YtnpohgoacbpcjaaGreatDoorW.PrintMore Go.Proofs.YtnpohgoacbpcjaaGreatDoor.FM
set_option linter.unusedVariables false
set_option linter.unusedSimpArgs false

end Go.Proofs.YtnpohgoacbpcjaaGreatDoor.P
namespace Go.Proofs.YtnpohgoacbpcjaaGreatDoor.P
open Go.RowKit Go.Proofs.YtnpohgoacbpcjaaGreatDoorW.PrintWords Go.Proofs.YtnpohgoacbpcjaaGreatDoorW.PrintLast Go.Proofs.YtnpohgoacbpcjaaGreatDoorW.PrintMore Go.Proofs.YtnpohgoacbpcjaaGreatDoor.FM
set_option linter.unusedVariables false
set_option linter.unusedSimpArgs false

theorem wf_u8 {x : Int} (h : (Lit.int .u8 x).wf = true) : 0 ≤ x ∧ x ≤ 255 := by
  simpa [Lit.wf, IntKind.min, IntKind.max, IntKind.signed, IntKind.bits] using h
theorem wf_i64 {x : Int} (h : (Lit.int .i64 x).wf = true) : -9223372036854775808 ≤ x ∧ x ≤ 9223372036854775807 := by
  simpa [Lit.wf, IntKind.min, IntKind.max, IntKind.signed, IntKind.bits] using h
/-- the digits of a number, by its text -/
theorem mkl_lit {n : Nat} (l : List UInt8) (h : nvl l = n) (hd : Dig l) (hb : Bare l) : mkl n = l := by rw [← h, mkl_nvl hd hb]
end Go.Proofs.YtnpohgoacbpcjaaGreatDoor.P
namespace Go.Proofs.YtnpohgoacbpcjaaGreatDoor.P
open Go.RowKit Go.Proofs.YtnpohgoacbpcjaaGreatDoorW.PrintWords Go.Proofs.YtnpohgoacbpcjaaGreatDoorW.PrintLast Go.Proofs.YtnpohgoacbpcjaaGreatDoorW.PrintMore Go.Proofs.YtnpohgoacbpcjaaGreatDoor.FM
set_option linter.unusedVariables false
set_option linter.unusedSimpArgs false

/-- the last bits of an int -/
theorem and64 (j : Nat) (hj : j ≤ 63) (n m : Int) (hm : (BitVec.ofInt 64 m).toNat = 2 ^ j - 1) : Go.bits .and .i64 n m = n % ((2 ^ j : Nat) : Int) := by
  have key : (BitVec.ofInt 64 n &&& BitVec.ofInt 64 m).toNat = (n % ((2 ^ 64 : Nat) : Int)).toNat % 2 ^ j := by
    rw [BitVec.toNat_and, BitVec.toNat_ofInt, hm, Nat.and_two_pow_sub_one_eq_mod]
  show IntKind.i64.wrap ((BitVec.ofInt 64 n &&& BitVec.ofInt 64 m).toNat : Nat) = _
  rw [key, IntKind.wrap_i64]
  have h1 : (n % ((2 ^ 64 : Nat) : Int)).toNat % 2 ^ j < 2 ^ 63 := Nat.lt_of_lt_of_le (Nat.mod_lt _ (Nat.pow_pos (by omega))) (Nat.pow_le_pow_right (by omega) hj)
  have h2 : (((n % ((2 ^ 64 : Nat) : Int)).toNat % 2 ^ j : Nat) : Int) = n % ((2 ^ j : Nat) : Int) := by
    rw [Int.natCast_emod, Int.toNat_of_nonneg (Int.emod_nonneg _ (by decide))]
    exact Int.emod_emod_of_dvd n (Int.natCast_dvd_natCast.2 (Nat.pow_dvd_pow 2 (by omega)))
  rw [← h2]
  have h3 : (2 : Nat) ^ 63 = 9223372036854775808 := by decide
  rw [h3] at h1
  clear h2 key hm
  omega
theorem Ev.yes {b : Bool} (h : b = true) : Ev (fun _ => some b) true := by rw [h]; exact Ev.now true
/-- the last bits, as a number -/
theorem low64 (j : Nat) (hj : j ≤ 63) (n m : Int) (hm : (BitVec.ofInt 64 m).toNat = 2 ^ j - 1) : ∃ x : Nat, Go.bits .and .i64 n m = x ∧ x < 2 ^ j := by
  rw [and64 j hj n m hm]
  have h1 := Int.emod_nonneg n (b := ((2 ^ j : Nat) : Int)) (by have := Nat.pow_pos (a := 2) (n := j) (by omega); omega)
  have h2 := Int.emod_lt_of_pos n (b := ((2 ^ j : Nat) : Int)) (by have := Nat.pow_pos (a := 2) (n := j) (by omega); omega)
  exact ⟨(n % ((2 ^ j : Nat) : Int)).toNat, by omega, by omega⟩
theorem nvl_take_le (l : List UInt8) (i : Nat) : nvl (l.take i) ≤ nvl l := by
  conv => rhs; rw [← List.take_append_drop i l, nvl_append]
  have : nvl (l.take i) * 1 ≤ nvl (l.take i) * 10 ^ (l.drop i).length := Nat.mul_le_mul_left _ (Nat.pow_pos (by omega))
  omega
theorem sm_le {l : List UInt8} {n : Nat} (h : l.length ≤ n) (hn : n ≤ 100000000000) : Sm l := Nat.le_trans h hn
theorem mkl_len_of {n k : Nat} (h : n < 10 ^ k) (hk : k ≤ 100000000000) : Sm (mkl n) := sm_le (mkl_length_le.2 h) hk
end Go.Proofs.YtnpohgoacbpcjaaGreatDoor.P
namespace Go.Proofs.YtnpohgoacbpcjaaGreatDoor.P
open Go.RowKit Go.Proofs.YtnpohgoacbpcjaaGreatDoorW.PrintWords Go.Proofs.YtnpohgoacbpcjaaGreatDoorW.PrintLast Go.Proofs.YtnpohgoacbpcjaaGreatDoorW.PrintMore Go.Proofs.YtnpohgoacbpcjaaGreatDoor.FM
set_option linter.unusedVariables false
set_option linter.unusedSimpArgs false
abbrev Rg := S28
/-! classes as sets of numbers -/
def In (l : List Rg) (r : Int) : Prop := ∃ x ∈ l, x.f0 ≤ r ∧ r ≤ x.f1
def Set1 (x : Rg) : Prop := 0 ≤ x.f0 ∧ x.f0 ≤ x.f1 ∧ x.f1 ≤ 1114111
/-- the settled form -/
def Stl (l : List Rg) : Prop := l.Pairwise (fun x y => x.f1 + 2 ≤ y.f0) ∧ ∀ x ∈ l, Set1 x
theorem In_nil (r : Int) : ¬ In [] r := by rintro ⟨x, h, _⟩; cases h
theorem In_cons {x : Rg} {l : List Rg} {r : Int} : In (x :: l) r ↔ (x.f0 ≤ r ∧ r ≤ x.f1) ∨ In l r := by
  constructor
  · rintro ⟨y, h, h2⟩
    rcases List.mem_cons.1 h with rfl | h
    · exact .inl h2
    · exact .inr ⟨y, h, h2⟩
  · rintro (h | ⟨y, h, h2⟩)
    · exact ⟨x, List.mem_cons_self, h⟩
    · exact ⟨y, List.mem_cons_of_mem _ h, h2⟩
theorem In_append {a b : List Rg} {r : Int} : In (a ++ b) r ↔ In a r ∨ In b r := by
  induction a with
  | nil => simp [In_nil]
  | cons x a ih => rw [List.cons_append, In_cons, In_cons, ih, or_assoc]
theorem Stl.nil : Stl [] := ⟨List.Pairwise.nil, fun _ h => by cases h⟩
theorem Stl.tail {x : Rg} {l : List Rg} (h : Stl (x :: l)) : Stl l := ⟨(List.pairwise_cons.1 h.1).2, fun y hy => h.2 y (List.mem_cons_of_mem _ hy)⟩
theorem Stl.head {x : Rg} {l : List Rg} (h : Stl (x :: l)) : Set1 x := h.2 x List.mem_cons_self
theorem Stl.gap {x : Rg} {l : List Rg} (h : Stl (x :: l)) {r : Int} (hr : In l r) : x.f1 + 2 ≤ r := by
  obtain ⟨y, hy, h1, _⟩ := hr
  have := (List.pairwise_cons.1 h.1).1 y hy
  omega
theorem Stl.range {l : List Rg} (h : Stl l) {r : Int} (hr : In l r) : 0 ≤ r ∧ r ≤ 1114111 := by
  obtain ⟨y, hy, h1, h2⟩ := hr
  have := h.2 y hy
  unfold Set1 at this
  omega
theorem stl_ext : ∀ {a b : List Rg}, Stl a → Stl b → (∀ r, In a r ↔ In b r) → a = b
  | [], [], _, _, _ => rfl
  | [], y :: b, _, hb, h => absurd ((h y.f0).2 (In_cons.2 (.inl ⟨Int.le_refl _, hb.head.2.1⟩))) (In_nil _)
  | x :: a, [], ha, _, h => absurd ((h x.f0).1 (In_cons.2 (.inl ⟨Int.le_refl _, ha.head.2.1⟩))) (In_nil _)
  | x :: a, y :: b, ha, hb, h => by
    have hx := ha.head
    have hy := hb.head
    unfold Set1 at hx hy
    have gx := fun r => ha.gap (r := r)
    have gy := fun r => hb.gap (r := r)
    have h' := fun r => h r
    simp only [In_cons] at h'
    have e0 : x.f0 = y.f0 := by
      have h1 := (h' x.f0).1 (.inl ⟨Int.le_refl _, hx.2.1⟩)
      have h2 := (h' y.f0).2 (.inl ⟨Int.le_refl _, hy.2.1⟩)
      rcases h1 with h1 | h1
      · rcases h2 with h2 | h2
        · omega
        · have := gx _ h2; omega
      · have := gy _ h1
        rcases h2 with h2 | h2
        · omega
        · have := gx _ h2; omega
    have e1 : x.f1 = y.f1 := by
      rcases Int.lt_trichotomy x.f1 y.f1 with h1 | h1 | h1
      · have h2 := (h' (x.f1 + 1)).2 (.inl ⟨by omega, by omega⟩)
        rcases h2 with h2 | h2
        · omega
        · have := gx _ h2; omega
      · exact h1
      · have h2 := (h' (y.f1 + 1)).1 (.inl ⟨by omega, by omega⟩)
        rcases h2 with h2 | h2
        · omega
        · have := gy _ h2; omega
    have exy : x = y := by
      obtain ⟨x0, x1⟩ := x
      obtain ⟨y0, y1⟩ := y
      simp only at e0 e1
      rw [e0, e1]
    subst exy
    rw [stl_ext ha.tail hb.tail fun r => ?_]
    constructor
    · intro hr
      have g := gx r hr
      rcases (h' r).1 (.inr hr) with h2 | h2
      · omega
      · exact h2
    · intro hr
      have g := gy r hr
      rcases (h' r).2 (.inr hr) with h2 | h2
      · omega
      · exact h2
/-! all others -/
def nots : Int → List Rg → List Rg
  | n, [] => if n ≤ 1114111 then [⟨n, 1114111⟩] else []
  | n, x :: l => (if x.f0 > n then [⟨n, x.f0 - 1⟩] else []) ++ nots (x.f1 + 1) l
theorem nots_in : ∀ {l : List Rg} {n : Int}, Stl l → (∀ x ∈ l, n ≤ x.f0) → ∀ r, In (nots n l) r ↔ n ≤ r ∧ r ≤ 1114111 ∧ ¬ In l r
  | [], n, _, _, r => by
    unfold nots
    have := In_nil r
    split
    · rw [In_cons]
      simp [In_nil]
    · simp [In_nil]; omega
  | x :: l, n, h, hn, r => by
    have hx := h.head
    unfold Set1 at hx
    have hn0 := hn x List.mem_cons_self
    have g := h.gap (r := r)
    rw [nots, In_append, nots_in h.tail (fun y hy => by have := (List.pairwise_cons.1 h.1).1 y hy; omega) r, In_cons]
    have e : In (if x.f0 > n then [⟨n, x.f0 - 1⟩] else []) r ↔ n ≤ r ∧ r ≤ x.f0 - 1 := by
      split
      · rw [In_cons]; simp only [In_nil, or_false]
      · simp [In_nil]; omega
    rw [e]
    by_cases hi : In l r
    · have := g hi
      first | (simp [hi]; done) | (simp [hi]; omega)
    · first | (simp [hi]; done) | (simp [hi]; omega)
theorem nots_ge : ∀ {l : List Rg} {n : Int}, Stl l → (∀ x ∈ l, n ≤ x.f0) → ∀ x ∈ nots n l, n ≤ x.f0
  | [], n, _, _, x, hx => by
    unfold nots at hx
    split at hx
    · rcases List.mem_cons.1 hx with rfl | hx
      · exact Int.le_refl _
      · cases hx
    · cases hx
  | y :: l, n, h, hn, x, hx => by
    have hy := h.head
    unfold Set1 at hy
    have hn0 := hn y List.mem_cons_self
    rw [nots] at hx
    rcases List.mem_append.1 hx with hx | hx
    · split at hx
      · rcases List.mem_cons.1 hx with rfl | hx
        · exact Int.le_refl _
        · cases hx
      · cases hx
    · have := nots_ge h.tail (fun z hz => by have := (List.pairwise_cons.1 h.1).1 z hz; omega) x hx
      omega
theorem nots_stl : ∀ {l : List Rg} {n : Int}, Stl l → (∀ x ∈ l, n ≤ x.f0) → 0 ≤ n → Stl (nots n l)
  | [], n, _, _, h0 => by
    unfold nots
    split
    · exact ⟨List.pairwise_cons.2 ⟨(fun _ h => by cases h), List.Pairwise.nil⟩, fun x hx => by
        rcases List.mem_cons.1 hx with rfl | hx
        · unfold Set1; dsimp only; omega
        · cases hx⟩
    · exact Stl.nil
  | x :: l, n, h, hn, h0 => by
    have hx := h.head
    unfold Set1 at hx
    have hn0 := hn x List.mem_cons_self
    have hg : ∀ y ∈ l, x.f1 + 1 ≤ y.f0 := fun y hy => by have := (List.pairwise_cons.1 h.1).1 y hy; omega
    have ih := nots_stl h.tail hg (by omega)
    have hge := nots_ge h.tail hg
    rw [nots]
    split
    · refine ⟨List.pairwise_cons.2 ⟨fun y hy => ?_, ih.1⟩, fun y hy => ?_⟩
      · have := hge y hy
        dsimp only; omega
      · rcases List.mem_cons.1 hy with rfl | hy
        · unfold Set1; dsimp only; omega
        · exact ih.2 y hy
    · exact ih
def nott (l : List Rg) : List Rg := nots 0 l
theorem nott_stl {l : List Rg} (h : Stl l) : Stl (nott l) := nots_stl h (fun x hx => (h.2 x hx).1) (Int.le_refl _)
theorem nott_in {l : List Rg} (h : Stl l) (r : Int) : In (nott l) r ↔ 0 ≤ r ∧ r ≤ 1114111 ∧ ¬ In l r := nots_in h (fun x hx => (h.2 x hx).1) r
/-! merging -/
def clampR (l : List Rg) : List Rg := (l.map fun x => (⟨max x.f0 0, min x.f1 1114111⟩ : Rg)).filter fun x => decide (x.f0 ≤ x.f1)
theorem clampR_in {l : List Rg} {r : Int} : In (clampR l) r ↔ In l r ∧ 0 ≤ r ∧ r ≤ 1114111 := by
  unfold clampR
  induction l with
  | nil => simp [In_nil]
  | cons x l ih =>
    rw [List.map_cons, List.filter_cons]
    split
    · rw [In_cons, In_cons, ih]
      dsimp only
      by_cases h : In l r
      · first | (simp [h]; done) | (simp [h]; omega)
      · first | (simp [h]; done) | (simp [h]; omega)
    · rename_i hn
      simp only [decide_eq_true_eq] at hn
      rw [ih, In_cons]
      by_cases h : In l r
      · first | (simp [h]; done) | (simp [h]; omega)
      · first | (simp [h]; done) | (simp [h]; omega)
theorem clampR_ok {l : List Rg} {x : Rg} (h : x ∈ clampR l) : Set1 x := by
  unfold clampR at h
  rw [List.mem_filter] at h
  obtain ⟨h1, h2⟩ := h
  obtain ⟨y, _, rfl⟩ := List.mem_map.1 h1
  simp only [decide_eq_true_eq] at h2
  unfold Set1
  dsimp only
  omega
def mstep (out : List Rg) (x : Rg) : List Rg := match out.getLast? with
  | some y => if x.f0 ≤ y.f1 + 1 then out.dropLast ++ [⟨y.f0, max y.f1 x.f1⟩] else out ++ [x]
  | none => [x]
theorem stl_snoc {o : List Rg} {x : Rg} : Stl (o ++ [x]) ↔ Stl o ∧ Set1 x ∧ ∀ y ∈ o, y.f1 + 2 ≤ x.f0 := by
  unfold Stl
  rw [List.pairwise_append]
  constructor
  · rintro ⟨⟨h1, h2, h3⟩, h4⟩
    exact ⟨⟨h1, fun z hz => h4 z (List.mem_append_left _ hz)⟩, h4 x (List.mem_append_right _ (List.mem_singleton.2 rfl)), fun y hy => h3 y hy x (List.mem_singleton.2 rfl)⟩
  · rintro ⟨⟨h1, h2⟩, h3, h4⟩
    refine ⟨⟨h1, List.pairwise_cons.2 ⟨(fun _ h => by cases h), List.Pairwise.nil⟩, fun y hy z hz => by rw [List.mem_singleton.1 hz]; exact h4 y hy⟩, fun z hz => ?_⟩
    rcases List.mem_append.1 hz with hz | hz
    · exact h2 z hz
    · rw [List.mem_singleton.1 hz]; exact h3
theorem mstep_stl {out : List Rg} {x : Rg} (h : Stl out) (hx : Set1 x) (hl : ∀ y ∈ out, y.f0 ≤ x.f0) : Stl (mstep out x) ∧ (∀ r, In (mstep out x) r ↔ In out r ∨ (x.f0 ≤ r ∧ r ≤ x.f1)) ∧ ∀ y ∈ mstep out x, y.f0 ≤ x.f0 := by
  rcases List.eq_nil_or_concat out with rfl | ⟨o, y, rfl⟩
  · refine ⟨?_, fun r => ?_, fun y hy => ?_⟩
    · show Stl ([] ++ [x])
      exact stl_snoc.2 ⟨Stl.nil, hx, fun _ h => by cases h⟩
    · show In [x] r ↔ _
      rw [In_cons]
      simp only [In_nil, or_false, false_or]
    · rw [List.mem_singleton.1 (show y ∈ [x] from hy)]
      exact Int.le_refl _
  · rw [List.concat_eq_append] at h hl ⊢
    obtain ⟨ho, hy, hg⟩ := stl_snoc.1 h
    have hyx := hl y (List.mem_append_right _ (List.mem_singleton.2 rfl))
    have e : mstep (o ++ [y]) x = if x.f0 ≤ y.f1 + 1 then o ++ [⟨y.f0, max y.f1 x.f1⟩] else o ++ [y] ++ [x] := by
      unfold mstep
      simp
    rw [e]
    have hy' := hy
    unfold Set1 at hy'
    have hx' := hx
    unfold Set1 at hx'
    split
    · refine ⟨stl_snoc.2 ⟨ho, ?_, hg⟩, fun r => ?_, fun z hz => ?_⟩
      · unfold Set1; dsimp only; omega
      · rw [In_append, In_append, In_cons, In_cons]
        dsimp only
        simp only [In_nil, or_false]
        by_cases h2 : In o r
        · first | (simp [h2]; done) | (simp [h2]; omega)
        · first | (simp [h2]; done) | (simp [h2]; omega)
      · rcases List.mem_append.1 hz with hz | hz
        · exact hl z (List.mem_append_left _ hz)
        · rw [List.mem_singleton.1 hz]; exact hyx
    · refine ⟨stl_snoc.2 ⟨h, hx, fun z hz => ?_⟩, fun r => ?_, fun z hz => ?_⟩
      · rcases List.mem_append.1 hz with hz | hz
        · have := hg z hz
          omega
        · rw [List.mem_singleton.1 hz]; omega
      · rw [In_append, In_cons]
        simp only [In_nil, or_false]
      · rcases List.mem_append.1 hz with hz | hz
        · exact hl z hz
        · rw [List.mem_singleton.1 hz]; exact Int.le_refl _
theorem merge_stl : ∀ {all out : List Rg}, Stl out → (∀ x ∈ all, Set1 x) → all.Pairwise (fun x y => x.f0 ≤ y.f0) → (∀ y ∈ out, ∀ x ∈ all, y.f0 ≤ x.f0) →
    Stl (all.foldl mstep out) ∧ ∀ r, In (all.foldl mstep out) r ↔ In out r ∨ In all r
  | [], out, h, _, _, _ => ⟨h, fun r => by simp [In_nil]⟩
  | x :: all, out, h, ha, hp, hl => by
    obtain ⟨hp1, hp2⟩ := List.pairwise_cons.1 hp
    obtain ⟨s1, s2, s3⟩ := mstep_stl h (ha x List.mem_cons_self) (fun y hy => hl y hy x List.mem_cons_self)
    obtain ⟨t1, t2⟩ := merge_stl s1 (fun z hz => ha z (List.mem_cons_of_mem _ hz)) hp2 (fun y hy z hz => by have := s3 y hy; have := hp1 z hz; omega)
    refine ⟨t1, fun r => ?_⟩
    rw [List.foldl_cons, t2, s2, In_cons, or_assoc]
/-- what is the same set in the settled form: one of it -/
def IsMade (l c : List Rg) : Prop := Stl c ∧ ∀ r, In c r ↔ In l r ∧ 0 ≤ r ∧ r ≤ 1114111
theorem IsMade.uniq {l l' c d : List Rg} (h : IsMade l c) (h' : IsMade l' d) (he : ∀ r, 0 ≤ r → r ≤ 1114111 → (In l r ↔ In l' r)) : c = d := by
  refine stl_ext h.1 h'.1 fun r => ?_
  rw [h.2, h'.2]
  constructor
  · rintro ⟨a, b, c⟩; exact ⟨(he r b c).1 a, b, c⟩
  · rintro ⟨a, b, c⟩; exact ⟨(he r b c).2 a, b, c⟩
theorem isMade_of {l s : List Rg} (hp : s.Perm (clampR l)) (hs : s.Pairwise (fun x y => x.f0 ≤ y.f0)) : IsMade l (s.foldl mstep []) := by
  obtain ⟨h1, h2⟩ := merge_stl Stl.nil (fun x hx => clampR_ok (hp.mem_iff.1 hx)) hs (fun _ h => by cases h)
  refine ⟨h1, fun r => ?_⟩
  rw [h2, ← clampR_in]
  simp only [In_nil, false_or]
  unfold In
  constructor
  · rintro ⟨x, hx, h⟩; exact ⟨x, hp.mem_iff.1 hx, h⟩
  · rintro ⟨x, hx, h⟩; exact ⟨x, hp.mem_iff.2 hx, h⟩
theorem isMade_self {c : List Rg} (h : Stl c) : IsMade c c := ⟨h, fun r => ⟨fun hr => ⟨hr, h.range hr⟩, fun hr => hr.1⟩⟩
/-- where two sets part, there is a bound of a range -/
theorem bounds_tell {a b : List Rg} (h : ∀ r, 0 ≤ r → r ≤ 1114111 → (r = 0 ∨ ∃ x ∈ a ++ b, r = x.f0 ∨ r = x.f1 + 1) → (In a r ↔ In b r)) : ∀ r, 0 ≤ r → r ≤ 1114111 → (In a r ↔ In b r) := by
  have step : ∀ (a b : List Rg) (n : Int), In a (n + 1) → ¬ In b (n + 1) → (In a n ↔ In b n) → ∃ x ∈ a ++ b, n + 1 = x.f0 ∨ n + 1 = x.f1 + 1 := by
    intro a b n h1 h2 h3
    by_cases h4 : In a n
    · obtain ⟨y, hy, y0, y1⟩ := h3.1 h4
      refine ⟨y, List.mem_append_right _ hy, .inr ?_⟩
      apply Decidable.byContradiction
      intro hn
      exact h2 ⟨y, hy, by omega, by omega⟩
    · obtain ⟨x, hx, x0, x1⟩ := h1
      refine ⟨x, List.mem_append_left _ hx, .inl ?_⟩
      apply Decidable.byContradiction
      intro hn
      exact h4 ⟨x, hx, by omega, by omega⟩
  have main : ∀ n : Nat, (n : Int) ≤ 1114111 → (In a n ↔ In b n) := by
    intro n
    induction n with
    | zero => intro _; exact h 0 (Int.le_refl _) (by decide) (.inl rfl)
    | succ n ih =>
      intro hn
      have ih := ih (by omega)
      rw [show ((n + 1 : Nat) : Int) = (n : Int) + 1 by omega]
      constructor
      · intro h1
        apply Classical.byContradiction
        intro h2
        obtain ⟨x, hx, hb⟩ := step a b n h1 h2 ih
        exact h2 ((h _ (by omega) (by omega) (.inr ⟨x, hx, hb⟩)).1 h1)
      · intro h1
        apply Classical.byContradiction
        intro h2
        obtain ⟨x, hx, hb⟩ := step b a n h1 h2 ih.symm
        exact h2 ((h _ (by omega) (by omega) (.inr ⟨x, (List.mem_append.2 ((List.mem_append.1 hx).symm)), hb⟩)).2 h1)
  intro r h0 h1
  have := main r.toNat (by omega)
  rwa [Int.toNat_of_nonneg h0] at this

/-! what the printed functions answer -/
theorem rdT (l : List Rg) (i : Nat) (h : i < l.length) : rd_T28 l (i : Int) = l[i] := by
  unfold rd_T28
  rw [Int.toNat_natCast, List.getD_eq_getElem?_getD, List.getElem?_eq_getElem h]; rfl
theorem drop_at {α : Type} (l : List α) (i : Nat) (h : i < l.length) : l.drop i = l[i] :: l.drop (i + 1) := by rw [List.getElem_cons_drop]
theorem mx_eq (a b : Int) : mx a b = max a b := by unfold mx; split <;> omega
theorem mn_eq (a b : Int) : mn a b = min a b := by unfold mn; split <;> omega
theorem w32 {x : Int} (h1 : -2147483648 ≤ x) (h2 : x ≤ 2147483647) : wrap32 x = x := by unfold wrap32; omega
theorem inc64' {i : Nat} (h : i ≤ 9000000000000000000) : wrap64 ((i : Int) + 1) = ((i + 1 : Nat) : Int) := by rw [w64 (by omega) (by omega)]; rfl
theorem clampR_cons (x : Rg) (l : List Rg) : clampR (x :: l) = (if max x.f0 0 ≤ min x.f1 1114111 then [(⟨max x.f0 0, min x.f1 1114111⟩ : Rg)] else []) ++ clampR l := by
  unfold clampR
  rw [List.map_cons, List.filter_cons]
  by_cases h : max x.f0 0 ≤ min x.f1 1114111
  · rw [_root_.if_pos (by simpa using h), _root_.if_pos h]; rfl
  · rw [_root_.if_neg (by simpa using h), _root_.if_neg h]; rfl
theorem made_l0 (l : List Rg) (hl : l.length ≤ 100000) (r : List Rg) (d : Nat) : ∀ (i : Nat) (acc : List Rg), i + d = l.length → acc.length ≤ i →
    Ev (fun k => (slices_SortFunc.f (acc ++ clampR (l.drop i))).bind fun t => class_Made.l1 k [] t ((acc ++ clampR (l.drop i)).length : Int) 0) r →
    Ev (fun k => class_Made.l0 k acc l (l.length : Int) (i : Int)) r := by
  induction d with
  | zero =>
    intro i acc hi ha h
    rw [List.drop_of_length_le (by omega), show clampR [] = [] from rfl, List.append_nil] at h
    refine Ev.step (fun k => ?_) h
    rw [class_Made.l0, _root_.if_neg (by omega)]
  | succ d ih =>
    intro i acc hi ha h
    have hlt : i < l.length := by omega
    rw [drop_at l i hlt, clampR_cons] at h
    obtain ⟨x, hx⟩ : ∃ x, l[i] = x := ⟨_, rfl⟩
    rw [hx] at h
    by_cases hc : max x.f0 0 ≤ min x.f1 1114111
    · rw [_root_.if_pos hc, ← List.append_assoc] at h
      refine Ev.step (fun k => ?_) (ih (i + 1) _ (by omega) (by rw [List.length_append]; simp; omega) h)
      rw [class_Made.l0, _root_.if_pos (by omega), _root_.if_pos (by omega), _root_.if_pos (by omega), rdT l i hlt, hx, mx_eq, mn_eq, _root_.if_pos hc, _root_.if_pos (by omega), inc64' (by omega)]
    · rw [_root_.if_neg hc, List.nil_append] at h
      refine Ev.step (fun k => ?_) (ih (i + 1) acc (by omega) (by omega) h)
      rw [class_Made.l0, _root_.if_pos (by omega), _root_.if_pos (by omega), _root_.if_pos (by omega), rdT l i hlt, hx, mx_eq, mn_eq, _root_.if_neg hc, inc64' (by omega)]
theorem set_last (o : List Rg) (y z : Rg) : (o ++ [y]).set o.length z = o ++ [z] := by
  rw [List.set_append_right _ _ (Nat.le_refl _), Nat.sub_self]; rfl
theorem made_l1 (l : List Rg) (hl : l.length ≤ 100000) (hok : ∀ x ∈ l, Set1 x) (d : Nat) : ∀ (i : Nat) (out : List Rg), i + d = l.length → out.length ≤ i → (∀ x ∈ out, x.f1 ≤ 1114111 ∧ 0 ≤ x.f1) →
    Ev (fun k => class_Made.l1 k out l (l.length : Int) (i : Int)) ((l.drop i).foldl mstep out) := by
  induction d with
  | zero =>
    intro i out hi ho hx
    rw [List.drop_of_length_le (by omega)]
    refine Ev.step (f := fun _ => some out) (fun k => ?_) (Ev.now _)
    rw [class_Made.l1, _root_.if_neg (by omega)]
  | succ d ih =>
    intro i out hi ho hx
    have hlt : i < l.length := by omega
    have hs := hok l[i] (List.getElem_mem hlt)
    unfold Set1 at hs
    rw [drop_at l i hlt, List.foldl_cons]
    rcases List.eq_nil_or_concat out with rfl | ⟨o, y, rfl⟩
    · refine Ev.step (fun k => ?_) (ih (i + 1) (mstep [] l[i]) (by omega) (by show 1 ≤ i + 1; omega) (fun z hz => by rw [List.mem_singleton.1 (show z ∈ [l[i]] from hz)]; omega))
      rw [class_Made.l1, _root_.if_pos (by omega), _root_.if_pos (by omega), _root_.if_pos (by omega), _root_.if_neg (by simp), _root_.if_pos (by simp), rdT l i hlt, inc64' (by omega)]
      rfl
    · rw [List.concat_eq_append] at ho hx ⊢
      have hy := hx y (List.mem_append_right _ (List.mem_singleton.2 rfl))
      have hlen : (o ++ [y]).length = o.length + 1 := by simp
      have e : mstep (o ++ [y]) l[i] = if l[i].f0 ≤ y.f1 + 1 then o ++ [⟨y.f0, max y.f1 l[i].f1⟩] else o ++ [y] ++ [l[i]] := by
        unfold mstep
        simp
      have hw : wrap64 (((o ++ [y]).length : Int) - 1) = (o.length : Int) := by rw [hlen, w64 (by omega) (by omega)]; omega
      have hr : rd_T28 (o ++ [y]) (o.length : Int) = y := by
        rw [rdT (o ++ [y]) o.length (by omega)]
        simp
      refine Ev.step (f := fun k => class_Made.l1 k (mstep (o ++ [y]) l[i]) l (l.length : Int) ((i + 1 : Nat) : Int)) (fun k => ?_) (ih (i + 1) (mstep (o ++ [y]) l[i]) (by omega) ?_ ?_)
      · rw [class_Made.l1, _root_.if_pos (by omega), _root_.if_pos (by omega), _root_.if_pos (by omega), _root_.if_pos (by omega), hw, _root_.if_pos (by omega), _root_.if_pos (by omega), hr, rdT l i hlt, w32 (by omega) (by omega), mx_eq, e]
        by_cases h : l[i].f0 ≤ y.f1 + 1
        · rw [_root_.if_pos h, _root_.if_pos h, Int.toNat_natCast, set_last, inc64' (by omega)]
        · rw [_root_.if_neg h, _root_.if_neg h, _root_.if_pos (by omega), inc64' (by omega)]
      · rw [e]; split <;> simp at * <;> omega
      · rw [e]
        intro z hz
        split at hz
        · rcases List.mem_append.1 hz with hz | hz
          · exact hx z (List.mem_append_left _ hz)
          · rw [List.mem_singleton.1 hz]; dsimp only; omega
        · rcases List.mem_append.1 hz with hz | hz
          · exact hx z hz
          · rw [List.mem_singleton.1 hz]; omega
theorem sort_spec (l : List Rg) (hl : l.length ≤ 100000) (hok : ∀ x ∈ l, -2147483648 ≤ x.f0 ∧ x.f0 ≤ 2147483647) : ∃ s, slices_SortFunc.f l = some s ∧ s.Perm l ∧ s.Pairwise (fun x y => x.f0 ≤ y.f0) := by
  have hall : l.all slices_SortFunc.ok = true := List.all_eq_true.2 fun x hx => decide_eq_true (hok x hx)
  have hsz : (l.map slices_SortFunc.P).toArray.size = l.length := by simp
  obtain ⟨hp, hs⟩ := Sort.pdq_sorts (ltOf slices_SortFunc.cf) slices_SortFunc.swo (l.map slices_SortFunc.P).toArray 0 l.length (Lib.bitLen l.length) true true (Nat.zero_le _) (by rw [hsz]; exact Nat.le_refl _) (.inl rfl)
  obtain ⟨hp1, hp2, hp3⟩ := hp
  have e1 : ((slices_SortFunc.go l).extract 0 l.length).toList = (slices_SortFunc.go l).toList := by
    have : (slices_SortFunc.go l).size = l.length := by unfold slices_SortFunc.go; rw [hp1, hsz]
    rw [← this, Array.extract_size]
  have e2 : ((l.map slices_SortFunc.P).toArray.extract 0 l.length).toList = l.map slices_SortFunc.P := by
    conv => lhs; rw [← hsz]
    rw [Array.extract_size]
  have hperm : (slices_SortFunc.go l).toList.Perm (l.map slices_SortFunc.P) := by
    rw [← e1, ← e2]; exact hp3
  have hid : (l.map slices_SortFunc.P).map slices_SortFunc.R = l := by
    rw [List.map_map]
    conv => rhs; rw [← List.map_id l]
    congr 1
  refine ⟨(slices_SortFunc.go l).toList.map slices_SortFunc.R, ?_, ?_, ?_⟩
  · unfold slices_SortFunc.f
    rw [_root_.if_pos ⟨hl, hall⟩]
  · have := hperm.map slices_SortFunc.R
    rwa [hid] at this
  · rw [List.pairwise_map, List.pairwise_iff_getElem]
    intro i j hi hj hij
    have hsz2 : (slices_SortFunc.go l).size = l.length := by unfold slices_SortFunc.go; rw [hp1, hsz]
    rw [Array.length_toList] at hi hj
    have h1 := hs i j (Nat.zero_le _) hij (by rw [← hsz2]; exact hj)
    have h1' : ltOf slices_SortFunc.cf (slices_SortFunc.go l)[j]! (slices_SortFunc.go l)[i]! = false := h1
    rw [getElem!_pos (slices_SortFunc.go l) i hi, getElem!_pos (slices_SortFunc.go l) j hj, slices_SortFunc.ltcl] at h1'
    have mem : ∀ q (hq : q < (slices_SortFunc.go l).size), slices_SortFunc.cl ((slices_SortFunc.go l)[q]).1 = ((slices_SortFunc.go l)[q]).1 := by
      intro q hq
      have : (slices_SortFunc.go l)[q] ∈ l.map slices_SortFunc.P := hperm.mem_iff.1 (by rw [Array.mem_toList_iff]; exact Array.getElem_mem hq)
      obtain ⟨x, hx, he⟩ := List.mem_map.1 this
      rw [← he]
      exact slices_SortFunc.cl_in (hok x hx).1 (hok x hx).2
    rw [mem i hi, mem j hj] at h1'
    have h2 := of_decide_eq_false h1'
    show ((slices_SortFunc.go l).toList[i]).1 ≤ ((slices_SortFunc.go l).toList[j]).1
    rw [Array.getElem_toList, Array.getElem_toList]
    omega
theorem clampR_len (l : List Rg) : (clampR l).length ≤ l.length := by
  unfold clampR
  exact Nat.le_trans (List.length_filter_le _ _) (by rw [List.length_map]; exact Nat.le_refl _)
theorem foldl_mstep_len : ∀ (s o : List Rg), (s.foldl mstep o).length ≤ o.length + s.length
  | [], o => Nat.le_refl _
  | x :: s, o => by
    rw [List.foldl_cons, List.length_cons]
    have h1 := foldl_mstep_len s (mstep o x)
    have h2 : (mstep o x).length ≤ o.length + 1 := by
      rcases List.eq_nil_or_concat o with rfl | ⟨q, y, rfl⟩
      · exact Nat.le_refl _
      · unfold mstep
        simp only [List.concat_eq_append, List.getLast?_append, List.getLast?_singleton, Option.some_or]
        split <;> simp
    omega
theorem Made_ev (l : List Rg) (hl : l.length ≤ 100000) : ∃ c, Ev (fun k => class_Made.f k l) c ∧ IsMade l c ∧ c.length ≤ l.length := by
  have hcl := clampR_len l
  obtain ⟨s, h1, h2, h3⟩ := sort_spec (clampR l) (by omega) (fun x hx => by have := clampR_ok hx; unfold Set1 at this; omega)
  have hsl := h2.length_eq
  refine ⟨s.foldl mstep [], ?_, isMade_of h2 h3, ?_⟩
  · unfold class_Made.f
    refine made_l0 l hl _ l.length 0 [] (by omega) (Nat.le_refl _) ?_
    rw [List.drop_zero, List.nil_append]
    refine Ev.const h1 ?_
    have := made_l1 s (by omega) (fun x hx => clampR_ok (h2.mem_iff.1 hx)) s.length 0 [] (by omega) (Nat.le_refl _) (fun _ h => by cases h)
    rw [List.drop_zero, hsl] at this
    exact this
  · have := foldl_mstep_len s []
    simp at this
    omega
theorem not_l0 (l : List Rg) (hl : l.length ≤ 100000) (hok : ∀ x ∈ l, Set1 x) (d : Nat) : ∀ (i : Nat) (acc : List Rg) (n : Int), i + d = l.length → acc.length ≤ i →
    Ev (fun k => class_Class_Not.l0 k acc n l (l.length : Int) (i : Int)) (acc ++ nots n (l.drop i)) := by
  induction d with
  | zero =>
    intro i acc n hi ha
    rw [List.drop_of_length_le (by omega), nots]
    by_cases h : n ≤ 1114111
    · refine Ev.step (f := fun _ => some (acc ++ [(⟨n, 1114111⟩ : Rg)])) (fun k => ?_) (by rw [_root_.if_pos h]; exact Ev.now _)
      rw [class_Class_Not.l0, _root_.if_neg (by omega), _root_.if_pos h, _root_.if_pos (by omega)]
    · refine Ev.step (f := fun _ => some acc) (fun k => ?_) (by rw [_root_.if_neg h, List.append_nil]; exact Ev.now _)
      rw [class_Class_Not.l0, _root_.if_neg (by omega), _root_.if_neg h]
  | succ d ih =>
    intro i acc n hi ha
    have hlt : i < l.length := by omega
    have hs := hok l[i] (List.getElem_mem hlt)
    unfold Set1 at hs
    rw [drop_at l i hlt, nots]
    by_cases h : l[i].f0 > n
    · rw [_root_.if_pos h, ← List.append_assoc]
      refine Ev.step (fun k => ?_) (ih (i + 1) (acc ++ [⟨n, l[i].f0 - 1⟩]) (l[i].f1 + 1) (by omega) (by rw [List.length_append]; simp; omega))
      rw [class_Class_Not.l0, _root_.if_pos (by omega), _root_.if_pos (by omega), _root_.if_pos (by omega), rdT l i hlt, _root_.if_pos h, _root_.if_pos (by omega), w32 (by omega) (by omega), w32 (by omega) (by omega), inc64' (by omega)]
    · rw [_root_.if_neg h, List.nil_append]
      refine Ev.step (fun k => ?_) (ih (i + 1) acc (l[i].f1 + 1) (by omega) (by omega))
      rw [class_Class_Not.l0, _root_.if_pos (by omega), _root_.if_pos (by omega), _root_.if_pos (by omega), rdT l i hlt, _root_.if_neg h, w32 (by omega) (by omega), inc64' (by omega)]
theorem Not_ev {l : List Rg} (hl : l.length ≤ 100000) (h : Stl l) : Ev (fun k => class_Class_Not.f k l) (nott l) := by
  unfold class_Class_Not.f
  have := not_l0 l hl h.2 l.length 0 [] 0 (by omega) (Nat.le_refl _)
  rwa [List.drop_zero, List.nil_append] at this
theorem nots_len : ∀ (l : List Rg) (n : Int), (nots n l).length ≤ l.length + 1
  | [], n => by unfold nots; split <;> simp
  | x :: l, n => by
    rw [nots, List.length_append, List.length_cons]
    have := nots_len l (x.f1 + 1)
    split <;> simp <;> omega
theorem nott_len (l : List Rg) : (nott l).length ≤ l.length + 1 := nots_len l 0
theorem same_l0 (a b : List Rg) (hab : a.length = b.length) (hl : a.length ≤ 100000) (d : Nat) : ∀ i : Nat, i + d = a.length →
    ∃ q : Bool, (q = true ↔ a.drop i = b.drop i) ∧ Ev (fun k => class_Range_29.l0 k a b (a.length : Int) (i : Int)) q := by
  induction d with
  | zero =>
    intro i hi
    refine ⟨true, ?_, ?_⟩
    · rw [List.drop_of_length_le (by omega), List.drop_of_length_le (by omega)]; simp
    · refine Ev.step (f := fun _ => some true) (fun k => ?_) (Ev.now _)
      rw [class_Range_29.l0, _root_.if_neg (by omega)]
  | succ d ih =>
    intro i hi
    have hlt : i < a.length := by omega
    have hlt2 : i < b.length := by omega
    obtain ⟨q, hq, h⟩ := ih (i + 1) (by omega)
    rw [drop_at a i hlt, drop_at b i hlt2]
    by_cases e : a[i] = b[i]
    · refine ⟨q, ?_, Ev.step (fun k => ?_) h⟩
      · rw [hq, List.cons.injEq]; exact ⟨fun h => ⟨e, h⟩, fun h => h.2⟩
      · rw [class_Range_29.l0, _root_.if_pos (by omega), _root_.if_pos (by omega), _root_.if_pos (by omega), _root_.if_pos (by omega), rdT a i hlt, rdT b i hlt2, e, _root_.if_neg (by simp), inc64' (by omega)]
    · refine ⟨false, ⟨fun h => by (cases h), fun h => by rw [List.cons.injEq] at h; exact absurd h.1 e⟩, Ev.step (f := fun _ => some false) (fun k => ?_) (Ev.now _)⟩
      have : ((!(a[i].f0 == b[i].f0)) || (!(a[i].f1 == b[i].f1))) = true := by
        apply Decidable.byContradiction
        intro hn
        apply e
        rw [Bool.not_eq_true, Bool.or_eq_false_iff] at hn
        obtain ⟨⟨x0, x1⟩, hx⟩ : ∃ x, a[i] = x := ⟨_, rfl⟩
        obtain ⟨⟨y0, y1⟩, hy⟩ : ∃ y, b[i] = y := ⟨_, rfl⟩
        rw [hx, hy] at hn ⊢
        simp at hn
        rw [hn.1, hn.2]
      rw [class_Range_29.l0, _root_.if_pos (by omega), _root_.if_pos (by omega), _root_.if_pos (by omega), _root_.if_pos (by omega), rdT a i hlt, rdT b i hlt2, _root_.if_pos this]
theorem Same_ev (a b : List Rg) (hl : a.length ≤ 100000) : ∃ q : Bool, (q = true ↔ a = b) ∧ Ev (fun k => class_Class_Same.f k a b) q := by
  unfold class_Class_Same.f class_Range_29.f
  by_cases h : a.length = b.length
  · obtain ⟨q, hq, he⟩ := same_l0 a b h hl a.length 0 (by omega)
    rw [List.drop_zero, List.drop_zero] at hq
    exact ⟨q, hq, Ev.bind (Ev.if_pos (by omega) he) (Ev.now _)⟩
  · exact ⟨false, by simp; intro e; exact h (by rw [e]), Ev.bind (Ev.if_neg (by omega) (Ev.now _)) (Ev.now _)⟩
theorem Same_yes {a b : List Rg} (hl : a.length ≤ 100000) (h : a = b) : Ev (fun k => class_Class_Same.f k a b) true := by
  obtain ⟨q, hq, he⟩ := Same_ev a b hl
  rwa [hq.2 h] at he
theorem up_stl : ∀ {l : List Rg}, Stl l → slices_BinarySearchFunc.up l = true
  | [], _ => rfl
  | [_], _ => rfl
  | x :: y :: r, h => by
    unfold slices_BinarySearchFunc.up
    rw [up_stl h.tail, Bool.and_true]
    have h1 := (List.pairwise_cons.1 h.1).1 y List.mem_cons_self
    have h2 := h.tail.head
    unfold Set1 at h2
    exact decide_eq_true (by omega)
theorem has_cnt : ∀ {l : List Rg}, Stl l → ∀ r : Int, (∃ h : l.countP (fun x => decide (x.f1 < r)) < l.length, (l[l.countP (fun x => decide (x.f1 < r))]).f0 ≤ r) ↔ In l r
  | [], _, r => by simp [In_nil]
  | x :: l, h, r => by
    have hx := h.head
    unfold Set1 at hx
    rw [In_cons]
    by_cases h1 : x.f1 < r
    · have e : (x :: l).countP (fun x => decide (x.f1 < r)) = l.countP (fun x => decide (x.f1 < r)) + 1 := List.countP_cons_of_pos (by simpa using h1)
      have ih := has_cnt h.tail r
      rw [← ih]
      constructor
      · rintro ⟨h2, h3⟩
        right
        refine ⟨by rw [e] at h2; simpa using h2, ?_⟩
        simpa only [e, List.getElem_cons_succ] using h3
      · rintro (h2 | ⟨h2, h3⟩)
        · omega
        · refine ⟨by rw [e]; simpa using h2, ?_⟩
          simpa only [e, List.getElem_cons_succ] using h3
    · have e : (x :: l).countP (fun x => decide (x.f1 < r)) = 0 := by
        rw [List.countP_eq_zero]
        intro y hy
        rcases List.mem_cons.1 hy with rfl | hy
        · simpa using h1
        · have := (List.pairwise_cons.1 h.1).1 y hy
          have h2 := h.2 y (List.mem_cons_of_mem _ hy)
          unfold Set1 at h2
          simp
          omega
      constructor
      · rintro ⟨h2, h3⟩
        left
        simp only [e, List.getElem_cons_zero] at h3
        omega
      · rintro (h2 | h2)
        · refine ⟨by rw [e]; simp, ?_⟩
          simp only [e, List.getElem_cons_zero]
          omega
        · have := h.gap h2
          omega
theorem Has_ev {l : List Rg} (hl : l.length ≤ 100000) (h : Stl l) (r : Int) : ∃ q : Bool, (q = true ↔ In l r) ∧ class_Class_Has.f l r = some q := by
  have hc := has_cnt h r
  unfold class_Class_Has.f slices_BinarySearchFunc.f
  rw [_root_.if_pos ⟨hl, up_stl h⟩]
  rw [Option.bind_some]
  dsimp only
  obtain ⟨n, hn⟩ : ∃ n, l.countP (fun x => decide (x.f1 < r)) = n := ⟨_, rfl⟩
  simp only [hn] at hc ⊢
  by_cases h1 : n < l.length
  · rw [_root_.if_pos (by omega), _root_.if_pos (by omega), rdT l n h1]
    refine ⟨decide (l[n].f0 ≤ r), ?_, rfl⟩
    rw [← hc, decide_eq_true_eq]
    exact ⟨fun h2 => ⟨h1, h2⟩, fun ⟨_, h2⟩ => h2⟩
  · rw [_root_.if_neg (by omega)]
    refine ⟨false, ?_, rfl⟩
    rw [← hc]
    simp [h1]
/-- a class by its numbers -/
def Cl (c : List Rg) (P : Int → Prop) (n : Nat) : Prop := Stl c ∧ (∀ r, In c r ↔ P r ∧ 0 ≤ r ∧ r ≤ 1114111) ∧ c.length ≤ n
theorem Cl.uniq {c d : List Rg} {P Q : Int → Prop} {n m : Nat} (h : Cl c P n) (h' : Cl d Q m) (he : ∀ r, 0 ≤ r → r ≤ 1114111 → (P r ↔ Q r)) : c = d := by
  refine stl_ext h.1 h'.1 fun r => ?_
  rw [h.2.1, h'.2.1]
  constructor
  · rintro ⟨a, b, c⟩; exact ⟨(he r b c).1 a, b, c⟩
  · rintro ⟨a, b, c⟩; exact ⟨(he r b c).2 a, b, c⟩
theorem Cl.made {l : List Rg} {n : Nat} (hl : l.length ≤ n) (hn : n ≤ 100000) : ∃ c, Ev (fun k => class_Made.f k l) c ∧ Cl c (In l) n := by
  obtain ⟨c, h1, h2, h3⟩ := Made_ev l (by omega)
  exact ⟨c, h1, h2.1, h2.2, by omega⟩
theorem Cl.not {c : List Rg} {P : Int → Prop} {n : Nat} (h : Cl c P n) (hn : n ≤ 100000) : ∃ d, Ev (fun k => class_Class_Not.f k c) d ∧ Cl d (fun r => ¬ P r) (n + 1) := by
  have hl := h.2.2
  refine ⟨nott c, Not_ev (by omega) h.1, nott_stl h.1, fun r => ?_, by have := nott_len c; omega⟩
  rw [nott_in h.1, h.2.1]
  constructor
  · rintro ⟨a, b, c⟩; exact ⟨fun hp => c ⟨hp, a, b⟩, a, b⟩
  · rintro ⟨a, b, c⟩; exact ⟨b, c, fun hp => a hp.1⟩
theorem Cl.same {c d : List Rg} {P Q : Int → Prop} {n m : Nat} (h : Cl c P n) (h' : Cl d Q m) (hn : n ≤ 100000) (he : ∀ r, 0 ≤ r → r ≤ 1114111 → (P r ↔ Q r)) : Ev (fun k => class_Class_Same.f k c d) true :=
  Same_yes (by have := h.2.2; omega) (h.uniq h' he)
end Go.Proofs.YtnpohgoacbpcjaaGreatDoor.P
namespace Go.Proofs.YtnpohgoacbpcjaaGreatDoor.P
open Go.RowKit Go.Proofs.YtnpohgoacbpcjaaGreatDoorW.PrintWords Go.Proofs.YtnpohgoacbpcjaaGreatDoorW.PrintLast Go.Proofs.YtnpohgoacbpcjaaGreatDoorW.PrintMore Go.Proofs.YtnpohgoacbpcjaaGreatDoor.FM
set_option linter.unusedVariables false
set_option linter.unusedSimpArgs false
end Go.Proofs.YtnpohgoacbpcjaaGreatDoor.P
namespace Go.Proofs.YtnpohgoacbpcjaaGreatDoor.P
open Go.RowKit Go.Proofs.YtnpohgoacbpcjaaGreatDoorW.PrintWords Go.Proofs.YtnpohgoacbpcjaaGreatDoorW.PrintLast Go.Proofs.YtnpohgoacbpcjaaGreatDoorW.PrintMore Go.Proofs.YtnpohgoacbpcjaaGreatDoor.FM
set_option linter.unusedVariables false
set_option linter.unusedSimpArgs false
/-! a text that is read: what is left of it -/
def sk (t : List UInt8) : List UInt8 := t.dropWhile (· == 32)
def pos (l t : List UInt8) : Int := (l.length : Int) - (t.length : Int)
def hd (t : List UInt8) : Int := match t with | [] => 0 | c :: _ => (c.toNat : Int)
theorem sk_suf (t : List UInt8) : sk t <:+ t := List.dropWhile_suffix _
theorem sk_cons_32 (u : List UInt8) : sk (32 :: u) = sk u := rfl
theorem sk_cons_ne {c : UInt8} (h : c ≠ 32) (u : List UInt8) : sk (c :: u) = c :: u := by
  unfold sk
  rw [List.dropWhile_cons, _root_.if_neg (by simpa using h)]
theorem sk_sk (t : List UInt8) : sk (sk t) = sk t := by
  induction t with
  | nil => rfl
  | cons c u ih =>
    by_cases h : c = 32
    · subst h; rw [sk_cons_32]; exact ih
    · rw [sk_cons_ne h, sk_cons_ne h]
theorem pos_len (l : List UInt8) : pos l l = 0 := by unfold pos; omega
theorem bt_suf {l u : List UInt8} {c : UInt8} (h : (c :: u) <:+ l) : bt (S l) (pos l (c :: u)) = (c.toNat : Int) := by
  obtain ⟨p, rfl⟩ := h
  have : (pos (p ++ c :: u) (c :: u)).toNat = p.length := by unfold pos; rw [List.length_append]; omega
  rw [bt_S, this, List.getD_eq_getElem?_getD, List.getElem?_append_right (Nat.le_refl _), Nat.sub_self]; rfl
theorem ext_suf {l t : List UInt8} (h : t <:+ l) : (S l).extract (pos l t).toNat (S l).size = S t := by
  obtain ⟨p, rfl⟩ := h
  have : (pos (p ++ t) t).toNat = p.length := by unfold pos; rw [List.length_append]; omega
  rw [this, S_size, S_extract, List.take_length, List.drop_left]
theorem suf_tail {l u : List UInt8} {c : UInt8} (h : (c :: u) <:+ l) : u <:+ l := (List.suffix_cons c u).trans h
theorem pos_tail (l u : List UInt8) (c : UInt8) : pos l (c :: u) + 1 = pos l u := by unfold pos; rw [List.length_cons]; omega
abbrev Le4 (l : List UInt8) : Prop := l.length ≤ 20000
theorem peek_ev (l : List UInt8) (hl : Le4 l) (b : Int) : ∀ t : List UInt8, t <:+ l → Ev (fun k => class_reader_peek.f k (S l) (pos l t) b) (hd (sk t), S l, pos l (sk t), b)
  | [], h => by
    unfold class_reader_peek.f
    refine Ev.step (f := fun _ => some (0, S l, pos l [], b)) (fun k => ?_) (Ev.now _)
    have : pos l [] = l.length := by unfold pos; simp
    rw [class_reader_peek.l0, this, S_size, _root_.if_neg (by omega), _root_.if_pos rfl]
  | c :: u, h => by
    have hlen := h.length_le
    rw [List.length_cons] at hlen
    have hp : pos l (c :: u) = (l.length : Int) - (u.length + 1 : Nat) := by unfold pos; rw [List.length_cons]
    have hb := bt_suf h
    by_cases hc : c = 32
    · subst hc
      have ih := peek_ev l hl b u (suf_tail h)
      rw [sk_cons_32]
      unfold class_reader_peek.f at ih ⊢
      refine Ev.step (fun k => ?_) ih
      rw [class_reader_peek.l0, S_size, _root_.if_pos (by omega), _root_.if_pos (by omega), hb, _root_.if_pos (show (((32 : UInt8).toNat : Nat) : Int) = 32 from rfl), w64 (by omega) (by omega), pos_tail]
    · rw [sk_cons_ne hc]
      unfold class_reader_peek.f
      refine Ev.step (f := fun _ => some ((c.toNat : Int), S l, pos l (c :: u), b)) (fun k => ?_) (Ev.now _)
      have h32 : ¬ (c.toNat : Int) = 32 := by
        intro e
        apply hc
        apply UInt8.toNat_inj.1
        show c.toNat = 32
        omega
      rw [class_reader_peek.l0, S_size, _root_.if_pos (by omega), _root_.if_pos (by omega), hb, _root_.if_neg h32, _root_.if_neg (by omega)]
def tk (c : UInt8) (t : List UInt8) : Option (List UInt8) := match sk t with | x :: u => if x = c then some u else none | [] => none
theorem tk_some {c : UInt8} {t u : List UInt8} (h : tk c t = some u) : sk t = c :: u := by
  unfold tk at h
  split at h
  · rename_i x v e
    split at h
    · rename_i hx
      rw [e, hx, Option.some.inj h]
    · cases h
  · cases h
theorem tk_of {c : UInt8} {t u : List UInt8} (h : sk t = c :: u) : tk c t = some u := by unfold tk; rw [h]; simp
theorem tk_none {c : UInt8} {t : List UInt8} (h : tk c t = none) (u : List UInt8) : sk t ≠ c :: u := by
  intro e
  rw [tk_of e] at h
  cases h
theorem take_yes {l t u : List UInt8} (hl : Le4 l) (b : Int) (ht : t <:+ l) {c : UInt8} {n : Int} (hn : n = (c.toNat : Int)) (h : tk c t = some u) : Ev (fun k => class_reader_take.f k (S l) (pos l t) b n) (true, S l, pos l u, b) := by
  have hp := peek_ev l hl b t ht
  have hs := tk_some h
  have h2 := (sk_suf t).trans ht
  rw [hs] at hp h2
  have hlen := h2.length_le
  rw [List.length_cons] at hlen
  unfold class_reader_take.f
  refine Ev.bind hp (Ev.if_pos (by rw [hn]; rfl) (Ev.if_neg ?_ ?_))
  · show ¬ pos l (c :: u) = ((S l).size : Int)
    rw [S_size]; unfold pos; rw [List.length_cons]; omega
  · have : wrap64 (pos l (c :: u) + 1) = pos l u := by rw [pos_tail]; exact w64 (by unfold pos; omega) (by unfold pos; omega)
    show Ev (fun _ => some (true, S l, wrap64 (pos l (c :: u) + 1), b)) _
    rw [this]
    exact Ev.now _
theorem take_no {l t : List UInt8} (hl : Le4 l) (b : Int) (ht : t <:+ l) {c : UInt8} {n : Int} (hn : n = (c.toNat : Int)) (h0 : n ≠ 0) (h : tk c t = none) : Ev (fun k => class_reader_take.f k (S l) (pos l t) b n) (false, S l, pos l (sk t), b) := by
  have hp := peek_ev l hl b t ht
  unfold class_reader_take.f
  refine Ev.bind hp (Ev.if_neg ?_ (Ev.now _))
  show ¬ hd (sk t) = n
  have h3 := tk_none h
  generalize sk t = q at h3
  cases q with
  | nil => exact fun e => h0 e.symm
  | cons x v =>
    intro e
    apply h3 v
    congr 1
    apply UInt8.toNat_inj.1
    have : (x.toNat : Int) = n := e
    omega
/-! behind a backslash -/
def hexc (c : UInt8) : Bool := (48 ≤ c.toNat && c.toNat ≤ 57) || (97 ≤ c.toNat && c.toNat ≤ 102)
def hexd (c : UInt8) : Nat := if c.toNat ≤ 57 then c.toNat - 48 else c.toNat - 87
def hexv (l : List UInt8) : Nat := l.foldl (fun a c => a * 16 + hexd c) 0
theorem dig_hex {c : UInt8} (h : hexc c = true) : strconv_ParseInt.dig c = some (hexd c) := by
  unfold hexc at h
  simp only [Bool.or_eq_true, Bool.and_eq_true, decide_eq_true_eq] at h
  unfold strconv_ParseInt.dig hexd
  rcases h with h | h
  · rw [_root_.if_pos h, _root_.if_pos h.2]
  · rw [_root_.if_neg (by omega), _root_.if_pos h, _root_.if_neg (by omega)]
theorem hex_all : ∀ (d : List UInt8) (a : Nat), (∀ c ∈ d, hexc c = true) → strconv_ParseInt.hex a d = some (d.foldl (fun a c => a * 16 + hexd c) a)
  | [], a, _ => rfl
  | c :: d, a, h => by
    rw [strconv_ParseInt.hex, dig_hex (h c List.mem_cons_self), Option.bind_some, List.foldl_cons]
    exact hex_all d _ (fun x hx => h x (List.mem_cons_of_mem _ hx))
theorem hexd_lt {c : UInt8} (h : hexc c = true) : hexd c < 16 := by
  unfold hexc at h
  simp only [Bool.or_eq_true, Bool.and_eq_true, decide_eq_true_eq] at h
  unfold hexd
  split <;> omega
theorem hexv_lt : ∀ (d : List UInt8) (a : Nat), (∀ c ∈ d, hexc c = true) → d.foldl (fun a c => a * 16 + hexd c) a < (a + 1) * 16 ^ d.length
  | [], a, _ => by simp
  | c :: d, a, h => by
    have h1 := hexd_lt (h c List.mem_cons_self)
    have h2 := hexv_lt d (a * 16 + hexd c) (fun x hx => h x (List.mem_cons_of_mem _ hx))
    rw [List.foldl_cons, List.length_cons, Nat.pow_succ]
    have h3 : (a * 16 + hexd c + 1) * 16 ^ d.length ≤ ((a + 1) * 16) * 16 ^ d.length := Nat.mul_le_mul_right _ (by omega)
    rw [Nat.mul_comm (16 ^ d.length) 16, ← Nat.mul_assoc]
    omega
def hexSet : List UInt8 := [48, 49, 50, 51, 52, 53, 54, 55, 56, 57, 97, 98, 99, 100, 101, 102]
theorem hexSet_mem (c : UInt8) : hexSet.contains c = hexc c := by
  have : ∀ n : Fin 256, hexSet.contains (UInt8.ofNat n.val) = hexc (UInt8.ofNat n.val) := by decide +kernel
  have h := this ⟨c.toNat, c.toNat_lt⟩
  simpa using h
theorem trim_nil {d : List UInt8} : Lib.trimS d hexSet = [] ↔ ∀ c ∈ d, hexc c = true := by
  have dw : ∀ q : List UInt8, q.dropWhile (hexSet.contains ·) = [] ↔ ∀ c ∈ q, hexc c = true := by
    intro q
    induction q with
    | nil => simp
    | cons c q ih =>
      rw [List.dropWhile_cons]
      by_cases h : hexSet.contains c = true
      · rw [_root_.if_pos h, ih]
        rw [hexSet_mem] at h
        constructor
        · intro h2 x hx
          rcases List.mem_cons.1 hx with rfl | hx
          · exact h
          · exact h2 x hx
        · exact fun h2 x hx => h2 x (List.mem_cons_of_mem _ hx)
      · rw [_root_.if_neg h]
        rw [hexSet_mem] at h
        constructor
        · intro h2; cases h2
        · intro h2; exact absurd (h2 c List.mem_cons_self) h
  unfold Lib.trimS Lib.trimLeftS Lib.trimRightS
  constructor
  · intro h c hc
    by_cases h2 : ∀ x ∈ d, hexc x = true
    · exact h2 c hc
    · exfalso
      have h3 : d.reverse.dropWhile (hexSet.contains ·) ≠ [] := fun e => h2 (fun x hx => (dw d.reverse).1 e x (List.mem_reverse.2 hx))
      obtain ⟨x, q, e⟩ := List.exists_cons_of_ne_nil h3
      have hx : hexc x ≠ true := by
        have := List.head?_dropWhile_not (hexSet.contains ·) d.reverse
        rw [e] at this
        simp only [List.head?_cons] at this
        rw [← hexSet_mem]
        simpa using this
      have h4 := (dw _).1 h x (by rw [e]; simp)
      exact hx h4
  · intro h
    rw [(dw d.reverse).2 (fun x hx => h x (List.mem_reverse.1 hx))]
    rfl
def spec (c : UInt8) : Bool := [91, 93, 45, 94, 92, 32].contains c
def escD (t d0 : List UInt8) : Option (Int × List UInt8) :=
  if d0.length < t.length ∧ [92, 117, 123] <+: d0 ∧ 1 ≤ (d0.drop 3).length ∧ (d0.drop 3).length ≤ 6 ∧ (d0.drop 3).all hexc = true ∧ hexv (d0.drop 3) ≤ 1114111 then some ((hexv (d0.drop 3) : Int), t.drop (d0.length + 1)) else none
def esc : List UInt8 → Option (Int × List UInt8)
  | x :: c :: r => if spec c = true then some ((c.toNat : Int), r) else escD (x :: c :: r) ((x :: c :: r).takeWhile (· != 125))
  | _ => none
theorem idx_take (c : UInt8) : ∀ t : List UInt8, Lib.indexByte t c = if (t.takeWhile (· != c)).length < t.length then ((t.takeWhile (· != c)).length : Int) else -1
  | [] => rfl
  | x :: t => by
    rw [Lib.indexByte, idx_take c t, List.takeWhile_cons]
    by_cases h : x = c
    · subst h
      simp
    · have hb : (x == c) = false := by simpa using h
      have hn : (x != c) = true := by simpa using h
      rw [hb, hn]
      simp only [Bool.false_eq_true, if_false, if_true, List.length_cons]
      generalize (t.takeWhile (· != c)).length = m
      by_cases h2 : m < t.length
      · rw [_root_.if_pos h2, _root_.if_neg (show ¬ ((m : Int) == -1) = true by simp), _root_.if_pos (by omega)]; try rfl
      · rw [_root_.if_neg h2, _root_.if_pos (show ((-1 : Int) == -1) = true by decide), _root_.if_neg (by omega)]
theorem take_takeWhile (p : UInt8 → Bool) : ∀ t : List UInt8, t.take (t.takeWhile p).length = t.takeWhile p
  | [] => rfl
  | x :: t => by
    rw [List.takeWhile_cons]
    split
    · rw [List.length_cons, List.take_succ_cons, take_takeWhile p t]
    · rfl
theorem Cut_ev (t : List UInt8) (ht : Le4 t) : strings_Cut.f (S t) (⟨#[125]⟩ : ByteArray) = some (if (t.takeWhile (· != 125)).length < t.length then (S (t.takeWhile (· != 125)), S (t.drop ((t.takeWhile (· != 125)).length + 1)), true) else (S t, S [], false)) := by
  have hi : stringslite_Index.f (S t) (⟨#[125]⟩ : ByteArray) = some (Lib.indexByte t 125) := by
    unfold stringslite_Index.f
    rw [dif_pos (show (⟨#[125]⟩ : ByteArray).size = 1 from rfl)]
    rfl
  unfold strings_Cut.f stringslite_Cut.f
  rw [hi, idx_take]
  rw [Option.bind_some, show ((⟨#[125]⟩ : ByteArray).size : Int) = 1 from rfl, S_size]
  by_cases h : (t.takeWhile (· != 125)).length < t.length
  · have h3 : (if (t.takeWhile (· != 125)).length < t.length then ((t.takeWhile (· != 125)).length : Int) else -1) = ((t.takeWhile (· != 125)).length : Int) := _root_.if_pos h
    rw [h3, w64 (by omega) (by omega), _root_.if_pos (by omega), _root_.if_pos (by omega), _root_.if_pos (by omega), _root_.if_pos (by omega), _root_.if_pos (by omega), _root_.if_pos h, S_extract, S_extract, Int.toNat_natCast, List.take_length, show ((t.takeWhile (· != 125)).length + 1 : Int).toNat = (t.takeWhile (· != 125)).length + 1 by omega, List.drop_zero, take_takeWhile]
    rfl
  · have h3 : (if (t.takeWhile (· != 125)).length < t.length then ((t.takeWhile (· != 125)).length : Int) else -1) = -1 := _root_.if_neg h
    rw [h3, _root_.if_neg (by omega), _root_.if_neg h]
    rfl
theorem isPrefix_take {p d : List UInt8} : p <+: d ↔ d.take p.length = p := by
  constructor
  · rintro ⟨q, rfl⟩; exact List.take_left
  · intro h; exact ⟨d.drop p.length, by conv => rhs; rw [← List.take_append_drop p.length d, h]⟩
theorem CutPrefix_ev (d : List UInt8) (hd' : Le4 d) : strings_CutPrefix.f (S d) (⟨#[92, 117, 123]⟩ : ByteArray) = some (if [92, 117, 123] <+: d then (S (d.drop 3), true) else (S d, false)) := by
  have hp : stringslite_HasPrefix.f (S d) (⟨#[92, 117, 123]⟩ : ByteArray) = some (decide ([92, 117, 123] <+: d)) := by
    unfold stringslite_HasPrefix.f
    rw [show ((⟨#[92, 117, 123]⟩ : ByteArray).size : Int) = 3 from rfl, S_size]
    by_cases h : (d.length : Int) ≥ 3
    · rw [_root_.if_pos h, _root_.if_pos (by omega), _root_.if_pos (by omega), S_extract, S_toList, show (3 : Int).toNat = 3 from rfl, List.drop_zero]
      congr 1
      rw [show (⟨#[92, 117, 123]⟩ : ByteArray).toList = [92, 117, 123] from S_toList _]
      rw [Bool.eq_iff_iff, beq_iff_eq, decide_eq_true_eq, isPrefix_take]
      rfl
    · rw [_root_.if_neg h, decide_eq_false]
      intro hx
      have := hx.length_le
      simp at this
      omega
  unfold strings_CutPrefix.f stringslite_CutPrefix.f
  rw [hp, Option.bind_some, show ((⟨#[92, 117, 123]⟩ : ByteArray).size : Int) = 3 from rfl, S_size]
  by_cases h : [92, 117, 123] <+: d
  · have hlen := h.length_le
    simp at hlen
    rw [decide_eq_true h, _root_.if_pos rfl, _root_.if_pos (by omega), _root_.if_pos (by omega), _root_.if_pos h, Option.bind_some, S_extract, List.take_length]
    rfl
  · rw [decide_eq_false h, _root_.if_neg (by decide), _root_.if_neg h]
    rfl
theorem Trim_set (d : List UInt8) (hd' : Le4 d) : strings_Trim.f (S d) (⟨#[48, 49, 50, 51, 52, 53, 54, 55, 56, 57, 97, 98, 99, 100, 101, 102]⟩ : ByteArray) = some (S (Lib.trimS d hexSet)) := by
  unfold strings_Trim.f
  rw [_root_.if_pos ⟨by rw [S_size]; omega, by decide, by decide⟩]
  rfl
theorem fail_ev (s : ByteArray) (p : Int) : class_reader_fail.f s p (-1) = some (s, p, p) := by
  unfold class_reader_fail.f
  rw [_root_.if_pos (by omega)]
theorem w32_hex {d : List UInt8} (h1 : d.length ≤ 6) (h2 : d.all hexc = true) : wrap32 (hexv d : Int) = (hexv d : Int) := by
  have h := hexv_lt d 0 (fun c hc => List.all_eq_true.1 h2 c hc)
  have h3 : 16 ^ d.length ≤ 16 ^ 6 := Nat.pow_le_pow_right (by omega) h1
  have h4 : hexv d < 16 ^ 6 := by unfold hexv; omega
  exact w32 (by omega) (by have : (16 : Nat) ^ 6 = 16777216 := by decide
                           omega)
theorem escape_j1 {l t : List UInt8} (hl : Le4 l) (ht : t <:+ l) (d : List UInt8) (q : Bool) (h1 : q = true → 1 ≤ d.length ∧ d.length ≤ 6 ∧ d.all hexc = true) (hd' : d.length ≤ 20000) :
    Ev (fun k => class_reader_escape.j1 k (S d) q (S l) (pos l t) (-1)) (if q = true ∧ hexv d ≤ 1114111 then ((hexv d : Int), S l, pos l t + ((d.length : Int) + 4), -1) else (0, S l, pos l t, pos l t)) := by
  have hlen := ht.length_le
  cases q with
  | false =>
    rw [_root_.if_neg (by simp)]
    refine Ev.step (f := fun _ => some (0, S l, pos l t, pos l t)) (fun k => ?_) (Ev.now _)
    rw [class_reader_escape.j1, _root_.if_neg (by decide), fail_ev]; rfl
  | true =>
    obtain ⟨a, b, c⟩ := h1 rfl
    have hpi : strconv_ParseInt.f (S d) 16 32 = some ((hexv d : Int), none) := by
      unfold strconv_ParseInt.f
      rw [_root_.if_pos ⟨rfl, rfl, by rw [S_size]; exact a, by rw [S_size]; exact b⟩, S_data, hex_all d 0 (fun x hx => List.all_eq_true.1 c x hx)]
      rfl
    have hw := w32_hex b c
    by_cases h : hexv d ≤ 1114111
    · rw [_root_.if_pos ⟨rfl, h⟩]
      refine Ev.step (f := fun _ => some ((hexv d : Int), S l, pos l t + ((d.length : Int) + 4), -1)) (fun k => ?_) (Ev.now _)
      have e1 : wrap64 ((d.length : Int) + 4) = (d.length : Int) + 4 := w64 (by omega) (by omega)
      have e2 : wrap64 (pos l t + ((d.length : Int) + 4)) = pos l t + ((d.length : Int) + 4) := w64 (by unfold pos; omega) (by unfold pos; omega)
      rw [class_reader_escape.j1, _root_.if_pos rfl, hpi, Option.bind_some, hw, _root_.if_pos (by omega), S_size, e1, e2]
    · rw [_root_.if_neg (fun hh => h hh.2)]
      refine Ev.step (f := fun _ => some (0, S l, pos l t, pos l t)) (fun k => ?_) (Ev.now _)
      rw [class_reader_escape.j1, _root_.if_pos rfl, hpi, Option.bind_some, hw, _root_.if_neg (by omega), fail_ev]; rfl
theorem escape_j0 {l t : List UInt8} (hl : Le4 l) (ht : t <:+ l) (d0 : List UInt8) (hd0 : d0 = t.takeWhile (· != 125)) :
    Ev (fun k => class_reader_escape.j0 k (S t) false (S l) (pos l t) (-1))
      (if d0.length < t.length ∧ [92, 117, 123] <+: d0 ∧ 1 ≤ (d0.drop 3).length ∧ (d0.drop 3).length ≤ 6 ∧ (d0.drop 3).all hexc = true ∧ hexv (d0.drop 3) ≤ 1114111 then ((hexv (d0.drop 3) : Int), S l, pos l (t.drop (d0.length + 1)), -1) else (0, S l, pos l t, pos l t)) := by
  have hlen := ht.length_le
  have hl0 : d0.length ≤ t.length := by rw [hd0]; exact (List.takeWhile_sublist _).length_le
  have hdl : (d0.drop 3).length = d0.length - 3 := List.length_drop
  have no : ∀ d : List UInt8, d.length ≤ 20000 → Ev (fun k => class_reader_escape.j1 k (S d) false (S l) (pos l t) (-1)) (0, S l, pos l t, pos l t) := fun d hd' => by
    have := escape_j1 hl ht d false (fun h => by cases h) hd'
    rwa [_root_.if_neg (by simp)] at this
  by_cases h1 : d0.length < t.length
  · have hc := Cut_ev t (by omega)
    rw [← hd0, _root_.if_pos h1] at hc
    by_cases h2 : [92, 117, 123] <+: d0
    · have hcp := CutPrefix_ev d0 (by omega)
      rw [_root_.if_pos h2] at hcp
      have hpl := h2.length_le
      simp at hpl
      have gen : ∀ (q : Bool), (q = true → 1 ≤ (d0.drop 3).length ∧ (d0.drop 3).length ≤ 6 ∧ (d0.drop 3).all hexc = true) → (q = false → ¬ (1 ≤ (d0.drop 3).length ∧ (d0.drop 3).length ≤ 6 ∧ (d0.drop 3).all hexc = true)) →
          Ev (fun k => class_reader_escape.j1 k (S (d0.drop 3)) q (S l) (pos l t) (-1)) (if d0.length < t.length ∧ [92, 117, 123] <+: d0 ∧ 1 ≤ (d0.drop 3).length ∧ (d0.drop 3).length ≤ 6 ∧ (d0.drop 3).all hexc = true ∧ hexv (d0.drop 3) ≤ 1114111 then ((hexv (d0.drop 3) : Int), S l, pos l (t.drop (d0.length + 1)), -1) else (0, S l, pos l t, pos l t)) := by
        intro q g1 g2
        have := escape_j1 hl ht (d0.drop 3) q g1 (by omega)
        have e : pos l t + (((d0.drop 3).length : Int) + 4) = pos l (t.drop (d0.length + 1)) := by unfold pos; rw [List.length_drop, List.length_drop]; omega
        rw [e] at this
        cases q with
        | true =>
          have g := g1 rfl
          by_cases h3 : hexv (d0.drop 3) ≤ 1114111
          · rw [_root_.if_pos ⟨rfl, h3⟩] at this
            rw [_root_.if_pos ⟨h1, h2, g.1, g.2.1, g.2.2, h3⟩]
            exact this
          · rw [_root_.if_neg (fun hh => h3 hh.2)] at this
            rw [_root_.if_neg (fun hh => h3 hh.2.2.2.2.2)]
            exact this
        | false =>
          rw [_root_.if_neg (by simp)] at this
          rw [_root_.if_neg (fun hh => g2 rfl ⟨hh.2.2.1, hh.2.2.2.1, hh.2.2.2.2.1⟩)]
          exact this
      by_cases h3 : 1 ≤ (d0.drop 3).length
      · by_cases h4 : (d0.drop 3).length ≤ 6
        · have g := gen (decide (Lib.trimS (d0.drop 3) hexSet = [])) (fun hq => ⟨h3, h4, List.all_eq_true.2 (trim_nil.1 (of_decide_eq_true hq))⟩) (fun hq hh => of_decide_eq_false hq (trim_nil.2 (List.all_eq_true.1 hh.2.2)))
          refine Ev.step (fun k => ?_) g
          rw [class_reader_escape.j0, _root_.if_neg (by decide), hc, Option.bind_some, hcp, Option.bind_some, _root_.if_pos rfl, _root_.if_pos rfl, S_size, _root_.if_pos (by omega), _root_.if_pos (by omega), Trim_set _ (by omega), Option.bind_some, S_toList]
          congr 1
          rw [Bool.eq_iff_iff, beq_iff_eq, decide_eq_true_eq]
        · have g := gen false (fun hq => by cases hq) (fun _ hh => h4 hh.2.1)
          refine Ev.step (fun k => ?_) g
          rw [class_reader_escape.j0, _root_.if_neg (by decide), hc, Option.bind_some, hcp, Option.bind_some, _root_.if_pos rfl, _root_.if_pos rfl, S_size, _root_.if_pos (by omega), _root_.if_neg (by omega)]
      · have g := gen false (fun hq => by cases hq) (fun _ hh => h3 hh.1)
        refine Ev.step (fun k => ?_) g
        rw [class_reader_escape.j0, _root_.if_neg (by decide), hc, Option.bind_some, hcp, Option.bind_some, _root_.if_pos rfl, _root_.if_pos rfl, S_size, _root_.if_neg (by omega)]
    · rw [_root_.if_neg (fun hh => h2 hh.2.1)]
      have hcp := CutPrefix_ev d0 (by omega)
      rw [_root_.if_neg h2] at hcp
      refine Ev.step (fun k => ?_) (no d0 (by omega))
      rw [class_reader_escape.j0, _root_.if_neg (by decide), hc, Option.bind_some, hcp, Option.bind_some, _root_.if_neg (show ¬ (false = true) by decide)]
  · rw [_root_.if_neg (fun hh => h1 hh.1)]
    have hc := Cut_ev t (by omega)
    rw [← hd0, _root_.if_neg h1] at hc
    have hcp := CutPrefix_ev t (by omega)
    by_cases h2 : [92, 117, 123] <+: t
    · rw [_root_.if_pos h2] at hcp
      refine Ev.step (fun k => ?_) (no (t.drop 3) (by rw [List.length_drop]; omega))
      rw [class_reader_escape.j0, _root_.if_neg (by decide), hc, Option.bind_some, hcp, Option.bind_some, _root_.if_pos rfl, _root_.if_neg (show ¬ (false = true) by decide)]
    · rw [_root_.if_neg h2] at hcp
      refine Ev.step (fun k => ?_) (no t (by omega))
      rw [class_reader_escape.j0, _root_.if_neg (by decide), hc, Option.bind_some, hcp, Option.bind_some, _root_.if_neg (show ¬ (false = true) by decide)]
def outE (l t : List UInt8) (o : Option (Int × List UInt8)) : Int × ByteArray × Int × Int := match o with
  | some (p, u) => (p, S l, pos l u, -1)
  | none => (0, S l, pos l t, pos l t)
theorem escape_ev {l t : List UInt8} (hl : Le4 l) (ht : t <:+ l) : Ev (fun k => class_reader_escape.f k (S l) (pos l t) (-1)) (outE l t (esc t)) := by
  have hlen := ht.length_le
  have e1 : pos l t ≤ l.length := by unfold pos; omega
  have e0 : 0 ≤ pos l t := by unfold pos; omega
  have short : t.length ≤ 1 → esc t = none := by
    intro h
    match t, h with
    | [], _ => rfl
    | [x], _ => rfl
  unfold class_reader_escape.f
  rw [ext_suf ht, S_size, S_size]
  refine Ev.if_pos e0 (Ev.if_pos e1 ?_)
  by_cases h1 : (t.length : Int) > 1
  · refine Ev.if_pos h1 (Ev.if_pos (by omega) ?_)
    match t, h1, ht, hlen, e0 with
    | x :: c :: r, h1, ht, hlen, e0 =>
      have hb : bt (S (x :: c :: r)) 1 = (c.toNat : Int) := by rw [bt_S]; rfl
      have hi : strings_IndexByte.f (⟨#[91, 93, 45, 94, 92, 32]⟩ : ByteArray) (bt (S (x :: c :: r)) 1) = some (Lib.indexByte [91, 93, 45, 94, 92, 32] c) := by
        unfold strings_IndexByte.f
        rw [hb, Int.toNat_natCast]
        congr 2
        simp
      have hs : decide (Lib.indexByte [91, 93, 45, 94, 92, 32] c ≥ 0) = spec c := by
        have : ∀ n : Fin 256, decide (Lib.indexByte [91, 93, 45, 94, 92, 32] (UInt8.ofNat n.val) ≥ 0) = spec (UInt8.ofNat n.val) := by decide +kernel
        have h := this ⟨c.toNat, c.toNat_lt⟩
        simpa using h
      refine Ev.const hi ?_
      rw [hs]
      by_cases h2 : spec c = true
      · rw [show esc (x :: c :: r) = some ((c.toNat : Int), r) from _root_.if_pos h2, h2]
        refine Ev.step (f := fun _ => some ((c.toNat : Int), S l, pos l r, -1)) (fun k => ?_) (Ev.now _)
        have hc := c.toNat_lt
        have e2 : wrap64 (pos l (x :: c :: r) + 2) = pos l r := by
          rw [List.length_cons, List.length_cons] at hlen
          have : pos l (x :: c :: r) + 2 = pos l r := by unfold pos; rw [List.length_cons, List.length_cons]; omega
          rw [this]
          exact w64 (by unfold pos; omega) (by unfold pos; omega)
        rw [class_reader_escape.j0, _root_.if_pos rfl, S_size, _root_.if_pos (by simp; omega), hb, w32 (by omega) (by omega), e2]
      · rw [show esc (x :: c :: r) = escD (x :: c :: r) ((x :: c :: r).takeWhile (· != 125)) from _root_.if_neg h2]
        rw [Bool.not_eq_true] at h2
        rw [h2]
        have := escape_j0 hl ht _ rfl
        unfold escD
        split
        · rename_i hh; rw [_root_.if_pos hh] at this; exact this
        · rename_i hh; rw [_root_.if_neg hh] at this; exact this
  · refine Ev.if_neg h1 ?_
    rw [short (by omega)]
    have := escape_j0 hl ht _ rfl
    rw [_root_.if_neg] at this
    · exact this
    · intro hh
      have h2 := hh.2.1.length_le
      have h3 : (t.takeWhile (· != 125)).length ≤ t.length := (List.takeWhile_sublist _).length_le
      simp at h2
      omega
theorem esc_len {t u : List UInt8} {p : Int} (h : esc t = some (p, u)) : u <:+ t ∧ u.length < t.length ∧ 0 ≤ p ∧ p ≤ 1114111 := by
  unfold esc at h
  split at h
  · rename_i x c r
    split at h
    · injection h with h
      injection h with h1 h2
      subst h1 h2
      have := c.toNat_lt
      exact ⟨suf_tail (List.suffix_cons x (c :: r)), by simp; omega, by omega, by omega⟩
    · unfold escD at h
      split at h
      · rename_i hh
        injection h with h
        injection h with h1 h2
        subst h1 h2
        refine ⟨List.drop_suffix _ _, ?_, by omega, by omega⟩
        rw [List.length_drop]
        have := hh.1
        omega
      · cases h
  · cases h
/-! one code point -/
def decB (size : Nat) (at' : Nat → Nat) : Nat × Nat :=
  let cont (k : Nat) : Bool := 0 + k < size && at' k / 64 == 2
  let b0 := at' 0
  if b0 < 0x80 then (b0, 1)
  else if b0 / 32 == 6 && cont 1 then
    let c := (b0 % 32) * 64 + at' 1 % 64
    if c ≥ 0x80 then (c, 2) else (Utf8.runeError, 1)
  else if b0 / 16 == 14 && cont 1 && cont 2 then
    let c := (b0 % 16) * 4096 + (at' 1 % 64) * 64 + at' 2 % 64
    if c ≥ 0x800 && Utf8.valid c then (c, 3) else (Utf8.runeError, 1)
  else if b0 / 8 == 30 && cont 1 && cont 2 && cont 3 then
    let c := (b0 % 8) * 262144 + (at' 1 % 64) * 4096 + (at' 2 % 64) * 64 + at' 3 % 64
    if c ≥ 0x10000 && Utf8.valid c then (c, 4) else (Utf8.runeError, 1)
  else (Utf8.runeError, 1)
theorem decB_eq (u : List UInt8) (hu : u ≠ []) : Lib.decodeGo (S u) = decB u.length (fun k => ((S u).get! (0 + k)).toNat) := by
  have hlen : u.length ≠ 0 := fun h => hu (List.length_eq_zero_iff.1 h)
  unfold Lib.decodeGo
  rw [S_size, _root_.if_neg hlen]
  rfl
theorem decB_facts (n : Nat) (hn : 0 < n) (q : Nat → Nat) : (decB n q).1 ≤ 1114111 ∧ 1 ≤ (decB n q).2 ∧ (decB n q).2 ≤ n := by
  unfold decB Utf8.runeError Utf8.valid
  dsimp only
  split
  · dsimp only; omega
  split
  · rename_i h
    simp only [Bool.and_eq_true, decide_eq_true_eq] at h
    split <;> (dsimp only; omega)
  split
  · rename_i h
    simp only [Bool.and_eq_true, decide_eq_true_eq] at h
    split
    · rename_i h2
      simp only [Bool.and_eq_true, Bool.or_eq_true, decide_eq_true_eq] at h2
      dsimp only; omega
    · dsimp only; omega
  split
  · rename_i h
    simp only [Bool.and_eq_true, decide_eq_true_eq] at h
    split
    · rename_i h2
      simp only [Bool.and_eq_true, Bool.or_eq_true, decide_eq_true_eq] at h2
      dsimp only; omega
    · dsimp only; omega
  · dsimp only; omega
theorem decode_facts (u : List UInt8) (hu : u ≠ []) : (Lib.decodeGo (S u)).1 ≤ 1114111 ∧ 1 ≤ (Lib.decodeGo (S u)).2 ∧ (Lib.decodeGo (S u)).2 ≤ u.length := by
  rw [decB_eq u hu]
  exact decB_facts _ (List.length_pos_iff.2 hu) _
def one (t : List UInt8) : Option (Int × List UInt8) := match sk t with
  | [] => none
  | c :: r => if c = 92 then esc (c :: r) else if c = 91 ∨ c = 93 ∨ c = 45 ∨ c = 94 then none else
      if (Lib.decodeGo (S (c :: r))).1 = 65533 ∧ (Lib.decodeGo (S (c :: r))).2 < 2 then none else some (((Lib.decodeGo (S (c :: r))).1 : Int), (c :: r).drop (Lib.decodeGo (S (c :: r))).2)
theorem one_len {t u : List UInt8} {p : Int} (h : one t = some (p, u)) : u <:+ t ∧ u.length < (sk t).length ∧ 0 ≤ p ∧ p ≤ 1114111 := by
  unfold one at h
  have hs := sk_suf t
  split at h
  · cases h
  · rename_i c r e
    rw [e] at hs ⊢
    split at h
    · obtain ⟨a, b, c⟩ := esc_len h
      exact ⟨a.trans hs, b, c⟩
    · split at h
      · cases h
      · split at h
        · cases h
        · injection h with h
          injection h with h1 h2
          subst h1 h2
          obtain ⟨a, b, d⟩ := decode_facts (c :: r) (by simp)
          exact ⟨(List.drop_suffix _ _).trans hs, by rw [List.length_drop]; omega, by omega, by omega⟩
theorem u8_eq {c : UInt8} {n : Nat} (hn : n < 256) : (c.toNat : Int) = (n : Int) ↔ c = UInt8.ofNat n := by
  constructor
  · intro h
    apply UInt8.toNat_inj.1
    rw [ofNat_toNat hn]; omega
  · intro h
    rw [h, ofNat_toNat hn]
theorem one_ev {l t : List UInt8} (hl : Le4 l) (ht : t <:+ l) : Ev (fun k => class_reader_one.f k (S l) (pos l t) (-1)) (outE l (sk t) (one t)) := by
  have hp := peek_ev l hl (-1) t ht
  have hs := (sk_suf t).trans ht
  have hlen := hs.length_le
  unfold class_reader_one.f
  refine Ev.bind hp ?_
  unfold one
  dsimp only
  obtain ⟨u, hu⟩ : ∃ u, sk t = u := ⟨_, rfl⟩
  rw [hu] at hs hlen ⊢
  have bad : Ev (fun k => (class_reader_fail.f (S l) (pos l u) (-1)).bind fun bt => some ((0 : Int), bt.1, bt.2.1, bt.2.2)) ((0 : Int), S l, pos l u, pos l u) := Ev.const (fail_ev _ _) (Ev.now _)
  cases u with
  | nil =>
    refine Ev.if_neg (by decide) (Ev.if_neg (by decide) (Ev.if_neg (by decide) (Ev.if_neg (by decide) (Ev.if_neg (by decide) (Ev.if_pos ?_ bad)))))
    show pos l [] = ((S l).size : Int)
    rw [S_size]; unfold pos; simp
  | cons c r =>
    show Ev (fun k => if (c.toNat : Int) = 92 then _ else if (c.toNat : Int) = 91 then _ else if (c.toNat : Int) = 93 then _ else if (c.toNat : Int) = 45 then _ else if (c.toNat : Int) = 94 then _ else _) _
    have q := fun (n : Nat) (hn : n < 256) => u8_eq (c := c) hn
    by_cases h92 : c = 92
    · refine Ev.if_pos ((q 92 (by decide)).2 h92) ?_
      have := escape_ev hl hs
      show Ev _ (outE l (c :: r) (if c = 92 then _ else _))
      rw [_root_.if_pos h92]
      exact Ev.bind this (Ev.now _)
    · refine Ev.if_neg (fun e => h92 ((q 92 (by decide)).1 e)) ?_
      show Ev _ (outE l (c :: r) (if c = 92 then _ else _))
      rw [_root_.if_neg h92]
      by_cases hsp : c = 91 ∨ c = 93 ∨ c = 45 ∨ c = 94
      · rw [_root_.if_pos hsp]
        by_cases h91 : c = 91
        · exact Ev.if_pos ((q 91 (by decide)).2 h91) bad
        refine Ev.if_neg (fun e => h91 ((q 91 (by decide)).1 e)) ?_
        by_cases h93 : c = 93
        · exact Ev.if_pos ((q 93 (by decide)).2 h93) bad
        refine Ev.if_neg (fun e => h93 ((q 93 (by decide)).1 e)) ?_
        by_cases h45 : c = 45
        · exact Ev.if_pos ((q 45 (by decide)).2 h45) bad
        refine Ev.if_neg (fun e => h45 ((q 45 (by decide)).1 e)) ?_
        by_cases h94 : c = 94
        · exact Ev.if_pos ((q 94 (by decide)).2 h94) bad
        · exact absurd hsp (by simp [h91, h93, h45, h94])
      · rw [_root_.if_neg hsp]
        have h91 : ¬ c = 91 := fun h => hsp (.inl h)
        have h93 : ¬ c = 93 := fun h => hsp (.inr (.inl h))
        have h45 : ¬ c = 45 := fun h => hsp (.inr (.inr (.inl h)))
        have h94 : ¬ c = 94 := fun h => hsp (.inr (.inr (.inr h)))
        have hlen' : r.length + 1 ≤ l.length := by rw [List.length_cons] at hlen; exact hlen
        have hpos : pos l (c :: r) = (l.length : Int) - (r.length + 1 : Nat) := by unfold pos; rw [List.length_cons]
        refine Ev.if_neg (fun e => h91 ((q 91 (by decide)).1 e)) (Ev.if_neg (fun e => h93 ((q 93 (by decide)).1 e)) (Ev.if_neg (fun e => h45 ((q 45 (by decide)).1 e)) (Ev.if_neg (fun e => h94 ((q 94 (by decide)).1 e)) (Ev.if_neg ?_ (Ev.if_pos ?_ (Ev.if_pos ?_ ?_))))))
        · rw [S_size]; omega
        · omega
        · rw [S_size]; omega
        · rw [ext_suf hs]
          obtain ⟨a, b, d⟩ := decode_facts (c :: r) (by simp)
          obtain ⟨⟨p, n⟩, hpn⟩ : ∃ x, Lib.decodeGo (S (c :: r)) = x := ⟨_, rfl⟩
          have hdec : utf8_DecodeRuneInString.f (S (c :: r)) = some ((p : Int), (n : Int)) := by unfold utf8_DecodeRuneInString.f; rw [hpn]
          rw [hpn] at a b d ⊢
          dsimp only at a b d ⊢
          rw [List.length_cons] at d
          refine Ev.const hdec ?_
          dsimp only
          have hgo : wrap64 (pos l (c :: r) + (n : Int)) = pos l ((c :: r).drop n) := by
            have : pos l (c :: r) + (n : Int) = pos l ((c :: r).drop n) := by unfold pos; rw [List.length_drop, List.length_cons]; omega
            rw [this]
            exact w64 (by unfold pos; rw [List.length_drop, List.length_cons]; omega) (by unfold pos; rw [List.length_drop, List.length_cons]; omega)
          by_cases h1 : p = 65533
          · by_cases h2 : n < 2
            · rw [_root_.if_pos (c := p = 65533 ∧ n < 2) ⟨h1, h2⟩]
              exact Ev.if_pos (by omega) (Ev.if_pos (by omega) bad)
            · rw [_root_.if_neg (c := p = 65533 ∧ n < 2) (fun hh => h2 hh.2), hgo]
              exact Ev.if_pos (by omega) (Ev.if_neg (by omega) (Ev.now _))
          · rw [_root_.if_neg (c := p = 65533 ∧ n < 2) (fun hh => h1 hh.1), hgo]
            exact Ev.if_neg (by omega) (Ev.now _)
end Go.Proofs.YtnpohgoacbpcjaaGreatDoor.P
namespace Go.Proofs.YtnpohgoacbpcjaaGreatDoor.P
open Go.RowKit Go.Proofs.YtnpohgoacbpcjaaGreatDoorW.PrintWords Go.Proofs.YtnpohgoacbpcjaaGreatDoorW.PrintLast Go.Proofs.YtnpohgoacbpcjaaGreatDoorW.PrintMore Go.Proofs.YtnpohgoacbpcjaaGreatDoor.FM
set_option linter.unusedVariables false
set_option linter.unusedSimpArgs false
/-! the whole text -/
/-- one range; where it can't be read -/
def round1 (t : List UInt8) : Except (List UInt8) (Rg × List UInt8) := match one t with
  | none => .error (sk t)
  | some (lo, u) => match tk 45 u with
    | none => .ok (⟨lo, lo⟩, sk u)
    | some v => match one (sk v) with
      | none => .error (sk v)
      | some (hi, x) => if hi < lo then .error (sk v) else .ok (⟨lo, hi⟩, x)
def body : Nat → List UInt8 → List Rg → Except (List UInt8) (List Rg × List UInt8)
  | 0, t, _ => .error t
  | n + 1, t, acc => match tk 93 t with
    | some u => .ok (acc, u)
    | none => match round1 (sk t) with
      | .error e => .error e
      | .ok (x, u) => body n u (acc ++ [x])
def parse (l : List UInt8) : Except (List UInt8) (Bool × List Rg) := match tk 91 l with
  | none => .error (sk l)
  | some t =>
    let p : Bool × List UInt8 := match tk 94 t with | some u => (true, u) | none => (false, sk t)
    match body (p.2.length + 1) p.2 [] with
    | .error e => .error e
    | .ok (acc, u) => if sk u = [] then .ok (p.1, acc) else .error (sk u)
theorem tk_suf {c : UInt8} {t u : List UInt8} (h : tk c t = some u) : u <:+ t ∧ u.length < (sk t).length := by
  have h1 := tk_some h
  have h2 := sk_suf t
  rw [h1] at h2 ⊢
  exact ⟨suf_tail h2, by simp⟩
theorem sk_len (t : List UInt8) : (sk t).length ≤ t.length := (sk_suf t).length_le
theorem round1_ok {t u : List UInt8} {x : Rg} (h : round1 t = .ok (x, u)) : u <:+ t ∧ u.length < t.length ∧ Set1 x := by
  unfold round1 at h
  have hs := sk_len t
  split at h
  · cases h
  · rename_i lo v e
    obtain ⟨a1, a2, a3, a4⟩ := one_len e
    split at h
    · injection h with h
      injection h with h1 h2
      subst h1 h2
      have := sk_len v
      exact ⟨(sk_suf v).trans a1, by omega, by unfold Set1; dsimp only; omega⟩
    · rename_i v' e2
      obtain ⟨b1, b2⟩ := tk_suf e2
      have hv := sk_len v
      have hv' := sk_len v'
      split at h
      · cases h
      · rename_i hi y e3
        obtain ⟨c1, c2, c3, c4⟩ := one_len e3
        rw [sk_sk] at c2
        split at h
        · cases h
        · injection h with h
          injection h with h1 h2
          subst h1 h2
          exact ⟨(c1.trans (sk_suf v')).trans (b1.trans a1), by omega, by unfold Set1; dsimp only; omega⟩
theorem round1_err {t e : List UInt8} (h : round1 t = .error e) : e <:+ t := by
  unfold round1 at h
  split at h
  · injection h with h; subst h; exact sk_suf t
  · rename_i lo v e1
    obtain ⟨a1, _⟩ := one_len e1
    split at h
    · cases h
    · rename_i v' e2
      obtain ⟨b1, _⟩ := tk_suf e2
      split at h
      · injection h with h; subst h; exact (sk_suf v').trans (b1.trans a1)
      · split at h
        · injection h with h; subst h; exact (sk_suf v').trans (b1.trans a1)
        · cases h
theorem body_err : ∀ (n : Nat) {t e : List UInt8} {acc : List Rg}, body n t acc = .error e → e <:+ t
  | 0, t, e, acc, h => by unfold body at h; injection h with h; subst h; exact List.suffix_refl _
  | n + 1, t, e, acc, h => by
    unfold body at h
    split at h
    · cases h
    · split at h
      · rename_i e' e1
        injection h with h; subst h
        exact (round1_err e1).trans (sk_suf t)
      · rename_i x u e1
        exact ((body_err n h).trans (round1_ok e1).1).trans (sk_suf t)
theorem body_ok : ∀ (n : Nat) {t u : List UInt8} {acc out : List Rg}, body n t acc = .ok (out, u) → (∀ x ∈ acc, Set1 x) → u <:+ t ∧ (∀ x ∈ out, Set1 x) ∧ out.length ≤ acc.length + t.length
  | 0, t, u, acc, out, h, _ => by unfold body at h; cases h
  | n + 1, t, u, acc, out, h, ha => by
    unfold body at h
    split at h
    · rename_i v e1
      injection h with h
      injection h with h1 h2
      subst h1 h2
      exact ⟨(tk_suf e1).1, ha, by omega⟩
    · split at h
      · cases h
      · rename_i x v e1
        obtain ⟨a1, a2, a3⟩ := round1_ok e1
        have hs := sk_len t
        obtain ⟨b1, b2, b3⟩ := body_ok n h (fun y hy => by
          rcases List.mem_append.1 hy with hy | hy
          · exact ha y hy
          · rw [List.mem_singleton.1 hy]; exact a3)
        rw [List.length_append, List.length_singleton] at b3
        exact ⟨(b1.trans a1).trans (sk_suf t), b2, by omega⟩
/-- behind the loop: what was made of the ranges, with whatever place -/
theorem class_j4 (l : List UInt8) (not : Bool) (acc : List Rg) (ha : acc.length ≤ 30000) (p b : Int) : ∃ c, Ev (fun k => class_reader_class.j4 k not acc (S l) p b) (c, S l, p, b) ∧ Cl c (fun r => if not = true then ¬ In acc r else In acc r) (acc.length + 1) := by
  obtain ⟨c, h1, h2⟩ := Cl.made (l := acc) (Nat.le_refl _) (by omega)
  cases not with
  | false =>
    refine ⟨c, Ev.step (f := fun k => (class_Made.f k acc).bind fun t => some (t, S l, p, b)) (fun k => ?_) (Ev.bind h1 (Ev.now _)), h2.1, h2.2.1, by have := h2.2.2; omega⟩
    rw [class_reader_class.j4, _root_.if_neg (by decide)]
  | true =>
    obtain ⟨d, h3, h4⟩ := h2.not (by omega)
    refine ⟨d, Ev.step (f := fun k => (class_Made.f k acc).bind fun t => (class_Class_Not.f k t).bind fun t2 => some (t2, S l, p, b)) (fun k => ?_) (Ev.bind h1 (Ev.bind h3 (Ev.now _))), h4⟩
    rw [class_reader_class.j4, _root_.if_pos rfl]
theorem class_bad (l : List UInt8) (not : Bool) (acc : List Rg) (ha : acc.length ≤ 30000) (p b : Int) (hb : 0 ≤ b) : ∃ c, Ev (fun k => class_reader_class.l0 k not acc (S l) p b) (c, S l, p, b) := by
  obtain ⟨c, h1, _⟩ := class_j4 l not acc ha p b
  refine ⟨c, Ev.step (f := fun k => class_reader_class.j1 k not acc false (S l) p b) (fun k => ?_) (Ev.step (f := fun k => class_reader_class.j3 k not acc false (S l) p b) (fun k => ?_) (Ev.step (fun k => ?_) h1))⟩
  · rw [class_reader_class.l0, _root_.if_neg (by omega)]
  · rw [class_reader_class.j1, _root_.if_neg (by decide), _root_.if_neg (by omega)]
  · rw [class_reader_class.j3, _root_.if_neg (by decide)]
def endOf (l : List UInt8) (not : Bool) (r : Except (List UInt8) (List Rg × List UInt8)) (q : List Rg × ByteArray × Int × Int) : Prop := match r with
  | .error e => q.2.2.2 = pos l e
  | .ok (acc, u) => if sk u = [] then q.2.2.2 = -1 ∧ Cl q.1 (fun r => if not = true then ¬ In acc r else In acc r) (acc.length + 1) else q.2.2.2 = pos l (sk u)
theorem pos_nn {l t : List UInt8} (h : t <:+ l) : 0 ≤ pos l t := by have := h.length_le; unfold pos; omega
theorem round_ok {l t u : List UInt8} {x : Rg} (hl : Le4 l) (ht : t <:+ l) (not : Bool) (acc : List Rg) (ha : acc.length ≤ 20000) (r : List Rg × ByteArray × Int × Int) (h : round1 t = .ok (x, u))
    (k0 : Ev (fun k => class_reader_class.l0 k not (acc ++ [x]) (S l) (pos l u) (-1)) r) : Ev (fun k => class_reader_class.j1 k not acc true (S l) (pos l t) (-1)) r := by
  have ho := one_ev hl ht
  unfold round1 at h
  split at h
  · cases h
  · rename_i lo v e
    rw [e] at ho
    obtain ⟨a1, a2, a3, a4⟩ := one_len e
    have hv := a1.trans ht
    refine Ev.step (fun k => (by rw [class_reader_class.j1, _root_.if_pos rfl])) (Ev.bind ho (Ev.if_pos (by show (-1 : Int) < 0; decide) ?_))
    dsimp only [outE]
    split at h
    · rename_i e2
      injection h with h
      injection h with g1 g2
      subst g1 g2
      have htk := take_no hl (-1) hv (c := 45) (n := 45) rfl (by decide) e2
      refine Ev.bind htk (Ev.step (fun k => ?_) k0)
      rw [class_reader_class.j2, _root_.if_neg (show ¬ (false = true) by decide), _root_.if_pos (by omega)]
    · rename_i v' e2
      obtain ⟨b1, b2⟩ := tk_suf e2
      have htk := take_yes hl (-1) hv (c := 45) (n := 45) rfl e2
      have hv' := b1.trans hv
      have hpk := peek_ev l hl (-1) v' hv'
      have ho2 := one_ev hl ((sk_suf v').trans hv')
      split at h
      · cases h
      · rename_i hi y e3
        rw [e3] at ho2
        split at h
        · cases h
        · rename_i hlt
          injection h with h
          injection h with g1 g2
          subst g1 g2
          refine Ev.bind htk (Ev.step (fun k => (by rw [class_reader_class.j2, _root_.if_pos rfl])) (Ev.bind hpk (Ev.bind ho2 ?_)))
          dsimp only [outE]
          refine Ev.if_pos (by decide) (Ev.if_neg hlt (Ev.if_pos (by omega) k0))
theorem round_err {l t e : List UInt8} (hl : Le4 l) (ht : t <:+ l) (not : Bool) (acc : List Rg) (ha : acc.length ≤ 20000) (h : round1 t = .error e) :
    ∃ q : List Rg × ByteArray × Int × Int, q.2.2.2 = pos l e ∧ Ev (fun k => class_reader_class.j1 k not acc true (S l) (pos l t) (-1)) q := by
  have ho := one_ev hl ht
  unfold round1 at h
  have stp : ∀ x : Rg, (acc ++ [x]).length ≤ 30000 := fun x => by rw [List.length_append, List.length_singleton]; omega
  split at h
  · rename_i e1
    injection h with h
    subst h
    rw [e1] at ho
    have hp := pos_nn ((sk_suf t).trans ht)
    obtain ⟨c, hc⟩ := class_bad l not (acc ++ [⟨0, 0⟩]) (stp _) (pos l (sk t)) (pos l (sk t)) hp
    refine ⟨_, rfl, Ev.step (fun k => (by rw [class_reader_class.j1, _root_.if_pos rfl])) (Ev.bind ho (Ev.if_neg (by show ¬ pos l (sk t) < 0; omega) (Ev.step (fun k => ?_) hc)))⟩
    dsimp only [outE]
    rw [class_reader_class.j2, _root_.if_neg (by decide), _root_.if_pos (by omega)]
  · rename_i lo v e1
    rw [e1] at ho
    obtain ⟨a1, a2, a3, a4⟩ := one_len e1
    have hv := a1.trans ht
    split at h
    · cases h
    · rename_i v' e2
      obtain ⟨b1, b2⟩ := tk_suf e2
      have htk := take_yes hl (-1) hv (c := 45) (n := 45) rfl e2
      have hv' := b1.trans hv
      have hpk := peek_ev l hl (-1) v' hv'
      have hsv := (sk_suf v').trans hv'
      have ho2 := one_ev hl hsv
      have hp := pos_nn hsv
      rw [sk_sk] at ho2
      split at h
      · rename_i e3
        injection h with h
        subst h
        rw [e3] at ho2
        obtain ⟨c, hc⟩ := class_bad l not (acc ++ [⟨lo, 0⟩]) (stp _) (pos l (sk v')) (pos l (sk v')) hp
        refine ⟨(c, S l, pos l (sk v'), pos l (sk v')), rfl, ?_⟩
        refine Ev.step (fun k => (by rw [class_reader_class.j1, _root_.if_pos rfl])) (Ev.bind ho (Ev.if_pos (by show (-1 : Int) < 0; decide) ?_))
        dsimp only [outE]
        refine Ev.bind htk (Ev.step (fun k => (by rw [class_reader_class.j2, _root_.if_pos rfl])) (Ev.bind hpk (Ev.bind ho2 ?_)))
        dsimp only [outE]
        exact Ev.if_neg (by omega) (Ev.if_pos (by omega) hc)
      · rename_i hi y e3
        rw [e3] at ho2
        split at h
        · rename_i hlt
          injection h with h
          subst h
          obtain ⟨c, hc⟩ := class_bad l not (acc ++ [⟨lo, hi⟩]) (stp _) (pos l (sk v')) (pos l (sk v')) hp
          refine ⟨(c, S l, pos l (sk v'), pos l (sk v')), rfl, ?_⟩
          refine Ev.step (fun k => (by rw [class_reader_class.j1, _root_.if_pos rfl])) (Ev.bind ho (Ev.if_pos (by show (-1 : Int) < 0; decide) ?_))
          dsimp only [outE]
          refine Ev.bind htk (Ev.step (fun k => (by rw [class_reader_class.j2, _root_.if_pos rfl])) (Ev.bind hpk (Ev.bind ho2 ?_)))
          dsimp only [outE]
          exact Ev.if_pos (by decide) (Ev.if_pos hlt (Ev.const (fail_ev _ _) (Ev.if_pos (by omega) hc)))
        · cases h
theorem class_l0 {l : List UInt8} (hl : Le4 l) (not : Bool) : ∀ (n : Nat) (t : List UInt8) (acc : List Rg), t <:+ l → t.length < n → acc.length + t.length ≤ 20000 →
    ∃ q, endOf l not (body n t acc) q ∧ Ev (fun k => class_reader_class.l0 k not acc (S l) (pos l t) (-1)) q := by
  intro n
  induction n with
  | zero => intro t acc _ h; omega
  | succ n ih =>
    intro t acc ht hn hacc
    rw [body]
    have go : ∀ q, Ev (fun k => (class_reader_take.f k (S l) (pos l t) (-1) 93).bind fun bt => class_reader_class.j1 k not acc (!bt.1) bt.2.1 bt.2.2.1 bt.2.2.2) q → Ev (fun k => class_reader_class.l0 k not acc (S l) (pos l t) (-1)) q := fun q h => Ev.step (fun k => by rw [class_reader_class.l0, _root_.if_pos (by decide)]) h
    have hs := (sk_suf t).trans ht
    have hsl := sk_len t
    split
    · rename_i u e
      have htk := take_yes hl (-1) ht (c := 93) (n := 93) rfl e
      have hu := (tk_suf e).1.trans ht
      have hpk := peek_ev l hl (-1) u hu
      have hsu := (sk_suf u).trans hu
      have hul := hsu.length_le
      unfold endOf
      by_cases h0 : sk u = []
      · obtain ⟨c, h1, h2⟩ := class_j4 l not acc (by omega) (pos l []) (-1)
        refine ⟨(c, S l, pos l [], -1), by dsimp only; rw [_root_.if_pos h0]; exact ⟨rfl, h2⟩, go _ (Ev.bind htk (Ev.step (f := fun k => (class_reader_peek.f k (S l) (pos l u) (-1)).bind fun bt => (if bt.1 = 0 then (if bt.2.2.2 < 0 then (class_reader_class.j3 k not acc (decide (bt.2.2.1 < (bt.2.1.size : Int))) bt.2.1 bt.2.2.1 bt.2.2.2) else (class_reader_class.j3 k not acc false bt.2.1 bt.2.2.1 bt.2.2.2)) else (class_reader_class.j3 k not acc true bt.2.1 bt.2.2.1 bt.2.2.2))) (fun k => (by dsimp only; rw [Bool.not_true, class_reader_class.j1, _root_.if_neg (by decide), _root_.if_pos (by decide)])) (Ev.bind hpk ?_)))⟩
        rw [h0]
        refine Ev.if_pos rfl (Ev.if_pos (by show (-1 : Int) < 0; decide) (Ev.step (fun k => ?_) h1))
        have : (decide (pos l [] < ((S l).size : Int))) = false := decide_eq_false (by rw [S_size]; unfold pos; simp)
        dsimp only
        rw [this, class_reader_class.j3, _root_.if_neg (by decide)]
      · obtain ⟨c, h1, _⟩ := class_j4 l not acc (by omega) (pos l (sk u)) (pos l (sk u))
        have hf : Ev (fun k => class_reader_class.j3 k not acc true (S l) (pos l (sk u)) (-1)) (c, S l, pos l (sk u), pos l (sk u)) :=
          Ev.step (fun k => (by rw [class_reader_class.j3, _root_.if_pos rfl])) (Ev.const (fail_ev _ _) h1)
        refine ⟨(c, S l, pos l (sk u), pos l (sk u)), by dsimp only; rw [_root_.if_neg h0], go _ (Ev.bind htk (Ev.step (f := fun k => (class_reader_peek.f k (S l) (pos l u) (-1)).bind fun bt => (if bt.1 = 0 then (if bt.2.2.2 < 0 then (class_reader_class.j3 k not acc (decide (bt.2.2.1 < (bt.2.1.size : Int))) bt.2.1 bt.2.2.1 bt.2.2.2) else (class_reader_class.j3 k not acc false bt.2.1 bt.2.2.1 bt.2.2.2)) else (class_reader_class.j3 k not acc true bt.2.1 bt.2.2.1 bt.2.2.2))) (fun k => (by dsimp only; rw [Bool.not_true, class_reader_class.j1, _root_.if_neg (by decide), _root_.if_pos (by decide)])) (Ev.bind hpk ?_)))⟩
        have hlt : (decide (pos l (sk u) < ((S l).size : Int))) = true := by
          have : 0 < (sk u).length := List.length_pos_iff.2 h0
          exact decide_eq_true (by rw [S_size]; unfold pos; omega)
        by_cases hz : hd (sk u) = 0
        · refine Ev.if_pos hz (Ev.if_pos (by show (-1 : Int) < 0; decide) ?_)
          dsimp only
          rw [hlt]
          exact hf
        · exact Ev.if_neg hz hf
    · rename_i e
      have htk := take_no hl (-1) ht (c := 93) (n := 93) rfl (by decide) e
      split
      · rename_i e' e1
        obtain ⟨q, h1, h2⟩ := round_err hl hs not acc (by omega) e1
        exact ⟨q, h1, go _ (Ev.bind htk h2)⟩
      · rename_i x u e1
        obtain ⟨a1, a2, _⟩ := round1_ok e1
        obtain ⟨q, h1, h2⟩ := ih u (acc ++ [x]) (a1.trans hs) (by omega) (by rw [List.length_append, List.length_singleton]; omega)
        exact ⟨q, h1, go _ (Ev.bind htk (round_ok hl hs not acc (by omega) q e1 h2))⟩
theorem Parse_ev (l : List UInt8) (hl : l.length ≤ 20000) : (∀ e, parse l = .error e → e <:+ l ∧ Ev (fun k => class_Parse.f k (S l)) ([], 1, pos l e)) ∧
    (∀ not acc, parse l = .ok (not, acc) → acc.length ≤ l.length ∧ ∃ c, Ev (fun k => class_Parse.f k (S l)) (c, 0, 0) ∧ Cl c (fun r => if not = true then ¬ In acc r else In acc r) (acc.length + 1)) := by
  unfold parse
  have p0 : pos l l = 0 := pos_len l
  have fin : ∀ q : List Rg × ByteArray × Int × Int, Ev (fun k => class_reader_class.f k (S l) 0 (-1)) q → 0 ≤ q.2.2.2 → Ev (fun k => class_Parse.f k (S l)) ([], 1, q.2.2.2) := by
    intro q h h0
    unfold class_Parse.f
    exact Ev.bind h (Ev.if_pos h0 (Ev.now _))
  have fin2 : ∀ q : List Rg × ByteArray × Int × Int, Ev (fun k => class_reader_class.f k (S l) 0 (-1)) q → q.2.2.2 = -1 → Ev (fun k => class_Parse.f k (S l)) (q.1, 0, 0) := by
    intro q h h0
    unfold class_Parse.f
    exact Ev.bind h (Ev.if_neg (by omega) (Ev.now _))
  split
  · rename_i e
    have htk := take_no (l := l) (t := l) hl (-1) (List.suffix_refl _) (c := 91) (n := 91) rfl (by decide) e
    rw [p0] at htk
    refine ⟨fun e' he => ?_, fun _ _ he => by cases he⟩
    injection he with he
    subst he
    refine ⟨sk_suf l, fin ([], S l, pos l (sk l), pos l (sk l)) ?_ (pos_nn (sk_suf l))⟩
    unfold class_reader_class.f
    exact Ev.bind htk (Ev.if_neg (by simp) (Ev.const (fail_ev _ _) (Ev.now _)))
  · rename_i t e
    have htk := take_yes (l := l) (t := l) hl (-1) (List.suffix_refl _) (c := 91) (n := 91) rfl e
    rw [p0] at htk
    obtain ⟨ht, htl⟩ := tk_suf e
    have hsl := sk_len l
    obtain ⟨p, hp⟩ : ∃ p : Bool × List UInt8, (match tk 94 t with | some u => (true, u) | none => (false, sk t)) = p := ⟨_, rfl⟩
    have hp2 : p.2 <:+ t ∧ Ev (fun k => class_reader_take.f k (S l) (pos l t) (-1) 94) (p.1, S l, pos l p.2, -1) := by
      rw [← hp]
      split
      · rename_i u e2; exact ⟨(tk_suf e2).1, take_yes hl (-1) ht (c := 94) (n := 94) rfl e2⟩
      · rename_i e2; exact ⟨sk_suf t, take_no hl (-1) ht (c := 94) (n := 94) rfl (by decide) e2⟩
    have hpl := hp2.1.length_le
    have hp3 := hp2.1.trans ht
    obtain ⟨q, h1, h2⟩ := class_l0 (l := l) hl p.1 (p.2.length + 1) p.2 [] hp3 (by omega) (by have := hp3.length_le; show 0 + p.2.length ≤ _; omega)
    have hq : Ev (fun k => class_reader_class.f k (S l) 0 (-1)) q := by
      unfold class_reader_class.f
      exact Ev.bind htk (Ev.if_pos rfl (Ev.bind hp2.2 h2))
    dsimp only
    rw [hp]
    split
    · rename_i e' hb
      refine ⟨fun e2 he => ?_, fun _ _ he => by cases he⟩
      injection he with he
      subst he
      rw [hb] at h1
      have h1 : q.2.2.2 = pos l e' := h1
      have he := (body_err _ hb).trans hp3
      have := fin q hq (by rw [h1]; exact pos_nn he)
      rw [h1] at this
      exact ⟨he, this⟩
    · rename_i acc u hb
      rw [hb] at h1
      unfold endOf at h1
      dsimp only at h1
      obtain ⟨b1, b2, b3⟩ := body_ok _ hb (fun _ h => by cases h)
      by_cases h0 : sk u = []
      · rw [_root_.if_pos h0] at h1 ⊢
        refine ⟨fun _ he => (by cases he), fun not out he => ?_⟩
        injection he with he
        injection he with g1 g2
        subst g1 g2
        exact ⟨by have := hp3.length_le; simp at b3; omega, q.1, fin2 q hq h1.1, h1.2⟩
      · rw [_root_.if_neg h0] at h1 ⊢
        refine ⟨fun e2 he => ?_, fun _ _ he => by cases he⟩
        injection he with he
        subst he
        have hu := (sk_suf u).trans (b1.trans hp3)
        have := fin q hq (by rw [h1]; exact pos_nn hu)
        rw [h1] at this
        exact ⟨hu, this⟩
end Go.Proofs.YtnpohgoacbpcjaaGreatDoor.P
namespace Go.Proofs.YtnpohgoacbpcjaaGreatDoor.P
open Go.RowKit Go.Proofs.YtnpohgoacbpcjaaGreatDoorW.PrintWords Go.Proofs.YtnpohgoacbpcjaaGreatDoorW.PrintLast Go.Proofs.YtnpohgoacbpcjaaGreatDoorW.PrintMore Go.Proofs.YtnpohgoacbpcjaaGreatDoor.FM
set_option linter.unusedVariables false
set_option linter.unusedSimpArgs false
/-! texts by the grammar -/
/-- a piece of a text that is read as a code point, whatever follows -/
def Rd (x : List UInt8) (p : Int) : Prop := (∃ c r, x = c :: r ∧ c ≠ 32 ∧ c ≠ 91 ∧ c ≠ 93 ∧ c ≠ 45 ∧ c ≠ 94) ∧ ∀ v, one (x ++ v) = some (p, v)
theorem sk_rep : ∀ (n : Nat) (t : List UInt8), sk (List.replicate n 32 ++ t) = sk t
  | 0, t => rfl
  | n + 1, t => by rw [List.replicate_succ, List.cons_append, sk_cons_32, sk_rep n t]
theorem one_sk (t : List UInt8) : one (sk t) = one t := by unfold one; rw [sk_sk]
theorem one_rep (n : Nat) (t : List UInt8) : one (List.replicate n 32 ++ t) = one t := by rw [← one_sk, sk_rep, one_sk]
theorem tk_rep (c : UInt8) (n : Nat) (t : List UInt8) : tk c (List.replicate n 32 ++ t) = tk c t := by unfold tk; rw [sk_rep]
theorem tk_sk (c : UInt8) (t : List UInt8) : tk c (sk t) = tk c t := by unfold tk; rw [sk_sk]
theorem Rd.sk {x : List UInt8} {p : Int} (h : Rd x p) (v : List UInt8) : sk (x ++ v) = x ++ v := by
  obtain ⟨c, r, rfl, h1, _⟩ := h.1
  exact sk_cons_ne h1 _
theorem Rd.tk {x : List UInt8} {p : Int} (h : Rd x p) (v : List UInt8) {d : UInt8} (hd : d = 91 ∨ d = 93 ∨ d = 45 ∨ d = 94) : tk d (x ++ v) = none := by
  have hs := h.sk v
  obtain ⟨c, r, rfl, h1, h2, h3, h4, h5⟩ := h.1
  unfold P.tk
  rw [hs]
  show (if c = d then some (r ++ v) else none) = none
  rw [_root_.if_neg]
  rintro rfl
  rcases hd with hd | hd | hd | hd
  · exact h2 hd
  · exact h3 hd
  · exact h4 hd
  · exact h5 hd
structure Itm where
  g : Nat
  x : List UInt8
  p : Int
  two : Bool
  y : List UInt8
  q : Int
def Itm.txt (i : Itm) : List UInt8 := List.replicate i.g 32 ++ (i.x ++ if i.two = true then List.replicate i.g 32 ++ (45 :: (List.replicate i.g 32 ++ i.y)) else [])
def Itm.rg (i : Itm) : Rg := ⟨i.p, if i.two = true then i.q else i.p⟩
def Itm.Ok (i : Itm) : Prop := Rd i.x i.p ∧ (i.two = true → Rd i.y i.q ∧ i.p ≤ i.q)
theorem round_one {i : Itm} (h : i.Ok) (h2 : i.two = false) (v : List UInt8) (hv : tk 45 v = none) : round1 (i.txt ++ v) = .ok (i.rg, sk v) := by
  unfold round1 Itm.txt Itm.rg
  rw [h2, _root_.if_neg (by decide), List.append_nil, List.append_assoc, one_rep, h.1.2 v]
  dsimp only
  rw [hv, _root_.if_neg (by decide)]
theorem round_two {i : Itm} (h : i.Ok) (h2 : i.two = true) (v : List UInt8) : round1 (i.txt ++ v) = .ok (i.rg, v) := by
  obtain ⟨h3, h4⟩ := h.2 h2
  unfold round1 Itm.txt Itm.rg
  rw [h2, _root_.if_pos rfl, List.append_assoc, List.append_assoc, one_rep, h.1.2, List.append_assoc]
  dsimp only
  rw [tk_rep, List.cons_append, tk_of (sk_cons_ne (by decide) _)]
  dsimp only
  rw [List.append_assoc, sk_rep, h3.sk, h3.2]
  dsimp only
  rw [_root_.if_neg (by omega), _root_.if_pos rfl]
theorem body_sk (n : Nat) (t : List UInt8) (acc : List Rg) : body (n + 1) (sk t) acc = body (n + 1) t acc := by
  unfold body
  rw [tk_sk, sk_sk]
theorem itm_none {i : Itm} (h : i.Ok) (v : List UInt8) {d : UInt8} (hd : d = 91 ∨ d = 93 ∨ d = 45 ∨ d = 94) : tk d (i.txt ++ v) = none := by
  unfold Itm.txt
  rw [List.append_assoc, tk_rep, List.append_assoc]
  exact h.1.tk _ hd
theorem items_none (is : List Itm) (h : ∀ i ∈ is, i.Ok) (v : List UInt8) {d : UInt8} (hd : d = 91 ∨ d = 45 ∨ d = 94) : tk d (is.flatMap Itm.txt ++ 93 :: v) = none := by
  cases is with
  | nil =>
    show tk d (93 :: v) = none
    unfold tk
    rw [sk_cons_ne (by decide)]
    rcases hd with rfl | rfl | rfl <;> rfl
  | cons i is =>
    rw [List.flatMap_cons, List.append_assoc]
    exact itm_none (h i List.mem_cons_self) _ (by rcases hd with h | h | h <;> simp [h])
theorem round_sk (t : List UInt8) : round1 (sk t) = round1 t := by unfold round1; rw [one_sk, sk_sk]
theorem body_items : ∀ (is : List Itm) (n : Nat) (v : List UInt8) (acc : List Rg), (∀ i ∈ is, i.Ok) → is.length < n → body n (is.flatMap Itm.txt ++ 93 :: v) acc = .ok (acc ++ is.map Itm.rg, v)
  | [], n, v, acc, _, hn => by
    obtain ⟨m, rfl⟩ : ∃ m, n = m + 1 := ⟨n - 1, by simp at hn; omega⟩
    show body (m + 1) (93 :: v) acc = _
    unfold body
    rw [tk_of (sk_cons_ne (by decide) v), List.map_nil, List.append_nil]
  | i :: is, n, v, acc, h, hn => by
    rw [List.length_cons] at hn
    obtain ⟨m, rfl⟩ : ∃ m, n = m + 1 := ⟨n - 1, by omega⟩
    have hi := h i List.mem_cons_self
    have hr := fun j hj => h j (List.mem_cons_of_mem _ hj)
    rw [List.flatMap_cons, List.append_assoc]
    unfold body
    rw [itm_none hi _ (by simp), round_sk]
    dsimp only
    cases h2 : i.two with
    | true =>
      rw [round_two hi h2]
      dsimp only
      rw [body_items is m v (acc ++ [i.rg]) hr (by omega), List.map_cons, List.append_assoc]; rfl
    | false =>
      rw [round_one hi h2 _ (items_none is hr v (by simp))]
      dsimp only
      obtain ⟨m', rfl⟩ : ∃ m', m = m' + 1 := ⟨m - 1, by omega⟩
      rw [body_sk, body_items is (m' + 1) v (acc ++ [i.rg]) hr (by omega), List.map_cons, List.append_assoc]; rfl
theorem txt_len {i : Itm} (h : i.Ok) : 1 ≤ i.txt.length := by
  obtain ⟨c, r, e, _⟩ := h.1.1
  unfold Itm.txt
  rw [List.length_append, List.length_append, e, List.length_cons]
  omega
theorem items_len : ∀ (is : List Itm), (∀ i ∈ is, i.Ok) → is.length ≤ (is.flatMap Itm.txt).length
  | [], _ => Nat.le_refl _
  | i :: is, h => by
    rw [List.flatMap_cons, List.length_append, List.length_cons]
    have h1 := txt_len (h i List.mem_cons_self)
    have h2 := items_len is (fun j hj => h j (List.mem_cons_of_mem _ hj))
    omega
def gtxt (not : Bool) (is : List Itm) : List UInt8 := 91 :: ((if not = true then [94] else []) ++ (is.flatMap Itm.txt ++ [93]))
theorem parse_items (not : Bool) (is : List Itm) (h : ∀ i ∈ is, i.Ok) : parse (gtxt not is) = .ok (not, is.map Itm.rg) := by
  have hl := items_len is h
  unfold parse gtxt
  rw [tk_of (sk_cons_ne (by decide) _)]
  dsimp only
  have fin : ∀ t, sk t = sk (is.flatMap Itm.txt ++ [93]) → is.length < t.length + 1 → (match body (t.length + 1) t [] with | .error e => Except.error e | .ok (acc, u) => if sk u = [] then .ok (not, acc) else .error (sk u)) = Except.ok (not, is.map Itm.rg) := by
    intro t ht hn
    have e : body (t.length + 1) t [] = .ok (is.map Itm.rg, []) := by
      rw [← body_sk, ht, body_sk, body_items is _ [] [] h hn, List.nil_append]
    rw [e]
    dsimp only
    rw [_root_.if_pos (by rfl)]
  cases not with
  | true =>
    rw [_root_.if_pos rfl, show [94] ++ (is.flatMap Itm.txt ++ [93]) = 94 :: (is.flatMap Itm.txt ++ [93]) from rfl, tk_of (sk_cons_ne (by decide) _)]
    dsimp only
    exact fin _ rfl (by rw [List.length_append, List.length_singleton]; omega)
  | false =>
    rw [_root_.if_neg (by decide), List.nil_append, items_none is h [] (by simp)]
    dsimp only
    refine fin _ (sk_sk _) ?_
    -- the first sign isn't a blank, or there are as many
    have : is.length ≤ (sk (is.flatMap Itm.txt ++ [93])).length := by
      cases is with
      | nil => exact Nat.zero_le _
      | cons i is =>
        have hi := h i List.mem_cons_self
        have h2 := items_len is (fun j hj => h j (List.mem_cons_of_mem _ hj))
        obtain ⟨c, r, e, _⟩ := hi.1.1
        have et : i.txt = List.replicate i.g 32 ++ (i.x ++ if i.two = true then List.replicate i.g 32 ++ (45 :: (List.replicate i.g 32 ++ i.y)) else []) := rfl
        rw [List.flatMap_cons, List.append_assoc, et, List.append_assoc, sk_rep, List.append_assoc, hi.1.sk, List.length_append, List.length_append, List.length_append, e, List.length_cons, List.length_cons]
        omega
    omega
/-! pieces -/
theorem esc_cons (x c : UInt8) (r : List UInt8) : esc (x :: c :: r) = if spec c = true then some ((c.toNat : Int), r) else escD (x :: c :: r) ((x :: c :: r).takeWhile (· != 125)) := rfl
theorem rd_ascii (c : UInt8) (h0 : c.toNat < 128) (hs : spec c = false) : Rd [c] (c.toNat : Int) := by
  have hne : ∀ d : UInt8, spec d = true → c ≠ d := fun d hd e => by rw [e, hd] at hs; cases hs
  have h32 := hne 32 (by decide)
  have h91 := hne 91 (by decide)
  have h93 := hne 93 (by decide)
  have h45 := hne 45 (by decide)
  have h94 := hne 94 (by decide)
  have h92 := hne 92 (by decide)
  refine ⟨⟨c, [], rfl, h32, h91, h93, h45, h94⟩, fun v => ?_⟩
  unfold one
  rw [List.cons_append, List.nil_append, sk_cons_ne h32]
  dsimp only
  have hd : Lib.decodeGo (S (c :: v)) = (c.toNat, 1) := by
    rw [decB_eq _ (by simp)]
    unfold decB
    have : ((S (c :: v)).get! (0 + 0)).toNat = c.toNat := rfl
    dsimp only
    rw [this, _root_.if_pos h0]
  rw [_root_.if_neg h92, _root_.if_neg (by simp [h91, h93, h45, h94]), hd, _root_.if_neg (by dsimp only; omega)]
  rfl
theorem rd_esc (c : UInt8) (hs : spec c = true) : Rd [92, c] (c.toNat : Int) := by
  refine ⟨⟨92, [c], rfl, by decide, by decide, by decide, by decide, by decide⟩, fun v => ?_⟩
  unfold one
  rw [List.cons_append, sk_cons_ne (by decide)]
  show (if (92 : UInt8) = 92 then esc (92 :: c :: v) else _) = _
  rw [_root_.if_pos rfl]
  rw [esc_cons, _root_.if_pos hs]
theorem hexc_ne {c : UInt8} (h : hexc c = true) : (c != 125) = true := by
  unfold hexc at h
  simp only [Bool.or_eq_true, Bool.and_eq_true, decide_eq_true_eq] at h
  rw [bne_iff_ne]
  rintro rfl
  have : (125 : UInt8).toNat = 125 := rfl
  omega
theorem rd_hex (d : List UInt8) (h1 : 1 ≤ d.length) (h2 : d.length ≤ 6) (h3 : d.all hexc = true) (h4 : hexv d ≤ 1114111) : Rd ([92, 117, 123] ++ (d ++ [125])) (hexv d : Int) := by
  refine ⟨⟨92, _, rfl, by decide, by decide, by decide, by decide, by decide⟩, fun v => ?_⟩
  unfold one
  have e0 : ([92, 117, 123] ++ (d ++ [125]) ++ v : List UInt8) = 92 :: 117 :: (123 :: (d ++ (125 :: v))) := by simp
  rw [e0, sk_cons_ne (by decide)]
  show (if (92 : UInt8) = 92 then esc (92 :: 117 :: (123 :: (d ++ (125 :: v)))) else _) = _
  rw [_root_.if_pos rfl]
  rw [esc_cons, _root_.if_neg (by decide)]
  have tw : ∀ q : List UInt8, q.all hexc = true → (q ++ (125 :: v)).takeWhile (· != 125) = q := by
    intro q
    induction q with
    | nil => intro _; rw [List.nil_append, List.takeWhile_cons, _root_.if_neg (by decide)]
    | cons c q ih =>
      intro hq
      rw [List.all_cons, Bool.and_eq_true] at hq
      rw [List.cons_append, List.takeWhile_cons, _root_.if_pos (hexc_ne hq.1), ih hq.2]
  have e1 : (92 :: 117 :: (123 :: (d ++ (125 :: v))) : List UInt8).takeWhile (· != 125) = 92 :: 117 :: 123 :: d := by
    rw [List.takeWhile_cons, _root_.if_pos (by decide), List.takeWhile_cons, _root_.if_pos (by decide), List.takeWhile_cons, _root_.if_pos (by decide), tw d h3]
  rw [e1]
  unfold escD
  rw [show (92 :: 117 :: 123 :: d : List UInt8).drop 3 = d from rfl, _root_.if_pos ⟨by simp, ⟨d, rfl⟩, h1, h2, h3, h4⟩]
  congr 2
  show (92 :: 117 :: (123 :: (d ++ (125 :: v))) : List UInt8).drop (d.length + 3 + 1) = v
  rw [show d.length + 3 + 1 = 3 + (d.length + 1) by omega, ← List.drop_drop]
  show (d ++ (125 :: v)).drop (d.length + 1) = v
  rw [List.drop_append, List.drop_of_length_le (by omega), show d.length + 1 - d.length = 1 by omega]; rfl
theorem hexd_ok (n : Nat) (h : n < 16) : hexc (class_sign.hexd n) = true ∧ hexd (class_sign.hexd n) = n := by
  have : ∀ m : Fin 16, hexc (class_sign.hexd m.val) = true ∧ hexd (class_sign.hexd m.val) = m.val := by decide
  exact this ⟨n, h⟩
theorem hexv_snoc (d : List UInt8) (c : UInt8) : hexv (d ++ [c]) = hexv d * 16 + hexd c := by unfold hexv; rw [List.foldl_append]; rfl
theorem hex_ok : ∀ (k n : Nat), n < 16 ^ (k + 1) → (class_sign.hex (k + 1) n).all hexc = true ∧ hexv (class_sign.hex (k + 1) n) = n ∧ 1 ≤ (class_sign.hex (k + 1) n).length ∧ ∀ m, n < 16 ^ (m + 1) → (class_sign.hex (k + 1) n).length ≤ m + 1
  | 0, n, h => by
    have hn : n < 16 := by simpa using h
    have := hexd_ok n hn
    unfold class_sign.hex
    rw [_root_.if_pos hn]
    refine ⟨by simp [this.1], ?_, by simp, fun m _ => by simp⟩
    unfold hexv; simp [this.2]
  | k + 1, n, h => by
    rw [class_sign.hex]
    by_cases hn : n < 16
    · rw [_root_.if_pos hn]
      have := hexd_ok n hn
      refine ⟨by simp [this.1], ?_, by simp, fun m _ => by simp⟩
      unfold hexv; simp [this.2]
    · rw [_root_.if_neg hn]
      have hd := hexd_ok (n % 16) (Nat.mod_lt _ (by omega))
      have hp : n / 16 < 16 ^ (k + 1) := by
        rw [Nat.pow_succ] at h
        exact (Nat.div_lt_iff_lt_mul (by omega)).2 h
      obtain ⟨a, b, c, e⟩ := hex_ok k (n / 16) hp
      refine ⟨?_, ?_, ?_, fun m hm => ?_⟩
      · rw [List.all_append, a, List.all_cons, hd.1]; rfl
      · rw [hexv_snoc, b, hd.2]; omega
      · rw [List.length_append]; omega
      · rw [List.length_append, List.length_singleton]
        cases m with
        | zero => exact absurd (by simpa using hm) hn
        | succ m =>
          have := e m (by rw [Nat.pow_succ] at hm; exact (Nat.div_lt_iff_lt_mul (by omega)).2 hm)
          omega
theorem rd_sign (r : Int) (h0 : 0 ≤ r) (h1 : r ≤ 1114111) : Rd (class_sign.L r) r := by
  unfold class_sign.L
  by_cases h : 48 ≤ r ∧ r ≤ 57 ∨ 65 ≤ r ∧ r ≤ 90 ∨ 97 ≤ r ∧ r ≤ 122
  · rw [_root_.if_pos h]
    have hn : (r.toNat.toUInt8).toNat = r.toNat := by
      show (UInt8.ofNat r.toNat).toNat = _
      rw [ofNat_toNat (by omega)]
    have hs : spec r.toNat.toUInt8 = false := by
      rw [Bool.eq_false_iff]
      intro hc
      unfold spec at hc
      simp only [List.contains_iff_mem, List.mem_cons, List.not_mem_nil, or_false] at hc
      have e : ∀ m : UInt8, r.toNat.toUInt8 = m → r.toNat = m.toNat := fun m hm => by rw [← hm, hn]
      rcases hc with hc | hc | hc | hc | hc | hc
      all_goals (have := e _ hc; simp at this; omega)
    have := rd_ascii r.toNat.toUInt8 (by rw [hn]; omega) hs
    rw [hn, Int.toNat_of_nonneg h0] at this
    exact this
  · rw [_root_.if_neg h]
    have h16 : r.toNat < 16 ^ 6 := by have : (16 : Nat) ^ 6 = 16777216 := by decide
                                      omega
    obtain ⟨a, b, c, e⟩ := hex_ok 15 r.toNat (Nat.lt_of_lt_of_le h16 (Nat.pow_le_pow_right (by omega) (by omega)))
    have := rd_hex (class_sign.hex 16 r.toNat) c (e 5 h16) a (by rw [b]; omega)
    rw [b, Int.toNat_of_nonneg h0] at this
    rw [List.append_assoc]
    exact this
def sitm (x : Rg) : Itm := ⟨0, class_sign.L x.f0, x.f0, decide (x.f0 ≠ x.f1), class_sign.L x.f1, x.f1⟩
theorem sitm_ok {x : Rg} (h : Set1 x) : (sitm x).Ok := by
  unfold Set1 at h
  refine ⟨rd_sign _ (by omega) (by omega), fun _ => ⟨rd_sign _ (by omega) (by omega), h.2.1⟩⟩
theorem sitm_rg (x : Rg) : (sitm x).rg = x := by
  obtain ⟨a, b⟩ := x
  unfold Itm.rg sitm
  dsimp only
  by_cases h : a = b
  · rw [_root_.if_neg (by simpa using h), h]
  · rw [_root_.if_pos (by simpa using h)]
theorem string_gtxt (c : List Rg) : class_Class_String.L c = gtxt false (c.map sitm) := by
  have e : ∀ x, (sitm x).txt = class_Class_String.one x := by
    intro x
    unfold Itm.txt sitm class_Class_String.one
    dsimp only
    by_cases h : x.f0 = x.f1
    · rw [_root_.if_neg (by simpa using h), _root_.if_neg (by simpa using h)]; simp
    · rw [_root_.if_pos (by simpa using h), _root_.if_pos (by simpa using h)]; simp
  unfold class_Class_String.L gtxt
  rw [_root_.if_neg (by decide), List.nil_append, List.flatMap_map]
  congr 2
  have : class_Class_String.one = fun x => (sitm x).txt := funext fun x => (e x).symm
  rw [this]
theorem parse_string {c : List Rg} (h : ∀ x ∈ c, Set1 x) : parse (class_Class_String.L c) = .ok (false, c) := by
  rw [string_gtxt, parse_items false (c.map sitm) (fun i hi => by
    obtain ⟨x, hx, rfl⟩ := List.mem_map.1 hi
    exact sitm_ok (h x hx))]
  rw [List.map_map, show Itm.rg ∘ sitm = id from funext sitm_rg, List.map_id]
theorem sign_len (r : Int) (h0 : 0 ≤ r) (h1 : r ≤ 1114111) : (class_sign.L r).length ≤ 10 := by
  unfold class_sign.L
  split
  · simp
  · have h16 : r.toNat < 16 ^ 6 := by have : (16 : Nat) ^ 6 = 16777216 := by decide
                                      omega
    obtain ⟨_, _, _, e⟩ := hex_ok 15 r.toNat (Nat.lt_of_lt_of_le h16 (Nat.pow_le_pow_right (by omega) (by omega)))
    have := e 5 h16
    simp
    omega
theorem string_len (c : List Rg) (h : ∀ x ∈ c, Set1 x) : (class_Class_String.L c).length ≤ 2 + 21 * c.length := by
  have : (c.flatMap class_Class_String.one).length ≤ 21 * c.length := by
    induction c with
    | nil => simp
    | cons x c ih =>
      have h1 := ih (fun y hy => h y (List.mem_cons_of_mem _ hy))
      have hx := h x List.mem_cons_self
      unfold Set1 at hx
      have h2 := sign_len x.f0 (by omega) (by omega)
      have h3 := sign_len x.f1 (by omega) (by omega)
      have h4 : (class_Class_String.one x).length ≤ 21 := by
        unfold class_Class_String.one
        rw [List.length_append]
        split
        · rw [List.length_cons]; omega
        · simp; omega
      rw [List.flatMap_cons, List.length_append, List.length_cons]
      omega
  unfold class_Class_String.L
  rw [List.length_cons, List.length_append, List.length_singleton]
  omega
theorem String_ev {c : List Rg} (hl : c.length ≤ 900) (h : ∀ x ∈ c, Set1 x) : class_Class_String.f c = some (S (class_Class_String.L c)) := by
  unfold class_Class_String.f
  rw [_root_.if_pos ⟨by omega, List.all_eq_true.2 fun x hx => decide_eq_true (by have := h x hx; unfold Set1 at this; omega)⟩]
  rfl
/-- a class as it is written is read as that class -/
theorem Parse_string {c : List Rg} (hl : c.length ≤ 900) (h : Stl c) : Ev (fun k => class_Parse.f k (S (class_Class_String.L c))) (c, 0, 0) := by
  have hlen := string_len c h.2
  obtain ⟨_, h1⟩ := Parse_ev (class_Class_String.L c) (by omega)
  obtain ⟨_, d, h2, h3⟩ := h1 false c (parse_string h.2)
  have hd : d = c := stl_ext h3.1 h fun r => by
    rw [h3.2.1]
    constructor
    · intro hh; simpa using hh.1
    · intro hh; exact ⟨by simpa using hh, h.range hh⟩
  rw [hd] at h2
  exact h2
end Go.Proofs.YtnpohgoacbpcjaaGreatDoor.P
namespace Go.Proofs.YtnpohgoacbpcjaaGreatDoor.P
open Go.RowKit Go.Proofs.YtnpohgoacbpcjaaGreatDoorW.PrintWords Go.Proofs.YtnpohgoacbpcjaaGreatDoorW.PrintLast Go.Proofs.YtnpohgoacbpcjaaGreatDoorW.PrintMore Go.Proofs.YtnpohgoacbpcjaaGreatDoor.FM
set_option linter.unusedVariables false
set_option linter.unusedSimpArgs false
/-! the law's own digits to the base sixteen -/
theorem hex_digit (x : Nat) : strOfNums [bt (⟨#[48, 49, 50, 51, 52, 53, 54, 55, 56, 57, 97, 98, 99, 100, 101, 102]⟩ : ByteArray) ((x % 16 : Nat) : Int)] = S [class_sign.hexd (x % 16)] := by
  have : ∀ m : Fin 16, strOfNums [bt (⟨#[48, 49, 50, 51, 52, 53, 54, 55, 56, 57, 97, 98, 99, 100, 101, 102]⟩ : ByteArray) ((m.val : Nat) : Int)] = S [class_sign.hexd m.val] := by
    intro m
    rw [strOfNums_S]
    have e : ∀ m : Fin 16, [UInt8.ofNat (bt (S [48, 49, 50, 51, 52, 53, 54, 55, 56, 57, 97, 98, 99, 100, 101, 102]) ((m.val : Nat) : Int)).toNat] = [class_sign.hexd m.val] := by
      intro m
      rw [bt_S]
      revert m
      decide
    exact congrArg S (e m)
  exact this ⟨x % 16, Nat.mod_lt _ (by omega)⟩
theorem and15 (x : Nat) : Go.bits .and .i64 (x : Int) 15 = ((x % 16 : Nat) : Int) := by
  rw [and64 4 (by omega) _ 15 (by decide)]; omega
/-- one digit more -/
theorem hexl_step (x : Nat) (least : Int) (s : List UInt8) (hs : s.length ≤ 1000) (h : 0 < x ∨ (s.length : Int) < least) (k : Nat) :
    florinlaw10_hex.l0 (k + 1) (x : Int) least (S s) = florinlaw10_hex.l0 k ((x / 16 : Nat) : Int) least (S (class_sign.hexd (x % 16) :: s)) := by
  have e0 := and15 x
  have hd : ((x : Int) / 16) = ((x / 16 : Nat) : Int) := by omega
  have hm := Nat.mod_lt x (show 0 < 16 by omega)
  have core : (if 0 ≤ (Go.bits .and .i64 (x : Int) 15) then (if (Go.bits .and .i64 (x : Int) 15) < 16 then ((some (([bt (⟨#[48, 49, 50, 51, 52, 53, 54, 55, 56, 57, 97, 98, 99, 100, 101, 102]⟩ : ByteArray) (Go.bits .and .i64 (x : Int) 15)] : List Int) : List Int)).bind fun y => (if (strOfNums y).size + (S s).size ≤ 9223372036854775807 then (florinlaw10_hex.l0 k ((x : Int) / 16) least ((strOfNums y) ++ (S s))) else (none))) else (none)) else (none)) = florinlaw10_hex.l0 k ((x / 16 : Nat) : Int) least (S (class_sign.hexd (x % 16) :: s)) := by
    rw [e0, _root_.if_pos (by omega), _root_.if_pos (by omega), Option.bind_some, hex_digit, S_size, S_size, _root_.if_pos (by simp; omega), S_append, hd]; rfl
  rw [florinlaw10_hex.l0]
  by_cases h0 : (x : Int) > 0
  · rw [_root_.if_pos h0]; exact core
  · rw [_root_.if_neg h0, _root_.if_pos (by rw [S_size]; rcases h with h | h <;> omega)]; exact core
/-- no digit is left -/
theorem hexl_end (least : Int) (s : List UInt8) (h : ¬ (s.length : Int) < least) : Ev (fun k => florinlaw10_hex.l0 k ((0 : Nat) : Int) least (S s)) (S s) := by
  refine Ev.step (f := fun _ => some (S s)) (fun k => ?_) (Ev.now _)
  rw [florinlaw10_hex.l0, _root_.if_neg (by omega), _root_.if_neg (by rw [S_size]; exact h)]
theorem hexl_pos (least : Int) (s0 : List UInt8) (r : ByteArray) : ∀ (k n : Nat) (s : List UInt8), 0 < n → n < 16 ^ (k + 1) → s.length + k ≤ 900 → (Ev (fun k2 => florinlaw10_hex.l0 k2 ((0 : Nat) : Int) least (S (class_sign.hex (k + 1) n ++ s))) r) → Ev (fun k2 => florinlaw10_hex.l0 k2 (n : Int) least (S s)) r
  | 0, n, s, h0, h1, hs, h => by
    have hn : n < 16 := by simpa using h1
    refine Ev.step (hexl_step n least s (by omega) (.inl h0)) ?_
    rw [show n / 16 = 0 by omega, show n % 16 = n by omega]
    unfold class_sign.hex at h
    rw [_root_.if_pos hn] at h
    exact h
  | k + 1, n, s, h0, h1, hs, h => by
    refine Ev.step (hexl_step n least s (by omega) (.inl h0)) ?_
    by_cases hn : n < 16
    · rw [show n / 16 = 0 by omega, show n % 16 = n by omega]
      unfold class_sign.hex at h
      rw [_root_.if_pos hn] at h
      exact h
    · refine hexl_pos least s0 r k (n / 16) _ (by omega) ?_ (by rw [List.length_cons]; omega) ?_
      · rw [Nat.pow_succ] at h1
        exact (Nat.div_lt_iff_lt_mul (by omega)).2 h1
      · rw [class_sign.hex, _root_.if_neg hn, List.append_assoc] at h
        exact h
/-- noughts ahead -/
theorem hexl_zero (s : List UInt8) (hs : s.length ≤ 100) (m : Nat) (hm : m ≤ 100) : Ev (fun k => florinlaw10_hex.l0 k ((0 : Nat) : Int) ((s.length + m : Nat) : Int) (S s)) (S (List.replicate m 48 ++ s)) := by
  induction m generalizing s with
  | zero => exact hexl_end _ _ (by omega)
  | succ m ih =>
    have gen : ∀ (m : Nat) (s : List UInt8), s.length + m ≤ 300 → Ev (fun k => florinlaw10_hex.l0 k ((0 : Nat) : Int) ((s.length + m : Nat) : Int) (S s)) (S (List.replicate m 48 ++ s)) := by
      intro m
      induction m with
      | zero => intro s _; exact hexl_end _ _ (by omega)
      | succ m ih =>
        intro s hs
        have := ih (48 :: s) (by rw [List.length_cons]; omega)
        refine Ev.step (hexl_step 0 _ s (by omega) (.inr (by omega))) ?_
        rw [List.length_cons, show s.length + 1 + m = s.length + (m + 1) by omega] at this
        rw [List.replicate_succ', List.append_assoc]
        exact this
    exact gen (m + 1) s (by omega)
theorem hexv_zeros : ∀ (m : Nat) (d : List UInt8), hexv (List.replicate m 48 ++ d) = hexv d
  | 0, d => rfl
  | m + 1, d => by
    rw [List.replicate_succ, List.cons_append]
    have : hexv (48 :: (List.replicate m 48 ++ d)) = hexv (List.replicate m 48 ++ d) := rfl
    rw [this, hexv_zeros m d]
/-- as a class's own text has it -/
theorem hex_one (n : Nat) (h : n < 16 ^ 6) : Ev (fun k => florinlaw10_hex.f k (n : Int) 1) (S (class_sign.hex 16 n)) := by
  unfold florinlaw10_hex.f
  rcases Nat.eq_zero_or_pos n with rfl | h0
  · have := hexl_zero [] (by decide) 1 (by decide)
    exact this
  · refine hexl_pos 1 [] _ 15 n [] h0 (Nat.lt_of_lt_of_le h (Nat.pow_le_pow_right (by omega) (by omega))) (by simp) ?_
    rw [List.append_nil]
    obtain ⟨_, _, c, _⟩ := hex_ok 15 n (Nat.lt_of_lt_of_le h (Nat.pow_le_pow_right (by omega) (by omega)))
    have c6 : 1 ≤ (class_sign.hex 16 n).length := c
    exact hexl_end _ _ (by omega)
/-- some digits of this value -/
theorem hex_some (n : Nat) (h : n < 16 ^ 6) (least : Nat) (hl : least ≤ 6) (hp : 1 ≤ least) : ∃ d : List UInt8, Ev (fun k => florinlaw10_hex.f k (n : Int) (least : Int)) (S d) ∧ 1 ≤ d.length ∧ d.length ≤ 6 ∧ d.all hexc = true ∧ hexv d = n := by
  unfold florinlaw10_hex.f
  have zall : ∀ m, (List.replicate m (48 : UInt8)).all hexc = true := fun m => List.all_eq_true.2 fun x hx => by rw [List.eq_of_mem_replicate hx]; rfl
  rcases Nat.eq_zero_or_pos n with rfl | h0
  · have := hexl_zero [] (by decide) least (by omega)
    rw [List.length_nil, Nat.zero_add, List.append_nil] at this
    refine ⟨_, this, by simp; omega, by simp; omega, zall _, ?_⟩
    have := hexv_zeros least []
    rwa [List.append_nil] at this
  · have h16 := Nat.lt_of_lt_of_le h (Nat.pow_le_pow_right (by omega) (show 6 ≤ 16 by omega) : 16 ^ 6 ≤ 16 ^ 16)
    obtain ⟨a, b, c, e⟩ := hex_ok 15 n h16
    have e6 : (class_sign.hex 16 n).length ≤ 6 := e 5 h
    have c6 : 1 ≤ (class_sign.hex 16 n).length := c
    have c7 : (class_sign.hex (15 + 1) n).length = (class_sign.hex 16 n).length := rfl
    refine ⟨List.replicate (least - (class_sign.hex 16 n).length) 48 ++ class_sign.hex 16 n, hexl_pos least [] _ 15 n [] h0 h16 (by simp) ?_, by simp; omega, by simp; omega, by rw [List.all_append, zall, a]; rfl, by rw [hexv_zeros, b]⟩
    rw [List.append_nil]
    by_cases h2 : (class_sign.hex 16 n).length ≤ least
    · have := hexl_zero (class_sign.hex 16 n) (by omega) (least - (class_sign.hex 16 n).length) (by omega)
      rw [show (class_sign.hex 16 n).length + (least - (class_sign.hex 16 n).length) = least by omega] at this
      exact this
    · rw [show least - (class_sign.hex 16 n).length = 0 by omega]
      exact hexl_end _ _ (by omega)
end Go.Proofs.YtnpohgoacbpcjaaGreatDoor.P
namespace Go.Proofs.YtnpohgoacbpcjaaGreatDoor.P
open Go.RowKit Go.Proofs.YtnpohgoacbpcjaaGreatDoorW.PrintWords Go.Proofs.YtnpohgoacbpcjaaGreatDoorW.PrintLast Go.Proofs.YtnpohgoacbpcjaaGreatDoorW.PrintMore Go.Proofs.YtnpohgoacbpcjaaGreatDoor.FM
set_option linter.unusedVariables false
set_option linter.unusedSimpArgs false
/-! a code point's bytes -/
theorem or_c0 (x : Nat) (h : x < 32) : Go.bits .or .u8 192 (x : Int) = ((192 + x : Nat) : Int) := by
  have : ∀ m : Fin 32, Go.bits .or .u8 192 ((m.val : Nat) : Int) = ((192 + m.val : Nat) : Int) := by decide
  exact this ⟨x, h⟩
theorem or_80 (x : Nat) (h : x < 64) : Go.bits .or .u8 128 (x : Int) = ((128 + x : Nat) : Int) := by
  have : ∀ m : Fin 64, Go.bits .or .u8 128 ((m.val : Nat) : Int) = ((128 + m.val : Nat) : Int) := by decide
  exact this ⟨x, h⟩
theorem or_e0 (x : Nat) (h : x < 16) : Go.bits .or .u8 224 (x : Int) = ((224 + x : Nat) : Int) := by
  have : ∀ m : Fin 16, Go.bits .or .u8 224 ((m.val : Nat) : Int) = ((224 + m.val : Nat) : Int) := by decide
  exact this ⟨x, h⟩
theorem or_f0 (x : Nat) (h : x < 8) : Go.bits .or .u8 240 (x : Int) = ((240 + x : Nat) : Int) := by
  have : ∀ m : Fin 8, Go.bits .or .u8 240 ((m.val : Nat) : Int) = ((240 + m.val : Nat) : Int) := by decide
  exact this ⟨x, h⟩
theorem and63 (x : Nat) : Go.bits .and .i64 (x : Int) 63 = ((x % 64 : Nat) : Int) := by
  rw [and64 6 (by omega) _ 63 (by decide)]; omega
def encL (p : Nat) : List Nat := if p < 128 then [p] else if p < 2048 then [192 + p / 64, 128 + p % 64] else if p < 65536 then [224 + p / 4096, 128 + p / 64 % 64, 128 + p % 64] else [240 + p / 262144, 128 + p / 4096 % 64, 128 + p / 64 % 64, 128 + p % 64]
theorem Sign_ev (p : Nat) (h : p ≤ 1114111) : florinlaw09_Sign.f (p : Int) = some (S ((encL p).map UInt8.ofNat)) := by
  have d : ∀ m : Nat, (p : Int) / (m : Int) = ((p / m : Nat) : Int) := fun m => (Int.natCast_ediv _ _).symm
  have m256 : ∀ x : Nat, x < 256 → ((x : Nat) : Int) % 256 = (x : Int) := fun x hx => by omega
  have d64 : (p : Int) / 64 = ((p / 64 : Nat) : Int) := d 64
  have d4096 : (p : Int) / 4096 = ((p / 4096 : Nat) : Int) := d 4096
  have d262144 : (p : Int) / 262144 = ((p / 262144 : Nat) : Int) := d 262144
  have a0 := Nat.mod_lt p (show 0 < 64 by omega)
  have a1 := Nat.mod_lt (p / 64) (show 0 < 64 by omega)
  have a2 := Nat.mod_lt (p / 4096) (show 0 < 64 by omega)
  unfold florinlaw09_Sign.f encL
  rw [d64, d4096, d262144, and63, and63, and63]
  by_cases h1 : p < 128
  · rw [_root_.if_pos (by omega), _root_.if_pos h1, strOfNums_S, m256 _ (by omega)]; rfl
  rw [_root_.if_neg (by omega), _root_.if_neg h1]
  by_cases h2 : p < 2048
  · rw [_root_.if_pos (by omega), _root_.if_pos h2, m256 (p / 64) (by omega), m256 (p % 64) (by omega), or_c0 _ (by omega), or_80 _ (by omega)]; rfl
  rw [_root_.if_neg (by omega), _root_.if_neg h2]
  by_cases h3 : p < 65536
  · rw [_root_.if_pos (by omega), _root_.if_pos h3, m256 (p / 4096) (by omega), m256 (p / 64 % 64) (by omega), m256 (p % 64) (by omega), or_e0 _ (by omega), or_80 _ (by omega), or_80 _ (by omega)]; rfl
  · rw [_root_.if_neg (by omega), _root_.if_neg h3, m256 (p / 262144) (by omega), m256 (p / 4096 % 64) (by omega), m256 (p / 64 % 64) (by omega), m256 (p % 64) (by omega), or_f0 _ (by omega), or_80 _ (by omega), or_80 _ (by omega), or_80 _ (by omega)]; rfl
theorem decB_1 (n : Nat) (q : Nat → Nat) (h : q 0 < 128) : decB n q = (q 0, 1) := by
  unfold decB
  exact _root_.if_pos h
theorem decB_2 (n : Nat) (q : Nat → Nat) (hn : 2 ≤ n) (c0 : q 0 / 32 = 6) (c1 : q 1 / 64 = 2) (hc : 128 ≤ q 0 % 32 * 64 + q 1 % 64) : decB n q = (q 0 % 32 * 64 + q 1 % 64, 2) := by
  unfold decB
  dsimp only
  rw [_root_.if_neg (by omega), _root_.if_pos (by simp only [Bool.and_eq_true, decide_eq_true_eq, beq_iff_eq]; omega), _root_.if_pos (by omega)]
theorem decB_3 (n : Nat) (q : Nat → Nat) (hn : 3 ≤ n) (c0 : q 0 / 16 = 14) (c1 : q 1 / 64 = 2) (c2 : q 2 / 64 = 2) (hc : 2048 ≤ q 0 % 16 * 4096 + q 1 % 64 * 64 + q 2 % 64) (hs : ¬ (55296 ≤ q 0 % 16 * 4096 + q 1 % 64 * 64 + q 2 % 64 ∧ q 0 % 16 * 4096 + q 1 % 64 * 64 + q 2 % 64 ≤ 57343)) : decB n q = (q 0 % 16 * 4096 + q 1 % 64 * 64 + q 2 % 64, 3) := by
  unfold decB
  dsimp only
  rw [_root_.if_neg (by omega), _root_.if_neg (by simp only [Bool.and_eq_true, decide_eq_true_eq, beq_iff_eq]; omega), _root_.if_pos (by simp only [Bool.and_eq_true, decide_eq_true_eq, beq_iff_eq]; omega), _root_.if_pos (by
      unfold Utf8.valid
      simp only [Bool.and_eq_true, Bool.or_eq_true, decide_eq_true_eq]; omega)]
theorem decB_4 (n : Nat) (q : Nat → Nat) (hn : 4 ≤ n) (c0 : q 0 / 8 = 30) (c1 : q 1 / 64 = 2) (c2 : q 2 / 64 = 2) (c3 : q 3 / 64 = 2) (hc : 65536 ≤ q 0 % 8 * 262144 + q 1 % 64 * 4096 + q 2 % 64 * 64 + q 3 % 64) (hs : q 0 % 8 * 262144 + q 1 % 64 * 4096 + q 2 % 64 * 64 + q 3 % 64 ≤ 1114111) : decB n q = (q 0 % 8 * 262144 + q 1 % 64 * 4096 + q 2 % 64 * 64 + q 3 % 64, 4) := by
  unfold decB
  dsimp only
  rw [_root_.if_neg (by omega), _root_.if_neg (by simp only [Bool.and_eq_true, decide_eq_true_eq, beq_iff_eq]; omega), _root_.if_neg (by simp only [Bool.and_eq_true, decide_eq_true_eq, beq_iff_eq]; omega), _root_.if_pos (by simp only [Bool.and_eq_true, decide_eq_true_eq, beq_iff_eq]; omega), _root_.if_pos (by
      unfold Utf8.valid
      simp only [Bool.and_eq_true, Bool.or_eq_true, decide_eq_true_eq]; omega)]
theorem get_S0 (a : UInt8) (v : List UInt8) : ((S (a :: v)).get! (0 + 0)).toNat = a.toNat := rfl
theorem get_S1 (a b : UInt8) (v : List UInt8) : ((S (a :: b :: v)).get! (0 + 1)).toNat = b.toNat := rfl
theorem get_S2 (a b c : UInt8) (v : List UInt8) : ((S (a :: b :: c :: v)).get! (0 + 2)).toNat = c.toNat := rfl
theorem get_S3 (a b c d : UInt8) (v : List UInt8) : ((S (a :: b :: c :: d :: v)).get! (0 + 3)).toNat = d.toNat := rfl
theorem dec_enc (p : Nat) (h : p ≤ 1114111) (hs : ¬ (55296 ≤ p ∧ p ≤ 57343)) (v : List UInt8) : Lib.decodeGo (S ((encL p).map UInt8.ofNat ++ v)) = (p, (encL p).length) := by
  have a0 := Nat.mod_lt p (show 0 < 64 by omega)
  have a1 := Nat.mod_lt (p / 64) (show 0 < 64 by omega)
  have a2 := Nat.mod_lt (p / 4096) (show 0 < 64 by omega)
  have o : ∀ m, m < 256 → (UInt8.ofNat m).toNat = m := fun m hm => ofNat_toNat hm
  unfold encL
  by_cases h1 : p < 128
  · rw [_root_.if_pos h1, List.map_cons, List.map_nil, List.cons_append, List.nil_append, decB_eq _ (by simp)]
    rw [decB_1 _ _ (by rw [get_S0, o _ (by omega)]; exact h1)]
    rw [get_S0, o _ (by omega)]; rfl
  rw [_root_.if_neg h1]
  by_cases h2 : p < 2048
  · rw [_root_.if_pos h2, List.map_cons, List.map_cons, List.map_nil, List.cons_append, List.cons_append, List.nil_append, decB_eq _ (by simp)]
    have g0 := get_S0 (UInt8.ofNat (192 + p / 64)) (UInt8.ofNat (128 + p % 64) :: v)
    have g1 := get_S1 (UInt8.ofNat (192 + p / 64)) (UInt8.ofNat (128 + p % 64)) v
    rw [o _ (by omega)] at g0 g1
    rw [decB_2 _ _ (by simp) (by rw [g0]; omega) (by rw [g1]; omega) (by rw [g0, g1]; omega)]
    rw [g0, g1]
    refine Prod.ext ?_ rfl
    dsimp only
    omega
  rw [_root_.if_neg h2]
  by_cases h3 : p < 65536
  · rw [_root_.if_pos h3, List.map_cons, List.map_cons, List.map_cons, List.map_nil, List.cons_append, List.cons_append, List.cons_append, List.nil_append, decB_eq _ (by simp)]
    have g0 := get_S0 (UInt8.ofNat (224 + p / 4096)) (UInt8.ofNat (128 + p / 64 % 64) :: UInt8.ofNat (128 + p % 64) :: v)
    have g1 := get_S1 (UInt8.ofNat (224 + p / 4096)) (UInt8.ofNat (128 + p / 64 % 64)) (UInt8.ofNat (128 + p % 64) :: v)
    have g2 := get_S2 (UInt8.ofNat (224 + p / 4096)) (UInt8.ofNat (128 + p / 64 % 64)) (UInt8.ofNat (128 + p % 64)) v
    rw [o _ (by omega)] at g0 g1 g2
    have hc : (224 + p / 4096) % 16 * 4096 + (128 + p / 64 % 64) % 64 * 64 + (128 + p % 64) % 64 = p := by omega
    rw [decB_3 _ _ (by simp) (by rw [g0]; omega) (by rw [g1]; omega) (by rw [g2]; omega) (by rw [g0, g1, g2, hc]; omega) (by rw [g0, g1, g2, hc]; exact hs)]
    rw [g0, g1, g2, hc]; rfl
  · rw [_root_.if_neg h3, List.map_cons, List.map_cons, List.map_cons, List.map_cons, List.map_nil, List.cons_append, List.cons_append, List.cons_append, List.cons_append, List.nil_append, decB_eq _ (by simp)]
    have g0 := get_S0 (UInt8.ofNat (240 + p / 262144)) (UInt8.ofNat (128 + p / 4096 % 64) :: UInt8.ofNat (128 + p / 64 % 64) :: UInt8.ofNat (128 + p % 64) :: v)
    have g1 := get_S1 (UInt8.ofNat (240 + p / 262144)) (UInt8.ofNat (128 + p / 4096 % 64)) (UInt8.ofNat (128 + p / 64 % 64) :: UInt8.ofNat (128 + p % 64) :: v)
    have g2 := get_S2 (UInt8.ofNat (240 + p / 262144)) (UInt8.ofNat (128 + p / 4096 % 64)) (UInt8.ofNat (128 + p / 64 % 64)) (UInt8.ofNat (128 + p % 64) :: v)
    have g3 := get_S3 (UInt8.ofNat (240 + p / 262144)) (UInt8.ofNat (128 + p / 4096 % 64)) (UInt8.ofNat (128 + p / 64 % 64)) (UInt8.ofNat (128 + p % 64)) v
    rw [o _ (by omega)] at g0 g1 g2 g3
    have hc : (240 + p / 262144) % 8 * 262144 + (128 + p / 4096 % 64) % 64 * 4096 + (128 + p / 64 % 64) % 64 * 64 + (128 + p % 64) % 64 = p := by omega
    rw [decB_4 _ _ (by simp) (by rw [g0]; omega) (by rw [g1]; omega) (by rw [g2]; omega) (by rw [g3]; omega) (by rw [g0, g1, g2, g3, hc]; omega) (by rw [g0, g1, g2, g3, hc]; exact h)]
    rw [g0, g1, g2, g3, hc]; rfl
def spc (p : Nat) : Bool := [91, 93, 45, 94, 92, 32].contains p
theorem spc_spec (p : Nat) (h : p < 256) : spec (UInt8.ofNat p) = spc p := by
  have : ∀ m : Fin 256, spec (UInt8.ofNat m.val) = spc m.val := by decide +kernel
  exact this ⟨p, h⟩
theorem rd_enc (p : Nat) (h : p ≤ 1114111) (hs : ¬ (55296 ≤ p ∧ p ≤ 57343)) (hn : spc p = false) : Rd ((encL p).map UInt8.ofNat) (p : Int) := by
  by_cases h1 : p < 128
  · have e : (encL p).map UInt8.ofNat = [UInt8.ofNat p] := by unfold encL; rw [_root_.if_pos h1]; rfl
    have hp : (UInt8.ofNat p).toNat = p := ofNat_toNat (by omega)
    rw [e]
    have := rd_ascii (UInt8.ofNat p) (by rw [hp]; exact h1) (by rw [spc_spec p (by omega)]; exact hn)
    rw [hp] at this
    exact this
  · obtain ⟨c, r, he, hc, hl⟩ : ∃ c r, encL p = c :: r ∧ 128 ≤ c ∧ c < 256 ∧ (encL p).length ≤ 4 := by
      unfold encL
      rw [_root_.if_neg h1]
      split
      · exact ⟨_, _, rfl, by omega, by omega, by simp⟩
      split
      · exact ⟨_, _, rfl, by omega, by omega, by simp⟩
      · exact ⟨_, _, rfl, by omega, by omega, by simp⟩
    have h2 : 2 ≤ (encL p).length := by
      unfold encL
      rw [_root_.if_neg h1]
      split
      · simp
      split <;> simp
    have hcn : ∀ d : UInt8, d.toNat < 128 → UInt8.ofNat c ≠ d := fun d hd e => by
      have := congrArg UInt8.toNat e
      rw [ofNat_toNat hl.1] at this
      omega
    have hdec := dec_enc p h hs
    rw [he, List.map_cons] at hdec ⊢
    refine ⟨⟨UInt8.ofNat c, _, rfl, hcn 32 (by decide), hcn 91 (by decide), hcn 93 (by decide), hcn 45 (by decide), hcn 94 (by decide)⟩, fun v => ?_⟩
    have hd := hdec v
    unfold one
    rw [List.cons_append] at hd ⊢
    rw [sk_cons_ne (hcn 32 (by decide))]
    dsimp only
    rw [_root_.if_neg (hcn 92 (by decide)), _root_.if_neg (by
      intro hh
      rcases hh with hh | hh | hh | hh
      · exact hcn 91 (by decide) hh
      · exact hcn 93 (by decide) hh
      · exact hcn 45 (by decide) hh
      · exact hcn 94 (by decide) hh), hd, _root_.if_neg (by
      rw [he] at h2
      dsimp only; omega)]
    congr 2
    show (UInt8.ofNat c :: (r.map UInt8.ofNat ++ v)).drop (c :: r).length = v
    rw [List.length_cons, List.drop_succ_cons, List.drop_append, List.drop_of_length_le (by simp), List.length_map, Nat.sub_self]; rfl
theorem and_21 (n : Int) : ∃ x : Nat, Go.bits .and .i64 n 2097151 = (x : Int) ∧ x < 2097152 := by
  obtain ⟨x, h1, h2⟩ := low64 21 (by omega) n 2097151 (by decide)
  exact ⟨x, h1, by have : (2 : Nat) ^ 21 = 2097152 := by decide
                   omega⟩
theorem Point_ev (n : Int) : ∃ p : Nat, florinlaw09_Point.f n = some (p : Int) ∧ p ≤ 1114111 ∧ ¬ (55296 ≤ p ∧ p ≤ 57343) := by
  obtain ⟨x, h1, h2⟩ := and_21 n
  have a16 : ∀ y : Nat, Go.bits .and .i64 (y : Int) 65535 = ((y % 65536 : Nat) : Int) := fun y => by rw [and64 16 (by omega) _ 65535 (by decide)]; omega
  have a12 : ∀ y : Nat, Go.bits .and .i64 (y : Int) 4095 = ((y % 4096 : Nat) : Int) := fun y => by rw [and64 12 (by omega) _ 4095 (by decide)]; omega
  unfold florinlaw09_Point.f
  rw [h1, a16, a12, a12]
  by_cases c1 : (x : Int) > 1114111
  · rw [_root_.if_pos c1]
    by_cases c2 : ((x % 65536 : Nat) : Int) ≥ 55296
    · rw [_root_.if_pos c2]
      by_cases c3 : ((x % 65536 : Nat) : Int) ≤ 57343
      · rw [_root_.if_pos c3]; exact ⟨_, rfl, by omega, by omega⟩
      · rw [_root_.if_neg c3]; exact ⟨_, rfl, by omega, by omega⟩
    · rw [_root_.if_neg c2]; exact ⟨_, rfl, by omega, by omega⟩
  · rw [_root_.if_neg c1]
    by_cases c2 : (x : Int) ≥ 55296
    · rw [_root_.if_pos c2]
      by_cases c3 : (x : Int) ≤ 57343
      · rw [_root_.if_pos c3]; exact ⟨_, rfl, by omega, by omega⟩
      · rw [_root_.if_neg c3]; exact ⟨_, rfl, by omega, by omega⟩
    · rw [_root_.if_neg c2]; exact ⟨_, rfl, by omega, by omega⟩
theorem hex_text (p : Nat) (h : p ≤ 1114111) (least : Nat) (hl : least ≤ 6) (hp : 1 ≤ least) : ∃ x : List UInt8, Ev (fun k => (florinlaw10_hex.f k (p : Int) (least : Int)).bind fun t => (if 3 + t.size ≤ 9223372036854775807 then (if ((⟨#[92, 117, 123]⟩ : ByteArray) ++ t).size + 1 ≤ 9223372036854775807 then (some ((p : Int), ((⟨#[92, 117, 123]⟩ : ByteArray) ++ t) ++ (⟨#[125]⟩ : ByteArray))) else (none)) else (none))) ((p : Int), S x) ∧ Rd x p ∧ x.length ≤ 10 := by
  have h16 : p < 16 ^ 6 := by have : (16 : Nat) ^ 6 = 16777216 := by decide
                              omega
  obtain ⟨d, h1, h2, h3, h4, h5⟩ := hex_some p h16 least hl hp
  refine ⟨[92, 117, 123] ++ (d ++ [125]), ?_, ?_, by simp; omega⟩
  · refine Ev.bind h1 (Ev.if_pos (by rw [S_size]; omega) ?_)
    rw [show (⟨#[92, 117, 123]⟩ : ByteArray) = S [92, 117, 123] from rfl, show (⟨#[125]⟩ : ByteArray) = S [125] from rfl, S_append, S_append, List.append_assoc]
    refine Ev.if_pos (by rw [S_size, List.length_append]; simp; omega) (Ev.now _)
  · have := rd_hex d h2 h3 h4 (by rw [h5]; exact h)
    rwa [h5] at this
theorem write_j0 (p : Nat) (h : p ≤ 1114111) (hs : ¬ (55296 ≤ p ∧ p ≤ 57343)) (n K : Int) : ∃ x : List UInt8, Ev (fun k => florinlaw10_One_write.j0 k (p : Int) (spc p) n K) ((p : Int), S x) ∧ Rd x p ∧ x.length ≤ 10 := by
  have enl : ((encL p).map UInt8.ofNat).length ≤ 4 := by
    rw [List.length_map]
    unfold encL
    split
    · simp
    split
    · simp
    split <;> simp
  have hsg := Sign_ev p h
  obtain ⟨q, hq⟩ : ∃ q, Go.bits .and .i64 K 3 = q := ⟨_, rfl⟩
  have one1 := hex_text p h 1 (by omega) (by omega)
  have one6 := hex_text p h 6 (by omega) (by omega)
  by_cases q0 : q = 0
  · cases hc : spc p with
    | true =>
      obtain ⟨x, h1, h2⟩ := one1
      exact ⟨x, Ev.step (fun k => (by rw [florinlaw10_One_write.j0, hq, _root_.if_pos q0, _root_.if_pos rfl]; rfl)) h1, h2⟩
    | false =>
      refine ⟨_, Ev.step (f := fun _ => some ((p : Int), S ((encL p).map UInt8.ofNat))) (fun k => ?_) (Ev.now _), rd_enc p h hs hc, by omega⟩
      rw [florinlaw10_One_write.j0, hq, _root_.if_pos q0, _root_.if_neg (by decide), hsg]; rfl
  by_cases q1 : q = 1
  · cases hc : spc p with
    | true =>
      have h128 : p < 128 := by
        unfold spc at hc
        simp only [List.contains_iff_mem, List.mem_cons, List.not_mem_nil, or_false] at hc
        omega
      have e : (encL p).map UInt8.ofNat = [UInt8.ofNat p] := by unfold encL; rw [_root_.if_pos h128]; rfl
      refine ⟨[92, UInt8.ofNat p], Ev.step (f := fun _ => some ((p : Int), S [92, UInt8.ofNat p])) (fun k => ?_) (Ev.now _), ?_, by simp⟩
      · rw [florinlaw10_One_write.j0, hq, _root_.if_neg q0, _root_.if_pos q1, _root_.if_pos rfl, hsg, Option.bind_some, e, _root_.if_pos (by rw [S_size]; simp), show (⟨#[92]⟩ : ByteArray) = S [92] from rfl, S_append]; rfl
      · have := rd_esc (UInt8.ofNat p) (by rw [spc_spec p (by omega)]; exact hc)
        rwa [ofNat_toNat (by omega)] at this
    | false =>
      obtain ⟨x, h1, h2⟩ := one1
      exact ⟨x, Ev.step (fun k => (by rw [florinlaw10_One_write.j0, hq, _root_.if_neg q0, _root_.if_pos q1, _root_.if_neg (by decide)]; rfl)) h1, h2⟩
  by_cases q3 : q = 3
  · obtain ⟨x, h1, h2⟩ := one6
    exact ⟨x, Ev.step (fun k => (by rw [florinlaw10_One_write.j0, hq, _root_.if_neg q0, _root_.if_neg q1, _root_.if_pos q3]; rfl)) h1, h2⟩
  · obtain ⟨x, h1, h2⟩ := one1
    exact ⟨x, Ev.step (fun k => (by rw [florinlaw10_One_write.j0, hq, _root_.if_neg q0, _root_.if_neg q1, _root_.if_neg q3]; rfl)) h1, h2⟩
theorem One_write_ev (n K : Int) : ∃ (p : Nat) (x : List UInt8), Ev (fun k => florinlaw10_One_write.f k n K) ((p : Int), S x) ∧ Rd x p ∧ x.length ≤ 10 ∧ p ≤ 1114111 := by
  obtain ⟨p, h1, h2, h3⟩ := Point_ev n
  obtain ⟨x, h4, h5, h6⟩ := write_j0 p h2 h3 n K
  refine ⟨p, x, ?_, h5, h6, h2⟩
  unfold florinlaw10_One_write.f
  refine Ev.const h1 ?_
  have yes : (p = 91 ∨ p = 93 ∨ p = 45 ∨ p = 94 ∨ p = 92 ∨ p = 32) → spc p = true := by
    rintro (rfl | rfl | rfl | rfl | rfl | rfl) <;> rfl
  by_cases c1 : (p : Int) = 91
  · rw [yes (by omega)] at h4; exact Ev.if_pos c1 h4
  refine Ev.if_neg c1 ?_
  by_cases c2 : (p : Int) = 93
  · rw [yes (by omega)] at h4; exact Ev.if_pos c2 h4
  refine Ev.if_neg c2 ?_
  by_cases c3 : (p : Int) = 45
  · rw [yes (by omega)] at h4; exact Ev.if_pos c3 h4
  refine Ev.if_neg c3 ?_
  by_cases c4 : (p : Int) = 94
  · rw [yes (by omega)] at h4; exact Ev.if_pos c4 h4
  refine Ev.if_neg c4 ?_
  by_cases c5 : (p : Int) = 92
  · rw [yes (by omega)] at h4; exact Ev.if_pos c5 h4
  refine Ev.if_neg c5 ?_
  have : ((p : Int) == 32) = spc p := by
    by_cases c6 : p = 32
    · subst c6; rfl
    · have e1 : ((p : Int) == 32) = false := by simpa using (show ¬ (p : Int) = 32 by omega)
      have e2 : spc p = false := by
        rw [Bool.eq_false_iff]
        intro hc
        unfold spc at hc
        simp only [List.contains_iff_mem, List.mem_cons, List.not_mem_nil, or_false] at hc
        omega
      rw [e1, e2]
  rw [this]
  exact h4
end Go.Proofs.YtnpohgoacbpcjaaGreatDoor.P
