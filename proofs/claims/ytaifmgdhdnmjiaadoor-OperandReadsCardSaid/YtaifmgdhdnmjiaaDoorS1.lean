import Derived.Test.YtaifmgdhdnmjiaaDoorM6
import Derived.Test.YtaifmgdhdnmjiaaDoorPx10
import Derived.Test.YtaifmgdhdnmjiaaDoorPx3
import Derived.Test.YtaifmgdhdnmjiaaDoorPx6
namespace Go.Proofs.YtaifmgdhdnmjiaaDoor.P
open Go.RowKit Go.Proofs.YtaifmgdhdnmjiaaDoorW.PrintWords Go.Proofs.YtaifmgdhdnmjiaaDoorW.PrintLast Go.Proofs.YtaifmgdhdnmjiaaDoorW.PrintMore Go.Proofs.YtaifmgdhdnmjiaaDoor.FM
set_option linter.unusedVariables false
set_option linter.unusedSimpArgs false

/-! strings as lists of bytes -/
def S (l : List UInt8) : ByteArray := ⟨l.toArray⟩
theorem S_data (l : List UInt8) : (S l).data.toList = l := rfl
theorem S_of (s : ByteArray) : s = S s.data.toList := rfl
theorem S_size (l : List UInt8) : (S l).size = l.length := rfl
theorem S_toList (l : List UInt8) : (S l).toList = l := by rw [ByteArray.toList_eq]; rfl
theorem S_inj {a b : List UInt8} : S a = S b ↔ a = b := ⟨fun h => by have := congrArg (fun s : ByteArray => s.data.toList) h; exact this, fun h => by rw [h]⟩
theorem S_append (a b : List UInt8) : S a ++ S b = S (a ++ b) := by
  have h : (S a ++ S b).data.toList = a ++ b := by simp [S]
  rw [S_of (S a ++ S b), h]
theorem S_extract (l : List UInt8) (i j : Nat) : (S l).extract i j = S ((l.take j).drop i) := by
  have h : ((S l).extract i j).data.toList = (l.take j).drop i := by
    simp [S, ByteArray.data_extract, Array.toList_extract, List.drop_take]
  rw [S_of ((S l).extract i j), h]
theorem bt_S (l : List UInt8) (i : Int) : bt (S l) i = (l.getD i.toNat 0).toNat := by
  unfold bt
  have hs : (S l).size = l.length := rfl
  by_cases h : i.toNat < l.length
  · rw [dif_pos (by rw [hs]; exact h)]
    rw [List.getD_eq_getElem?_getD, List.getElem?_eq_getElem h]
    rfl
  · rw [dif_neg (by rw [hs]; exact h), List.getD_eq_getElem?_getD, List.getElem?_eq_none (by omega)]
    rfl
theorem w64 {x : Int} (h1 : -9223372036854775808 ≤ x) (h2 : x ≤ 9223372036854775807) : wrap64 x = x := by unfold wrap64; omega
theorem strOfNums_S (l : List Int) : strOfNums l = S (l.map fun n => UInt8.ofNat n.toNat) := rfl

/-- from some number of rounds on, whatever was asked first: a call that doesn't hang on the rounds -/
theorem Ev.const {α β : Type} {g : Option α} {f : Nat → α → Option β} {a : α} {r : β} (h : g = some a) (k : Ev (fun n => f n a) r) : Ev (fun n => g.bind (f n)) r := by
  subst h; exact k
theorem Ev.if_pos {α : Type} {c : Prop} [Decidable c] {a b : Nat → Option α} {r : α} (h : c) (k : Ev a r) : Ev (fun n => if c then a n else b n) r := by
  simpa only [_root_.if_pos h] using k
theorem Ev.if_neg {α : Type} {c : Prop} [Decidable c] {a b : Nat → Option α} {r : α} (h : ¬ c) (k : Ev b r) : Ev (fun n => if c then a n else b n) r := by
  simpa only [_root_.if_neg h] using k
theorem Ev.uniq {α : Type} {g : Nat → Option α} {a b : α} (h : Ev g a) (k : Ev g b) : a = b := by
  obtain ⟨K, h⟩ := h
  obtain ⟨K', k⟩ := k
  have h1 := h (max K K') (by omega)
  have h2 := k (max K K') (by omega)
  rw [h1] at h2; exact Option.some.inj h2

/-- a length that never wraps -/
abbrev Sm (l : List UInt8) : Prop := l.length ≤ 100000000000

theorem Is_loop (l : List UInt8) (hl : l.length ≤ 1000000000000) (d : Nat) : ∀ i : Nat, i + d = l.length → Ev (fun k => num_Is.l0 k (S l) (l.length : Int) (i : Int)) (decide (Dig (l.drop i))) := by
  induction d with
  | zero =>
    intro i hi
    refine Ev.step (f := fun _ => some true) (fun k => ?_) ?_
    · rw [num_Is.l0, _root_.if_neg (by omega)]
    · rw [List.drop_of_length_le (by omega)]
      exact Ev.now true
  | succ d ih =>
    intro i hi
    have hlt : i < l.length := by omega
    have hdrop : l.drop i = l[i] :: l.drop (i + 1) := (List.getElem_cons_drop ..).symm
    have hb : bt (S l) (i : Int) = (l[i].toNat : Int) := by
      rw [bt_S, Int.toNat_natCast, List.getD_eq_getElem?_getD, List.getElem?_eq_getElem hlt]; rfl
    have hw : wrap64 ((i : Int) + 1) = ((i + 1 : Nat) : Int) := by rw [w64 (by omega) (by omega)]; rfl
    by_cases hc : 48 ≤ l[i].toNat ∧ l[i].toNat ≤ 57
    · refine Ev.step (f := fun k => num_Is.l0 k (S l) (l.length : Int) ((i + 1 : Nat) : Int)) (fun k => ?_) ?_
      · rw [num_Is.l0, _root_.if_pos (by omega), _root_.if_pos (by omega), _root_.if_pos (by rw [S_size]; omega), hb, _root_.if_neg (by omega), _root_.if_neg (by omega), hw]
      · have := ih (i + 1) (by omega)
        rw [hdrop]
        rw [show decide (Dig (l[i] :: l.drop (i + 1))) = decide (Dig (l.drop (i + 1))) by simp only [dig_cons, hc, true_and]]
        exact this
    · refine Ev.step (f := fun k => some false) (fun k => ?_) ?_
      · rw [num_Is.l0, _root_.if_pos (by omega), _root_.if_pos (by omega), _root_.if_pos (by rw [S_size]; omega), hb]
        by_cases h1 : l[i].toNat < 48
        · rw [_root_.if_pos (by omega)]
        · rw [_root_.if_neg (by omega), _root_.if_pos (by omega)]
      · rw [hdrop, show decide (Dig (l[i] :: l.drop (i + 1))) = false by
          rw [decide_eq_false_iff_not, dig_cons]; intro h; exact hc h.1]
        exact Ev.now false
theorem Is_ev (l : List UInt8) (hl : l.length ≤ 1000000000000) : Ev (fun k => num_Is.f k (S l)) (decide (Dig l)) := Is_loop l hl l.length 0 (by omega)
theorem TrimLeft_zero (l : List UInt8) : strings_TrimLeft.f (S l) (⟨#[48]⟩ : ByteArray) = some (S (bare l)) := by
  unfold strings_TrimLeft.f
  rw [dif_pos (by rfl), _root_.if_pos (by decide)]
  rfl
theorem Trim_dig (l : List UInt8) (hl : l.length ≤ 1000000000000) (hd : Dig l) : Ev (fun k => num_Trim.f k (S l)) (S (mkl (nvl l))) := by
  unfold num_Trim.f
  refine Ev.bind (Is_ev l hl) ?_
  rw [decide_eq_true hd]
  refine Ev.if_pos rfl ?_
  refine Ev.const (TrimLeft_zero l) ?_
  rw [bare_eq hd]
  exact Ev.now _
theorem Trim_not (l : List UInt8) (hl : l.length ≤ 1000000000000) (hd : ¬ Dig l) : Ev (fun k => num_Trim.f k (S l)) (S []) := by
  unfold num_Trim.f
  refine Ev.bind (Is_ev l hl) ?_
  rw [decide_eq_false hd]
  exact Ev.if_neg (by decide) (Ev.now _)

theorem text_loop (l : List Int) (hl : l.length ≤ 1000000000000) (r : ByteArray) (hr : Ev (fun k => num_Trim.f k (strOfNums l.reverse)) r) (d : Nat) : ∀ i : Nat, i + d = l.length →
    Ev (fun k => num_text.l0 k l (List.replicate (l.length - i) 0 ++ (l.take i).reverse) l (l.length : Int) (i : Int)) r := by
  induction d with
  | zero =>
    intro i hi
    obtain rfl : i = l.length := by omega
    refine Ev.step (f := fun k => (num_Trim.f k (strOfNums l.reverse)).bind fun t => some t) (fun k => ?_) (Ev.bind hr (Ev.now _))
    rw [num_text.l0, _root_.if_neg (by omega)]
    simp
  | succ d ih =>
    intro i hi
    have hlt : i < l.length := by omega
    refine Ev.step (f := fun k => num_text.l0 k l (List.replicate (l.length - (i + 1)) 0 ++ (l.take (i + 1)).reverse) l (l.length : Int) ((i + 1 : Nat) : Int)) (fun k => ?_) (ih (i + 1) (by omega))
    have hw : wrap64 ((i : Int) + 1) = ((i + 1 : Nat) : Int) := by rw [w64 (by omega) (by omega)]; rfl
    have hw2 : wrap64 (wrap64 ((l.length : Int) - 1) - i) = ((l.length - 1 - i : Nat) : Int) := by
      rw [w64 (x := (l.length : Int) - 1) (by omega) (by omega), w64 (by omega) (by omega)]; omega
    rw [num_text.l0, _root_.if_pos (by omega), _root_.if_pos (by omega), _root_.if_pos (by omega), hw2, _root_.if_pos (by omega), _root_.if_pos (by simp; omega), hw]
    rw [Int.toNat_natCast]
    have := set_row l i hlt
    unfold rd
    rw [Int.toNat_natCast, this]
theorem text_ev (l : List Int) (hl : l.length ≤ 1000000000000) (hd : DI l) : Ev (fun k => num_text.f k l) (S (mkl (rvi l))) := by
  unfold num_text.f
  refine Ev.if_pos (by omega) (Ev.if_pos (by omega) ?_)
  have h := text_loop l hl (S (mkl (rvi l))) (by
    have h1 := Trim_dig (bytesR l) (by simpa [bytesR] using hl) (bytesR_dig hd)
    rw [bytesR_nvl hd] at h1
    exact h1) l.length 0 (by omega)
  simpa using h

theorem at_ev (l : List UInt8) (hl : Sm l) (hd : Dig l) (i : Nat) (hi : i ≤ 1000000000001) : num_at.f (S l) (i : Int) = some ((nvl l / 10 ^ i % 10 : Nat) : Int) := by
  unfold num_at.f
  rw [S_size]
  by_cases h : l.length ≤ i
  · rw [_root_.if_pos (by omega), digit_beyond hd h]; rfl
  · have hw2 : wrap64 (wrap64 ((l.length : Int) - 1) - i) = ((l.length - 1 - i : Nat) : Int) := by
      unfold Sm at hl
      rw [w64 (x := (l.length : Int) - 1) (by omega) (by omega), w64 (by omega) (by omega)]; omega
    rw [_root_.if_neg (by omega), hw2, _root_.if_pos (by omega), _root_.if_pos (by omega), bt_S, Int.toNat_natCast]
    have h1 := get_digit hd (show i < l.length by omega)
    have h2 := hd (l.getD (l.length - 1 - i) 0) (by
      rw [List.getD_eq_getElem?_getD, List.getElem?_eq_getElem (show l.length - 1 - i < l.length by omega)]
      exact List.getElem_mem _)
    rw [← h1]
    congr 1
    omega
end Go.Proofs.YtaifmgdhdnmjiaaDoor.P
