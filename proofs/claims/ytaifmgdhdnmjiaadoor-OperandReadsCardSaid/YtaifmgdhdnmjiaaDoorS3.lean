import Derived.Test.YtaifmgdhdnmjiaaDoorS2
import Derived.Test.YtaifmgdhdnmjiaaDoorPx10
import Derived.Test.YtaifmgdhdnmjiaaDoorPx6
namespace Go.Proofs.YtaifmgdhdnmjiaaDoor.P
open Go.RowKit Go.Proofs.YtaifmgdhdnmjiaaDoorW.PrintWords Go.Proofs.YtaifmgdhdnmjiaaDoorW.PrintLast Go.Proofs.YtaifmgdhdnmjiaaDoorW.PrintMore Go.Proofs.YtaifmgdhdnmjiaaDoor.FM
set_option linter.unusedVariables false
set_option linter.unusedSimpArgs false

theorem d10 (c : Nat) : Int.tdiv (c : Int) 10 = ((c / 10 : Nat) : Int) := (Int.ofNat_tdiv c 10).symm
theorem m10 (c : Nat) : Int.tmod (c : Int) 10 = ((c % 10 : Nat) : Int) := (Int.ofNat_tmod c 10).symm
theorem byte10 (c : Nat) : (48 + ((c % 10 : Nat) : Int)) % 256 = ((48 + c % 10 : Nat) : Int) := by omega
theorem back10 (c : Nat) : (((48 + c % 10 : Nat) : Int) - 48).toNat = c % 10 := by omega
theorem snoc10 {l : List Int} (h : DI l) (c : Nat) : DI (l ++ [((48 + c % 10 : Nat) : Int)]) := h.snoc (by omega) (by omega)
theorem inc64 {i : Nat} (h : i ≤ 9000000000000000000) : wrap64 ((i : Int) + 1) = ((i + 1 : Nat) : Int) := by rw [w64 (by omega) (by omega)]; rfl
theorem nat64 {i : Nat} (h : i ≤ 9000000000000000000) : wrap64 (i : Int) = (i : Int) := w64 (by omega) (by omega)

/-! so many times -/
theorem times_sum {x m c p : Nat} (hp : x * m = p) (h1 : p ≤ 9000000000) (h2 : c ≤ 1000000000000) : wrap64 (wrap64 ((x : Int) * (m : Int)) + c) = ((p + c : Nat) : Int) := by
  have e : (x : Int) * (m : Int) = (p : Int) := by rw [← hp]; simp
  rw [e]
  clear e hp
  rw [w64 (x := (p : Int)) (by omega) (by omega), w64 (by omega) (by omega)]; omega
theorem times_go (a : List UInt8) (la : a.length ≤ 100000000000) (da : Dig a) (m i : Nat) (back : List Int) (c x p : Nat) (hi : i < a.length) (hb : back.length < 140737488355328) (hx : nvl a / 10 ^ i % 10 = x) (hp : x * m = p) (h1 : p ≤ 9000000000) (h2 : c ≤ 1000000000000) (k : Nat) :
    num_Times.l0 (k + 1) (S a) (m : Int) back (c : Int) (i : Int) = num_Times.l0 k (S a) (m : Int) (back ++ [((48 + (p + c) % 10 : Nat) : Int)]) (((p + c) / 10 : Nat) : Int) ((i + 1 : Nat) : Int) := by
  rw [num_Times.l0, S_size, _root_.if_pos (by omega), at_ev a la da i (by omega), hx]
  simp only [Option.bind_some]
  rw [_root_.if_pos hb, times_sum hp h1 h2, d10, m10, byte10, inc64 (by omega), nat64 (by clear hx hp; omega)]
theorem times_on (a : List UInt8) (la : a.length ≤ 100000000000) (da : Dig a) (m i : Nat) (back : List Int) (c : Nat) (hi : a.length ≤ i) (hb : back.length < 140737488355328) (hi2 : i ≤ 1000000000001) (hc : 0 < c) (h2 : c ≤ 1000000000000) (k : Nat) :
    num_Times.l0 (k + 1) (S a) (m : Int) back (c : Int) (i : Int) = num_Times.l0 k (S a) (m : Int) (back ++ [((48 + c % 10 : Nat) : Int)]) ((c / 10 : Nat) : Int) ((i + 1 : Nat) : Int) := by
  have hz : nvl a / 10 ^ i % 10 = 0 := by rw [digit_beyond da hi]
  rw [num_Times.l0, S_size, _root_.if_neg (by omega), _root_.if_pos (by omega), at_ev a la da i hi2, hz]
  clear hz
  simp only [Option.bind_some]
  rw [_root_.if_pos hb, times_sum (x := 0) (p := 0) (by omega) (by omega) h2, Nat.zero_add, d10, m10, byte10, inc64 (by omega), nat64 (by omega)]
theorem times_end (a : List UInt8) (la : a.length ≤ 100000000000) (da : Dig a) (m v : Nat) (c : Nat) : ∀ (i : Nat) (back : List Int), a.length ≤ i → i + c ≤ 200000000000 → DI back → back.length = i → rvi back + 10 ^ i * c = v →
    Ev (fun k => num_Times.l0 k (S a) (m : Int) back (c : Int) (i : Int)) (S (mkl v)) := by
  induction c using Nat.strongRecOn with
  | ind c ih =>
    intro i back hi hic hD hl hv
    rcases Nat.eq_zero_or_pos c with rfl | hc
    · rw [Nat.mul_zero, Nat.add_zero] at hv
      refine Ev.step (f := fun k => (num_text.f k back).bind fun t => some t) (fun k => ?_) ?_
      · clear hv
        rw [num_Times.l0, S_size, _root_.if_neg (by omega), _root_.if_neg (by omega)]
      · have := text_ev back (by clear hv; omega) hD
        rw [hv] at this
        exact Ev.bind this (Ev.now _)
    · have e3 := end_step_math hv
      clear hv
      refine Ev.step (times_on a la da m i back c hi (by clear e3; omega) (by clear e3; omega) hc (by clear e3; omega)) ?_
      refine ih (c / 10) (by clear e3; omega) (i + 1) _ (by clear e3; omega) (by clear e3; omega) (snoc10 hD c) (by simp [hl]) ?_
      rw [rvi_snoc, hl, back10]
      exact e3
theorem times_loop (a : List UInt8) (la : a.length ≤ 100000000000) (da : Dig a) (m : Nat) (hm : m ≤ 1000000000) (d : Nat) : ∀ (i : Nat) (back : List Int) (c : Nat), i + d = a.length → c ≤ m → DI back → back.length = i → rvi back + 10 ^ i * c = nvl a % 10 ^ i * m →
    Ev (fun k => num_Times.l0 k (S a) (m : Int) back (c : Int) (i : Int)) (S (mkl (nvl a * m))) := by
  induction d with
  | zero =>
    intro i back c hi hc hD hl hv
    rw [Dig.lt da i (by clear hv; omega)] at hv
    exact times_end a la da m _ c i back (by clear hv; omega) (by clear hv; omega) hD hl hv
  | succ d ih =>
    intro i back c hi hc hD hl hv
    obtain ⟨x, hx⟩ : ∃ x, nvl a / 10 ^ i % 10 = x := ⟨_, rfl⟩
    have hx9 : x ≤ 9 := by clear hv; omega
    have hxm : x * m ≤ 9 * m := Nat.mul_le_mul_right _ hx9
    obtain ⟨p, hp⟩ : ∃ p, x * m = p := ⟨_, rfl⟩
    rw [hp] at hxm
    have e3 := times_step_math hx hp hv
    clear hv
    refine Ev.step (times_go a la da m i back c x p (by clear hx hp e3; omega) (by clear hx hp e3; omega) hx hp (by clear hx hp e3; omega) (by clear hx hp e3; omega)) ?_
    clear hx hp
    refine ih (i + 1) _ _ (by clear e3; omega) (by clear e3; omega) (snoc10 hD (p + c)) (by simp [hl]) ?_
    rw [rvi_snoc, hl, back10]
    exact e3
theorem Times_ev (a : List UInt8) (ha : Sm a) (da : Dig a) (m : Nat) (hm : m ≤ 1000000000) : Ev (fun k => num_Times.f k (S a) (m : Int)) (S (mkl (nvl a * m))) := by
  unfold num_Times.f
  refine Ev.bind (Is_ev a (by unfold Sm at ha; omega)) ?_
  rw [decide_eq_true da]
  refine Ev.if_pos rfl (Ev.if_neg (by omega) ?_)
  rw [decide_eq_false (by omega : ¬ (m : Int) > 1000000000)]
  refine Ev.step (f := fun k => num_Times.l0 k (S a) (m : Int) [] 0 0) (fun k => ?_) ?_
  · rw [num_Times.j0, _root_.if_neg (by decide)]
  · exact times_loop a ha da m hm a.length 0 [] 0 (by omega) (by omega) DI.nil rfl (by simp [rvi, Nat.mod_one])
theorem Times_not (a : List UInt8) (ha : Sm a) (m : Int) (h : ¬ (Dig a ∧ 0 ≤ m ∧ m ≤ 1000000000)) : Ev (fun k => num_Times.f k (S a) m) (S []) := by
  unfold num_Times.f
  have fin : Ev (fun k => num_Times.j0 k (S a) m true) (S []) := by
    refine Ev.step (f := fun k => some (S [])) (fun k => ?_) (Ev.now _)
    rw [num_Times.j0, _root_.if_pos rfl]; rfl
  refine Ev.bind (Is_ev a (by unfold Sm at ha; omega)) ?_
  by_cases da : Dig a
  · rw [decide_eq_true da]
    refine Ev.if_pos rfl ?_
    by_cases h0 : m < 0
    · exact Ev.if_pos h0 fin
    · refine Ev.if_neg h0 ?_
      rw [decide_eq_true (by have : ¬ (0 ≤ m ∧ m ≤ 1000000000) := fun hh => h ⟨da, hh⟩
                             omega : m > 1000000000)]
      exact fin
  · rw [decide_eq_false da]
    exact Ev.if_neg (by decide) fin

/-! an int's digits -/
theorem of_loop (v : Nat) (n : Nat) : ∀ (i : Nat) (back : List Int), i + n ≤ 9223372036854775807 + 100 → i ≤ 100 → n < 10 ^ (100 - i) → DI back → back.length = i → rvi back + 10 ^ i * n = v →
    Ev (fun k => num_Of.l0 k (n : Int) back) (S (mkl v)) := by
  induction n using Nat.strongRecOn with
  | ind n ih =>
    intro i back hin hi hn hD hl hv
    rcases Nat.eq_zero_or_pos n with rfl | hc
    · rw [Nat.mul_zero, Nat.add_zero] at hv
      refine Ev.step (f := fun k => (num_text.f k back).bind fun t => some t) (fun k => ?_) ?_
      · rw [num_Of.l0, _root_.if_neg (by omega)]
      · have := text_ev back (by clear hv hn; omega) hD
        rw [hv] at this
        exact Ev.bind this (Ev.now _)
    · have e3 := end_step_math hv
      clear hv
      have hi1 : i < 100 := by
        rcases Nat.lt_or_ge i 100 with h | h
        · exact h
        · rw [Nat.sub_eq_zero_of_le h] at hn
          clear e3; omega
      have hn' : n / 10 < 10 ^ (100 - (i + 1)) := by
        rw [show 100 - i = (100 - (i + 1)) + 1 by clear e3 hn; omega, Nat.pow_succ] at hn
        clear e3; omega
      clear hn
      refine Ev.step (f := fun k => num_Of.l0 k ((n / 10 : Nat) : Int) (back ++ [((48 + n % 10 : Nat) : Int)])) (fun k => ?_) ?_
      · have hb : back.length < 140737488355328 := by clear e3 hn'; omega
        have hw : wrap64 ((n / 10 : Nat) : Int) = ((n / 10 : Nat) : Int) := w64 (by omega) (by clear e3 hn'; omega)
        rw [num_Of.l0, _root_.if_pos (by clear e3 hn'; omega), _root_.if_pos hb, d10, m10, byte10, hw]
      · refine ih (n / 10) (by clear e3 hn'; omega) (i + 1) _ (by clear e3 hn'; omega) (by omega) hn' (snoc10 hD n) (by simp [hl]) ?_
        rw [rvi_snoc, hl, back10]
        exact e3
theorem Of_ev (n : Nat) (hn : n ≤ 9223372036854775807) : Ev (fun k => num_Of.f k (n : Int)) (S (mkl n)) := by
  unfold num_Of.f
  exact of_loop n n 0 [] (by omega) (by omega) (Nat.lt_of_le_of_lt hn (by decide)) DI.nil rfl (by simp [rvi])
theorem Of_neg (n : Int) (hn : n ≤ 0) : Ev (fun k => num_Of.f k n) (S []) := by
  unfold num_Of.f
  refine Ev.step (f := fun k => (num_text.f k []).bind fun t => some t) (fun k => ?_) ?_
  · rw [num_Of.l0, _root_.if_neg (by omega)]
  · have := text_ev [] (by simp) DI.nil
    rw [show mkl (rvi []) = [] by simp [rvi]] at this
    exact Ev.bind this (Ev.now _)
end Go.Proofs.YtaifmgdhdnmjiaaDoor.P
