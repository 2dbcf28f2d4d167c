import Derived.Test.YtefacokhmmpiaaaDoorS1
import Derived.Test.YtefacokhmmpiaaaDoorPx1
import Derived.Test.YtefacokhmmpiaaaDoorPx2
import Derived.Test.YtefacokhmmpiaaaDoorPx3
import Derived.Test.YtefacokhmmpiaaaDoorPx4
import Derived.Test.YtefacokhmmpiaaaDoorPx8
namespace Go.Proofs.YtefacokhmmpiaaaDoor.P
open Go.RowKit Go.Proofs.YtefacokhmmpiaaaDoorW.PrintWords Go.Proofs.YtefacokhmmpiaaaDoorW.PrintLast Go.Proofs.YtefacokhmmpiaaaDoorW.PrintMore Go.Proofs.YtefacokhmmpiaaaDoor.FM
set_option linter.unusedVariables false
set_option linter.unusedSimpArgs false

theorem mx_len (a b : Nat) : mx (a : Int) (b : Int) = ((max a b : Nat) : Int) := by unfold mx; split <;> omega
theorem Dig.lt {l : List UInt8} (h : Dig l) (i : Nat) (hi : l.length ≤ i) : nvl l % 10 ^ i = nvl l :=
  Nat.mod_eq_of_lt (Nat.lt_of_lt_of_le (nvl_lt h) (Nat.pow_le_pow_right (by omega) hi))

theorem add_step_math {na nb i x y c r : Nat} (hx : na / 10 ^ i % 10 = x) (hy : nb / 10 ^ i % 10 = y) (hv : r + 10 ^ i * c = na % 10 ^ i + nb % 10 ^ i) :
    r + 10 ^ i * ((x + y + c) % 10) + 10 ^ (i + 1) * ((x + y + c) / 10) = na % 10 ^ (i + 1) + nb % 10 ^ (i + 1) := by
  rw [Nat.mod_pow_succ, Nat.mod_pow_succ, hx, hy, Nat.pow_succ]
  have e : 10 ^ i * ((x + y + c) % 10) + 10 ^ i * 10 * ((x + y + c) / 10) = 10 ^ i * (x + y + c) := by
    rw [Nat.mul_assoc, ← Nat.mul_add]; congr 1; omega
  have e2 : 10 ^ i * (x + y + c) = 10 ^ i * x + 10 ^ i * y + 10 ^ i * c := by rw [Nat.mul_add, Nat.mul_add]
  omega
theorem times_step_math {na i x m p c r : Nat} (hx : na / 10 ^ i % 10 = x) (hp : x * m = p) (hv : r + 10 ^ i * c = na % 10 ^ i * m) :
    r + 10 ^ i * ((p + c) % 10) + 10 ^ (i + 1) * ((p + c) / 10) = na % 10 ^ (i + 1) * m := by
  rw [Nat.mod_pow_succ, hx, Nat.pow_succ, Nat.add_mul, ← hv, Nat.mul_assoc (10 ^ i) x m, hp]
  have e : 10 ^ i * ((p + c) % 10) + 10 ^ i * 10 * ((p + c) / 10) = 10 ^ i * (p + c) := by
    rw [Nat.mul_assoc, ← Nat.mul_add]; congr 1; omega
  have e2 : 10 ^ i * (p + c) = 10 ^ i * p + 10 ^ i * c := by rw [Nat.mul_add]
  omega
theorem end_step_math {i c r v : Nat} (hv : r + 10 ^ i * c = v) : r + 10 ^ i * (c % 10) + 10 ^ (i + 1) * (c / 10) = v := by
  rw [Nat.pow_succ, ← hv]
  have e : 10 ^ i * (c % 10) + 10 ^ i * 10 * (c / 10) = 10 ^ i * c := by
    rw [Nat.mul_assoc, ← Nat.mul_add]; congr 1; omega
  omega

/-! the sum -/
theorem add_go (a b : List UInt8) (la : a.length ≤ 100000000000) (lb : b.length ≤ 100000000000) (da : Dig a) (db : Dig b) (i : Nat) (back : List Int) (c x y : Nat) (hi : i ≤ 100000000000) (hl : back.length = i) (hc : c ≤ 1)
    (hx : nvl a / 10 ^ i % 10 = x) (hy : nvl b / 10 ^ i % 10 = y) (hx9 : x ≤ 9) (hy9 : y ≤ 9) (k : Nat) :
    num_Add.j1 (k + 1) (S a) (S b) back (c : Int) (i : Int) true = num_Add.l0 k (S a) (S b) (back ++ [((48 + (x + y + c) % 10 : Nat) : Int)]) (((x + y + c) / 10 : Nat) : Int) ((i + 1 : Nat) : Int) := by
  rw [num_Add.j1, _root_.if_pos rfl, at_ev a la da i (by omega), at_ev b lb db i (by omega), hx, hy]
  clear hx hy
  simp only [Option.bind_some]
  have hc1 : back.length < 140737488355328 := by omega
  have hw : wrap64 (wrap64 ((x : Int) + y) + c) = ((x + y + c : Nat) : Int) := by
    rw [w64 (x := (x : Int) + y) (by omega) (by omega), w64 (by omega) (by omega)]; omega
  have hq : wrap64 (Int.tdiv ((x + y + c : Nat) : Int) 10) = (((x + y + c) / 10 : Nat) : Int) := by
    rw [show Int.tdiv ((x + y + c : Nat) : Int) 10 = (((x + y + c) / 10 : Nat) : Int) from rfl, w64 (by omega) (by omega)]
  have hm : (48 + Int.tmod ((x + y + c : Nat) : Int) 10) % 256 = ((48 + (x + y + c) % 10 : Nat) : Int) := by
    rw [show Int.tmod ((x + y + c : Nat) : Int) 10 = (((x + y + c) % 10 : Nat) : Int) from rfl]; omega
  have hi1 : wrap64 ((i : Int) + 1) = ((i + 1 : Nat) : Int) := by rw [w64 (by omega) (by omega)]; rfl
  rw [_root_.if_pos hc1, hw, hq, hm, hi1]
theorem add_end (a b : List UInt8) (la : a.length ≤ 100000000000) (lb : b.length ≤ 100000000000) (i : Nat) (back : List Int) (hi : max a.length b.length ≤ i) (hl : back.length ≤ 1000000000000) (hD : DI back) (v : Nat) (hv : rvi back = v) :
    Ev (fun k => num_Add.l0 k (S a) (S b) back ((0 : Nat) : Int) (i : Int)) (S (mkl v)) := by
  refine Ev.step (f := fun k => num_Add.j1 k (S a) (S b) back ((0 : Nat) : Int) (i : Int) false) (fun k => ?_) ?_
  · rw [num_Add.l0, S_size, S_size, mx_len, _root_.if_neg (by omega)]; rfl
  · refine Ev.step (f := fun k => (num_text.f k back).bind fun t => some t) (fun k => ?_) ?_
    · rw [num_Add.j1, _root_.if_neg (by decide)]
    · have := text_ev back hl hD
      rw [hv] at this
      exact Ev.bind this (Ev.now _)
theorem add_loop (a b : List UInt8) (la : a.length ≤ 100000000000) (lb : b.length ≤ 100000000000) (da : Dig a) (db : Dig b) (d : Nat) : ∀ (i : Nat) (back : List Int) (c : Nat), i + d = max a.length b.length + 1 → DI back → back.length = i → c ≤ 1 → (d = 0 → c = 0) →
    rvi back + 10 ^ i * c = nvl a % 10 ^ i + nvl b % 10 ^ i → Ev (fun k => num_Add.l0 k (S a) (S b) back (c : Int) (i : Int)) (S (mkl (nvl a + nvl b))) := by
  induction d with
  | zero =>
    intro i back c hi hD hl hc h0 hv
    obtain rfl := h0 rfl
    rw [Dig.lt da i (by clear hv; omega), Dig.lt db i (by clear hv; omega), Nat.mul_zero, Nat.add_zero] at hv
    exact add_end a b la lb i back (by clear hv; omega) (by clear hv; omega) hD _ hv
  | succ d ih =>
    intro i back c hi hD hl hc h0 hv
    by_cases hgo : i < max a.length b.length ∨ 0 < c
    · obtain ⟨x, hx⟩ : ∃ x, nvl a / 10 ^ i % 10 = x := ⟨_, rfl⟩
      obtain ⟨y, hy⟩ : ∃ y, nvl b / 10 ^ i % 10 = y := ⟨_, rfl⟩
      have hx9 : x ≤ 9 := by clear hv hy; omega
      have hy9 : y ≤ 9 := by clear hv hx; omega
      have e3 := add_step_math hx hy hv
      refine Ev.step (f := fun k => num_Add.j1 k (S a) (S b) back (c : Int) (i : Int) true) (fun k => ?_) ?_
      · clear hv hx hy e3
        rw [num_Add.l0, S_size, S_size, mx_len]
        by_cases h1 : i < max a.length b.length
        · rw [_root_.if_pos (by omega)]
        · rw [_root_.if_neg (by omega), decide_eq_true (by omega : (c : Int) > 0)]
      · refine Ev.step (add_go a b la lb da db i back c x y (by clear hv hx hy e3; omega) hl hc hx hy hx9 hy9) ?_
        have hz : d = 0 → x = 0 ∧ y = 0 := by
          intro hd0
          exact ⟨by rw [← hx, digit_beyond da (by clear hv hx hy e3; omega)], by rw [← hy, digit_beyond db (by clear hv hx hy e3; omega)]⟩
        clear hv hx hy
        refine ih (i + 1) _ _ (by clear e3; omega) (hD.snoc (by clear e3; omega) (by clear e3; omega)) (by simp [hl]) (by clear e3; omega) (by clear e3; omega) ?_
        rw [rvi_snoc, hl, show ((48 + (x + y + c) % 10 : Nat) : Int) - 48 = (((x + y + c) % 10 : Nat) : Int) by clear e3; omega, Int.toNat_natCast]
        exact e3
    · obtain rfl : c = 0 := by clear hv; omega
      rw [Dig.lt da i (by clear hv; omega), Dig.lt db i (by clear hv; omega), Nat.mul_zero, Nat.add_zero] at hv
      exact add_end a b la lb i back (by clear hv; omega) (by clear hv; omega) hD _ hv
theorem Add_ev (a b : List UInt8) (ha : Sm a) (hb : Sm b) (da : Dig a) (db : Dig b) : Ev (fun k => num_Add.f k (S a) (S b)) (S (mkl (nvl a + nvl b))) := by
  unfold num_Add.f
  refine Ev.bind (all_ev a b ha hb) ?_
  rw [decide_eq_true (⟨da, db⟩ : Dig a ∧ Dig b)]
  refine Ev.if_pos rfl ?_
  exact add_loop a b ha hb da db (max a.length b.length + 1) 0 [] 0 (by omega) DI.nil rfl (by omega) (by intro h; rfl) (by simp [rvi, Nat.mod_one])
theorem Add_not (a b : List UInt8) (ha : Sm a) (hb : Sm b) (h : ¬ (Dig a ∧ Dig b)) : Ev (fun k => num_Add.f k (S a) (S b)) (S []) := by
  unfold num_Add.f
  refine Ev.bind (all_ev a b ha hb) ?_
  rw [decide_eq_false h]
  exact Ev.if_neg (by decide) (Ev.now _)

end Go.Proofs.YtefacokhmmpiaaaDoor.P
