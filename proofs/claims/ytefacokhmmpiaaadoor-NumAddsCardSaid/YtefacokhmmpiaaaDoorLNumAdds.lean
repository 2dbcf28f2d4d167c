import Derived.Test.YtefacokhmmpiaaaDoorS6
import Derived.Test.YtefacokhmmpiaaaDoorPx4
import Derived.Test.YtefacokhmmpiaaaDoorPx5
namespace Go.Proofs.YtefacokhmmpiaaaDoor.P
open Go.RowKit Go.Proofs.YtefacokhmmpiaaaDoorW.PrintWords Go.Proofs.YtefacokhmmpiaaaDoorW.PrintLast Go.Proofs.YtefacokhmmpiaaaDoorW.PrintMore Go.Proofs.YtefacokhmmpiaaaDoor.FM
set_option linter.unusedVariables false
set_option linter.unusedSimpArgs false

theorem column_ev (l : List UInt8) (hl : Sm l) (hd : Dig l) (i : Nat) (hi : i ≤ 1000000000001) : florinlaw01_column.f (S l) (i : Int) = some ((nvl l / 10 ^ i % 10 : Nat) : Int) := by
  unfold florinlaw01_column.f
  rw [S_size]
  by_cases h : l.length ≤ i
  · rw [_root_.if_pos (by omega), digit_beyond hd h]; rfl
  · have hw2 : wrap64 (wrap64 ((l.length : Int) - 1) - i) = ((l.length - 1 - i : Nat) : Int) := by
      unfold Sm at hl
      rw [w64 (x := (l.length : Int) - 1) (by omega) (by omega), w64 (by omega) (by omega)]; omega
    rw [_root_.if_neg (by omega), hw2, _root_.if_pos (by omega), _root_.if_pos (by omega), bt_S, Int.toNat_natCast]
    have h1 := get_digit hd (show i < l.length by omega)
    have h2 := hd (l.getD (l.length - 1 - i) 0) (by
      rw [List.getD_eq_getElem?_getD, List.getElem?_eq_getElem (show l.length - 1 - i < l.length by omega)]
      exact List.getElem_mem _)
    rw [← h1]
    clear h1
    congr 1
    rw [w64 (x := ((l.getD (l.length - 1 - i) 0).toNat : Int)) (by omega) (by omega), w64 (by omega) (by omega)]
    omega
theorem sum64 {x y c : Nat} (hx : x ≤ 9) (hy : y ≤ 9) (hc : c ≤ 1) : wrap64 (wrap64 ((x : Int) + (y : Int)) + (c : Int)) = ((x + y + c : Nat) : Int) := by
  rw [w64 (x := (x : Int) + _) (by omega) (by omega), w64 (by omega) (by omega)]; omega
theorem carry1 {x y c : Nat} (hx : x ≤ 9) (hy : y ≤ 9) (hc : c ≤ 1) : (x + y + c) / 10 ≤ 1 := by omega
theorem adds_math {A B T c : Nat} (h : T = A + B + c) : T % 10 = (A % 10 + B % 10 + c) % 10 ∧ T / 10 = A / 10 + B / 10 + (A % 10 + B % 10 + c) / 10 := by
  have e : T = 10 * (A / 10 + B / 10) + (A % 10 + B % 10 + c) := by
    have h1 := Nat.div_add_mod A 10
    have h2 := Nat.div_add_mod B 10
    rw [h, Nat.mul_add]
    omega
  rw [e, Nat.mul_add_mod, Nat.mul_add_div (by omega)]
  exact ⟨rfl, rfl⟩
theorem adds_loop (a b : List UInt8) (la : Sm a) (lb : Sm b) (da : Dig a) (db : Dig b) (hs : nvl a + nvl b < 10 ^ 202) (d : Nat) : ∀ (i c : Nat), i + d = 202 → c ≤ 1 → (nvl a + nvl b) / 10 ^ i = nvl a / 10 ^ i + nvl b / 10 ^ i + c →
    Ev (fun k => florinlaw01_NumAdds.l0 k (S a) (S b) (S (mkl (nvl a + nvl b))) (c : Int) (i : Int)) true := by
  induction d with
  | zero =>
    intro i c hi hc hv
    clear hv
    refine Ev.step (fun k => (by rw [florinlaw01_NumAdds.l0, _root_.if_neg (by omega)])) ?_
    have bs := mkl_len_of hs (by omega)
    have e := Sub_ev (mkl (nvl a + nvl b)) b bs lb (dig_mkl _) db (by rw [nvl_mkl]; omega)
    rw [nvl_mkl, Nat.add_sub_cancel] at e
    refine Ev.bind e (Ev.if_pos ?_ (Ev.if_pos rfl (Ev.bind (Bare_ev a (by rw [Sm] at la; omega) da) (Ev.yes (by simp)))))
    have := mkl_length_le.2 hs
    rw [S_size]; omega
  | succ d ih =>
    intro i c hi hc hv
    have bs := mkl_len_of hs (by omega)
    obtain ⟨A, hA⟩ : ∃ A, nvl a / 10 ^ i = A := ⟨_, rfl⟩
    obtain ⟨B, hB⟩ : ∃ B, nvl b / 10 ^ i = B := ⟨_, rfl⟩
    obtain ⟨T, hT⟩ : ∃ T, (nvl a + nvl b) / 10 ^ i = T := ⟨_, rfl⟩
    have hv' := hv
    rw [hA, hB, hT] at hv'
    have hm := adds_math hv'
    have hnext : (nvl a + nvl b) / 10 ^ (i + 1) = nvl a / 10 ^ (i + 1) + nvl b / 10 ^ (i + 1) + (A % 10 + B % 10 + c) / 10 := by
      rw [Nat.pow_succ, ← Nat.div_div_eq_div_mul, ← Nat.div_div_eq_div_mul, ← Nat.div_div_eq_div_mul, hA, hB, hT]
      exact hm.2
    refine Ev.step (f := fun k => florinlaw01_NumAdds.l0 k (S a) (S b) (S (mkl (nvl a + nvl b))) (((A % 10 + B % 10 + c) / 10 : Nat) : Int) ((i + 1 : Nat) : Int)) (fun k => ?_) ?_
    · rw [florinlaw01_NumAdds.l0, _root_.if_pos (by clear hv hv' hA hB hT hnext hm; omega), column_ev a la da i (by clear hv hv' hA hB hT hnext hm; omega), column_ev b lb db i (by clear hv hv' hA hB hT hnext hm; omega), column_ev _ bs (dig_mkl _) i (by clear hv hv' hA hB hT hnext hm; omega), nvl_mkl, hA, hB, hT]
      rw [Option.bind_some, Option.bind_some, Option.bind_some]
      have hc1 := carry1 (x := A % 10) (y := B % 10) (c := c) (by clear hv hv' hA hB hT hnext hm; omega) (by clear hv hv' hA hB hT hnext hm; omega) hc
      have ew := sum64 (x := A % 10) (y := B % 10) (c := c) (by clear hv hv' hA hB hT hnext hm; omega) (by clear hv hv' hA hB hT hnext hm; omega) hc
      rw [ew, m10, d10, hm.1, _root_.if_pos rfl, inc64 (by clear ew hv hv' hA hB hT hnext hm; omega), nat64 (Nat.le_trans hc1 (by decide))]
    · exact ih (i + 1) _ (by clear hv hv' hA hB hT hnext hm; omega) (carry1 (by clear hv hv' hA hB hT hnext hm; omega) (by clear hv hv' hA hB hT hnext hm; omega) hc) hnext
theorem pureNumAdds : florinlaw01_NumAdds.Pure := by
  intro l0 l1 h1 h2 hw h3 h4 hw1
  refine Ev.rounds ?_
  unfold florinlaw01_NumAdds.f
  refine Ev.bind head01 (Ev.if_pos rfl ?_)
  have fin : Ev (fun k => florinlaw01_NumAdds.j0 k l0 l1 true) true := by
    refine Ev.step (f := fun k => some true) (fun k => ?_) (Ev.now _)
    rw [florinlaw01_NumAdds.j0, _root_.if_pos rfl]
  by_cases hl : (l0.length : Int) > 200
  · exact Ev.if_pos hl fin
  refine Ev.if_neg hl ?_
  by_cases hl1 : (l1.length : Int) > 200
  · rw [decide_eq_true hl1]; exact fin
  rw [decide_eq_false hl1]
  refine Ev.step (fun k => (by rw [florinlaw01_NumAdds.j0, _root_.if_neg (by decide)])) ?_
  refine Ev.bind (Digits_ev l0 (by omega) hw) (Ev.bind (Digits_ev l1 (by omega) hw1) ?_)
  have da := digs_dig l0
  have la' : (digs l0).length ≤ 200 := by rw [digs_length]; omega
  have db := digs_dig l1
  have lb' : (digs l1).length ≤ 200 := by rw [digs_length]; omega
  obtain ⟨a, ha⟩ : ∃ a, digs l0 = a := ⟨_, rfl⟩
  obtain ⟨b, hb⟩ : ∃ b, digs l1 = b := ⟨_, rfl⟩
  rw [ha] at da la' ⊢
  rw [hb] at db lb' ⊢
  have la : Sm a := sm_le la' (by omega)
  have lb : Sm b := sm_le lb' (by omega)
  have hA : nvl a < 10 ^ 200 := Nat.lt_of_lt_of_le (nvl_lt da) (Nat.pow_le_pow_right (by omega) la')
  have hB : nvl b < 10 ^ 200 := Nat.lt_of_lt_of_le (nvl_lt db) (Nat.pow_le_pow_right (by omega) lb')
  have hs : nvl a + nvl b < 10 ^ 202 := by
    have e : 10 ^ 202 = 10 ^ 200 * 100 := by rw [show 202 = 200 + 2 from rfl, Nat.pow_add]
    rw [e]; omega
  have bs := mkl_len_of hs (by omega)
  refine Ev.bind (Add_ev a b la lb da db) (Ev.bind (Bare_ev _ (by rw [Sm] at bs; omega) (dig_mkl _)) (Ev.if_pos (by rw [nvl_mkl]) ?_))
  refine Ev.bind (Add_ev b a lb la db da) (Ev.if_pos (by rw [Nat.add_comm]) ?_)
  refine Ev.bind (Is_ev _ (by rw [Sm] at bs; omega)) ?_
  rw [decide_eq_true (dig_mkl _)]
  refine Ev.step (f := fun k => florinlaw01_NumAdds.l0 k (S a) (S b) (S (mkl (nvl a + nvl b))) 0 0) (fun k => ?_) ?_
  · rw [florinlaw01_NumAdds.j1, _root_.if_neg (by decide)]
  · exact adds_loop a b la lb da db hs 202 0 0 (by omega) (by omega) (by simp)
end Go.Proofs.YtefacokhmmpiaaaDoor.P
