import Derived.Test.YtefacokhmmpiaaaDoorS6
import Derived.Test.YtefacokhmmpiaaaDoorPx3
namespace Go.Proofs.YtefacokhmmpiaaaDoor.P
open Go.RowKit Go.Proofs.YtefacokhmmpiaaaDoorW.PrintWords Go.Proofs.YtefacokhmmpiaaaDoorW.PrintLast Go.Proofs.YtefacokhmmpiaaaDoorW.PrintMore Go.Proofs.YtefacokhmmpiaaaDoor.FM
set_option linter.unusedVariables false
set_option linter.unusedSimpArgs false

theorem ints_loop (n : Nat) (hn : n ≤ 9223372036854775807) (a : List UInt8) (la : a.length ≤ 60) (da : Dig a) (d : Nat) : ∀ i : Nat, i + d = (mkl n).length → (mkl n).length ≤ 30 →
    ∀ (kv : Int) (ok : Bool), (ok = true ∧ kv = (nvl a : Int) ∧ nvl a < 10 ^ 18 ∨ ok = false ∧ kv = 0 ∧ 10 ^ 18 ≤ nvl a) →
    Ev (fun k => florinlaw01_NumInts.l0 k (n : Int) (S a) kv ok (S (mkl n)) (nvl ((mkl n).take i) : Int) (i : Int)) true := by
  induction d with
  | zero =>
    intro i hi h30 kv ok hk
    refine Ev.step (fun k => (by rw [florinlaw01_NumInts.l0, S_size, _root_.if_neg (by omega)])) ?_
    have hfull : nvl ((mkl n).take i) = n := by rw [List.take_of_length_le (by omega), nvl_mkl]
    rw [hfull]
    refine Ev.bind (Bare_ev a (by omega) da) ?_
    rw [S_size]
    have hb := Bare_ev (mkl n) (by omega) (dig_mkl n)
    rw [nvl_mkl] at hb
    rcases hk with ⟨rfl, rfl, h18⟩ | ⟨rfl, rfl, h18⟩
    · have h1 : (mkl (nvl a)).length ≤ 18 := mkl_length_le.2 h18
      rw [decide_eq_true (by omega : ((mkl (nvl a)).length : Int) ≤ 18)]
      refine Ev.if_pos rfl (Ev.if_pos rfl (Ev.bind (Of_ev (nvl a) (Nat.le_trans (Nat.le_of_lt h18) (by decide))) (Ev.if_pos rfl (Ev.if_pos rfl (Ev.bind hb ?_)))))
      exact Ev.yes (by simp)
    · have h1 : ¬ (mkl (nvl a)).length ≤ 18 := by rw [mkl_length_le]; exact Nat.not_lt.2 h18
      rw [decide_eq_false (by omega : ¬ ((mkl (nvl a)).length : Int) ≤ 18)]
      refine Ev.if_pos rfl (Ev.if_neg (by decide) (Ev.if_pos rfl (Ev.if_pos rfl (Ev.bind hb ?_))))
      exact Ev.yes (by simp)
  | succ d ih =>
    intro i hi h30 kv ok hk
    have hlt : i < (mkl n).length := by omega
    have hle := nvl_take_le (mkl n) (i + 1)
    rw [nvl_mkl, List.take_succ_eq_append_getElem hlt, nvl_snoc] at hle
    have hc := dig_mkl n (mkl n)[i] (List.getElem_mem hlt)
    have hbt : bt (S (mkl n)) (i : Int) = ((mkl n)[i].toNat : Int) := by
      rw [bt_S, Int.toNat_natCast, List.getD_eq_getElem?_getD, List.getElem?_eq_getElem hlt]; rfl
    refine Ev.step (f := fun k => florinlaw01_NumInts.l0 k (n : Int) (S a) kv ok (S (mkl n)) (nvl ((mkl n).take (i + 1)) : Int) ((i + 1 : Nat) : Int)) (fun k => ?_) (ih (i + 1) (by omega) h30 kv ok hk)
    have e : wrap64 (wrap64 (10 * (nvl ((mkl n).take i) : Int)) + (((mkl n)[i].toNat : Int) - 48) % 256) = (nvl ((mkl n).take (i + 1)) : Int) := by
      rw [List.take_succ_eq_append_getElem hlt, nvl_snoc, w64 (x := 10 * _) (by omega) (by omega), w64 (by omega) (by omega)]; omega
    rw [florinlaw01_NumInts.l0, S_size, _root_.if_pos (by omega), _root_.if_pos (by omega), hbt, e, inc64 (by omega)]
theorem pureNumInts : florinlaw01_NumInts.Pure := by
  intro l0 a1 h1 h2 hw _
  refine Ev.rounds ?_
  unfold florinlaw01_NumInts.f
  refine Ev.bind head01 (Ev.if_pos rfl ?_)
  by_cases hl : (l0.length : Int) > 60
  · exact Ev.if_pos hl (Ev.now _)
  refine Ev.if_neg hl (Ev.bind (Digits_ev l0 (by omega) hw) ?_)
  have da := digs_dig l0
  have la' : (digs l0).length ≤ 60 := by rw [digs_length]; omega
  obtain ⟨a, ha⟩ : ∃ a, digs l0 = a := ⟨_, rfl⟩
  rw [ha] at da la' ⊢
  have la : Sm a := sm_le la' (by omega)
  obtain ⟨n, hn, hn2⟩ := low64 63 (by decide) a1 9223372036854775807 (by decide)
  rw [hn]
  have hn3 : n ≤ 9223372036854775807 := Nat.le_of_lt_succ hn2
  have h30 : (mkl n).length ≤ 30 := mkl_length_le.2 (Nat.lt_of_le_of_lt hn3 (by decide))
  have go := ints_loop n hn3 a la' da (mkl n).length 0 (by omega) h30
  rw [List.take_zero] at go
  rcases Nat.lt_or_ge (nvl a) (10 ^ 18) with h18 | h18
  · refine Ev.bind (Int_ev a la da h18) (Ev.bind (Of_ev n hn3) ?_)
    exact go _ _ (.inl ⟨rfl, rfl, h18⟩)
  · refine Ev.bind (Int_long a la da h18) (Ev.bind (Of_ev n hn3) ?_)
    exact go _ _ (.inr ⟨rfl, rfl, h18⟩)
end Go.Proofs.YtefacokhmmpiaaaDoor.P
