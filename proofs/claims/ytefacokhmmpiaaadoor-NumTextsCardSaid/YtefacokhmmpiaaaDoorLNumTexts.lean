import Derived.Test.YtefacokhmmpiaaaDoorS6
import Derived.Test.YtefacokhmmpiaaaDoorPx7
namespace Go.Proofs.YtefacokhmmpiaaaDoor.P
open Go.RowKit Go.Proofs.YtefacokhmmpiaaaDoorW.PrintWords Go.Proofs.YtefacokhmmpiaaaDoorW.PrintLast Go.Proofs.YtefacokhmmpiaaaDoorW.PrintMore Go.Proofs.YtefacokhmmpiaaaDoor.FM
set_option linter.unusedVariables false
set_option linter.unusedSimpArgs false

theorem texts_loop (l : List UInt8) (hl : l.length ≤ 100) (m : Int) (d : Nat) (E : Ev (fun k => florinlaw01_NumTexts.l0 k (S l) m (decide (Dig l)) (l.length : Int)) true) : ∀ i : Nat, i + d = l.length →
    Ev (fun k => florinlaw01_NumTexts.l0 k (S l) m (decide (Dig (l.take i))) (i : Int)) true := by
  induction d with
  | zero =>
    intro i hi
    obtain rfl : i = l.length := by omega
    rw [List.take_length]
    exact E
  | succ d ih =>
    intro i hi
    have hlt : i < l.length := by omega
    have hbt : bt (S l) (i : Int) = (l[i].toNat : Int) := by
      rw [bt_S, Int.toNat_natCast, List.getD_eq_getElem?_getD, List.getElem?_eq_getElem hlt]; rfl
    have hst : decide (Dig (l.take (i + 1))) = (decide (Dig (l.take i)) && (decide (48 ≤ l[i].toNat) && decide (l[i].toNat ≤ 57))) := by
      rw [List.take_succ_eq_append_getElem hlt, Bool.eq_iff_iff]
      simp only [Bool.and_eq_true, decide_eq_true_eq, dig_append, dig_cons]
      exact ⟨fun h => ⟨h.1, h.2.1⟩, fun h => ⟨h.1, h.2, Dig.nil⟩⟩
    refine Ev.step (f := fun k => florinlaw01_NumTexts.l0 k (S l) m (decide (Dig (l.take (i + 1)))) ((i + 1 : Nat) : Int)) (fun k => ?_) (ih (i + 1) (by omega))
    rw [florinlaw01_NumTexts.l0, S_size, _root_.if_pos (by omega), hbt, hst, inc64 (by omega)]
    by_cases hd : Dig (l.take i)
    · rw [decide_eq_true hd, _root_.if_pos rfl, _root_.if_pos (by omega)]
      by_cases h48 : 48 ≤ l[i].toNat
      · rw [_root_.if_pos (by omega), decide_eq_true h48]
        congr 1
        rw [Bool.true_and, Bool.true_and]
        exact decide_eq_decide.2 (by omega)
      · rw [_root_.if_neg (by omega), decide_eq_false h48]; rfl
    · rw [decide_eq_false hd, _root_.if_neg (by decide)]; rfl
theorem pureNumTexts : florinlaw01_NumTexts.Pure := by
  intro a0 m hs hm
  refine Ev.rounds ?_
  rw [S_of a0]
  obtain ⟨l, hl⟩ : ∃ l, a0.data.toList = l := ⟨_, rfl⟩
  rw [hl]
  clear hl hs
  unfold florinlaw01_NumTexts.f
  refine Ev.bind head01 (Ev.if_pos rfl ?_)
  by_cases hlen : ((S l).size : Int) > 100
  · exact Ev.if_pos hlen (Ev.now _)
  refine Ev.if_neg hlen ?_
  rw [S_size] at hlen
  have hl : l.length ≤ 100 := by omega
  clear hlen
  have go := texts_loop l hl m l.length ?_ 0 (by omega)
  · rw [List.take_zero, decide_eq_true Dig.nil] at go
    exact go
  have la : Sm l := sm_le hl (by omega)
  refine Ev.step (fun k => (by rw [florinlaw01_NumTexts.l0, S_size, _root_.if_neg (by omega)])) ?_
  refine Ev.bind (Is_ev l (by omega)) (Ev.if_neg (by simp) ?_)
  by_cases hd : Dig l
  · rw [decide_eq_true hd]
    refine Ev.if_pos rfl (Ev.bind (Trim_dig l (by omega) hd) (Ev.bind (Bare_ev l (by omega) hd) (Ev.if_pos rfl (Ev.if_pos (by omega) ?_))))
    rw [show (⟨#[48]⟩ : ByteArray) ++ S l = S ([48] ++ l) from S_append [48] l]
    have d0 : Dig ([48] ++ l) := Dig.append (by decide) hd
    refine Ev.bind (Cmp_ev l ([48] ++ l) la (sm_le (n := 101) (by simp; omega) (by omega)) hd d0) (Ev.if_pos ?_ ?_)
    · rw [nvl_append]; simp [cmpN, nvl]
    · refine Ev.bind (Cmp_ev l [] la (by decide) hd Dig.nil) (Ev.yes ?_)
      rw [S_size, nvl_nil]
      rcases Nat.eq_zero_or_pos (nvl l) with h | h
      · rw [h]; simp [cmpN, mn]
      · have h1 : 0 < (mkl (nvl l)).length := by
          rcases Nat.eq_zero_or_pos (mkl (nvl l)).length with h2 | h2
          · rw [List.length_eq_zero_iff, mkl_eq_nil] at h2; omega
          · exact h2
        have h2 : mn ((mkl (nvl l)).length : Int) 1 = 1 := by unfold mn; split <;> omega
        have h3 : cmpN (nvl l) 0 = 1 := by unfold cmpN; rw [_root_.if_neg (by omega), _root_.if_pos (by omega)]
        rw [h2, h3]; rfl
  · rw [decide_eq_false hd]
    have n1 : ¬ (Dig l ∧ Dig []) := fun h => hd h.1
    have n2 : ¬ (Dig [49] ∧ Dig l) := fun h => hd h.2
    have n3 : ¬ (Dig l ∧ Dig [49]) := fun h => hd h.1
    have e1 := Sub_not l [] la (by decide) n1
    have e2 := Sub_not [49] l (by decide) la n2
    have e3 := Div_not l la 3 (fun h => hd h.1)
    have e4 := Int_not l la hd
    have e5 := Trim_not l (by omega) hd
    have e6 := Cmp_not l [49] la (by decide) n3
    have e7 := Cmp_not [49] l (by decide) la n2
    have e8 := Add_not l [49] la (by decide) n3
    have e9 := Add_not [49] l (by decide) la n2
    have e10 := Times_not l la m (fun h => hd h.1)
    refine Ev.if_neg (by decide) (Ev.bind e1 (Ev.bind e2 (Ev.bind e3 (Ev.bind e4 (Ev.bind e5 (Ev.if_pos (by rw [S_toList]) (Ev.bind e6 (Ev.if_pos rfl (Ev.bind e7 (Ev.if_pos rfl ?_))))))))))
    refine Ev.bind e8 (Ev.if_pos (by rw [S_toList]) (Ev.bind e9 (Ev.if_pos (by rw [S_toList]) (Ev.if_pos (by rw [S_toList]) (Ev.if_neg (by decide) (Ev.if_pos (by rw [S_toList]) (Ev.if_neg (by decide) ?_)))))))
    exact Ev.bind e10 (Ev.if_pos (by rw [S_toList]) (Ev.if_pos (by rw [S_toList]) (Ev.if_pos rfl (Ev.if_pos rfl (Ev.now _)))))
end Go.Proofs.YtefacokhmmpiaaaDoor.P
