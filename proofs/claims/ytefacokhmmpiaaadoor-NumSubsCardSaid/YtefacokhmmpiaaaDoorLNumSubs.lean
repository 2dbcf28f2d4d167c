import Derived.Test.YtefacokhmmpiaaaDoorS6
import Derived.Test.YtefacokhmmpiaaaDoorPx6
namespace Go.Proofs.YtefacokhmmpiaaaDoor.P
open Go.RowKit Go.Proofs.YtefacokhmmpiaaaDoorW.PrintWords Go.Proofs.YtefacokhmmpiaaaDoorW.PrintLast Go.Proofs.YtefacokhmmpiaaaDoorW.PrintMore Go.Proofs.YtefacokhmmpiaaaDoor.FM
set_option linter.unusedVariables false
set_option linter.unusedSimpArgs false

theorem subs_end (a b : List UInt8) (la' : a.length ≤ 200) (lb' : b.length ≤ 200) (da : Dig a) (db : Dig b) (s t : ByteArray) (ok so : Bool) (c : Int) (hc : c = cmpN (nvl a) (nvl b))
    (h1 : nvl b ≤ nvl a ∧ s = S (mkl (nvl a - nvl b)) ∧ ok = true ∨ nvl a < nvl b ∧ s = S [] ∧ ok = false)
    (h2 : nvl a ≤ nvl b ∧ t = S (mkl (nvl b - nvl a)) ∧ so = true ∨ nvl b < nvl a ∧ t = S [] ∧ so = false) :
    Ev (fun k => florinlaw01_NumSubs.j1 k (S a) (S b) s ok t so c false) true := by
  have la : Sm a := sm_le la' (by omega)
  have lb : Sm b := sm_le lb' (by omega)
  have ha := Bare_ev a (by omega) da
  have hb := Bare_ev b (by omega) db
  have hA : nvl a < 10 ^ 200 := Nat.lt_of_lt_of_le (nvl_lt da) (Nat.pow_le_pow_right (by omega) la')
  have hB : nvl b < 10 ^ 200 := Nat.lt_of_lt_of_le (nvl_lt db) (Nat.pow_le_pow_right (by omega) lb')
  have eqs : ((c == 0) == ((S (mkl (nvl a))).toList == (S (mkl (nvl b))).toList)) = true := by
    rw [hc, S_toList, S_toList]
    by_cases e : nvl a = nvl b
    · rw [e]; simp [cmpN]
    · have e1 : ¬ cmpN (nvl a) (nvl b) = 0 := fun h => e (cmpN_zero.1 h)
      have e2 : ¬ mkl (nvl a) = mkl (nvl b) := fun h => e (mkl_inj.1 h)
      rw [beq_eq_false_iff_ne.2 e1, beq_eq_false_iff_ne.2 e2]; rfl
  have sumA : nvl b ≤ nvl a → Ev (fun k => num_Add.f k (S (mkl (nvl a - nvl b))) (S b)) (S (mkl (nvl a))) := by
    intro h
    have e := Add_ev (mkl (nvl a - nvl b)) b (mkl_len_of (Nat.lt_of_le_of_lt (Nat.sub_le _ _) hA) (by omega)) lb (dig_mkl _) db
    rw [nvl_mkl, Nat.sub_add_cancel h] at e
    exact e
  have sumB : nvl a ≤ nvl b → Ev (fun k => num_Add.f k (S (mkl (nvl b - nvl a))) (S a)) (S (mkl (nvl b))) := by
    intro h
    have e := Add_ev (mkl (nvl b - nvl a)) a (mkl_len_of (Nat.lt_of_le_of_lt (Nat.sub_le _ _) hB) (by omega)) la (dig_mkl _) da
    rw [nvl_mkl, Nat.sub_add_cancel h] at e
    exact e
  refine Ev.step (fun k => (by rw [florinlaw01_NumSubs.j1, _root_.if_neg (by decide)])) ?_
  rcases h1 with ⟨h, rfl, rfl⟩ | ⟨h, rfl, rfl⟩
  · refine Ev.if_pos rfl (Ev.bind (sumA h) (Ev.bind ha (Ev.if_pos rfl ?_)))
    rcases h2 with ⟨h', rfl, rfl⟩ | ⟨h', rfl, rfl⟩
    · exact Ev.if_pos rfl (Ev.bind (sumB h') (Ev.bind hb (Ev.if_pos rfl (Ev.yes eqs))))
    · exact Ev.if_neg (by decide) (Ev.if_pos (by rw [S_toList]) (Ev.bind hb (Ev.yes eqs)))
  · refine Ev.if_neg (by decide) (Ev.if_pos (by rw [S_toList]) ?_)
    rcases h2 with ⟨h', rfl, rfl⟩ | ⟨h', rfl, rfl⟩
    · exact Ev.if_pos rfl (Ev.bind (sumB h') (Ev.bind hb (Ev.if_pos rfl (Ev.bind ha (Ev.yes eqs)))))
    · omega
theorem pureNumSubs : florinlaw01_NumSubs.Pure := by
  intro l0 l1 h1 h2 hw h3 h4 hw1
  refine Ev.rounds ?_
  unfold florinlaw01_NumSubs.f
  refine Ev.bind head01 (Ev.if_pos rfl ?_)
  have fin : Ev (fun k => florinlaw01_NumSubs.j0 k l0 l1 true) true := by
    refine Ev.step (f := fun k => some true) (fun k => ?_) (Ev.now _)
    rw [florinlaw01_NumSubs.j0, _root_.if_pos rfl]
  by_cases hl : (l0.length : Int) > 200
  · exact Ev.if_pos hl fin
  refine Ev.if_neg hl ?_
  by_cases hl1 : (l1.length : Int) > 200
  · rw [decide_eq_true hl1]; exact fin
  rw [decide_eq_false hl1]
  refine Ev.step (fun k => (by rw [florinlaw01_NumSubs.j0, _root_.if_neg (by decide)])) ?_
  refine Ev.bind (Digits_ev l0 (by omega) hw) (Ev.bind (Digits_ev l1 (by omega) hw1) ?_)
  have da := digs_dig l0
  have la' : (digs l0).length ≤ 200 := by rw [digs_length]; omega
  have db := digs_dig l1
  have lb' : (digs l1).length ≤ 200 := by rw [digs_length]; omega
  obtain ⟨a, ha⟩ : ∃ a, digs l0 = a := ⟨_, rfl⟩
  obtain ⟨b, hb⟩ : ∃ b, digs l1 = b := ⟨_, rfl⟩
  rw [ha] at da la' ⊢
  rw [hb] at db lb' ⊢
  have la : Sm a := sm_le la' (by omega)
  have lb : Sm b := sm_le lb' (by omega)
  have hneg : cmpN (nvl a) (nvl b) = wrap64 (-cmpN (nvl b) (nvl a)) := by
    have h5 := cmpN_range (nvl b) (nvl a)
    rw [w64 (by omega) (by omega)]; exact cmpN_swap _ _
  have key : ∀ (s t : ByteArray) (ok so : Bool), (nvl b ≤ nvl a ∧ s = S (mkl (nvl a - nvl b)) ∧ ok = true ∨ nvl a < nvl b ∧ s = S [] ∧ ok = false) → (nvl a ≤ nvl b ∧ t = S (mkl (nvl b - nvl a)) ∧ so = true ∨ nvl b < nvl a ∧ t = S [] ∧ so = false) →
      Ev (fun k => (num_Cmp.f k (S a) (S b)).bind fun t224 => (num_Cmp.f k (S b) (S a)).bind fun t225 => if t224 = wrap64 (-t225) then (if (ok != decide (t224 ≥ 0)) = true then florinlaw01_NumSubs.j1 k (S a) (S b) s ok t so t224 true else florinlaw01_NumSubs.j1 k (S a) (S b) s ok t so t224 (so != decide (t224 ≤ 0))) else florinlaw01_NumSubs.j1 k (S a) (S b) s ok t so t224 true) true := by
    intro s t ok so hs ht
    refine Ev.bind (Cmp_ev a b la lb da db) (Ev.bind (Cmp_ev b a lb la db da) (Ev.if_pos hneg ?_))
    have e1 : (ok != decide (cmpN (nvl a) (nvl b) ≥ 0)) = false := by
      rcases hs with ⟨h, _, rfl⟩ | ⟨h, _, rfl⟩
      · rw [decide_eq_true (by have := cmpN_neg (a := nvl a) (b := nvl b); omega : cmpN (nvl a) (nvl b) ≥ 0)]; rfl
      · rw [decide_eq_false (by have := cmpN_neg (a := nvl a) (b := nvl b); omega : ¬ cmpN (nvl a) (nvl b) ≥ 0)]; rfl
    have e2 : (so != decide (cmpN (nvl a) (nvl b) ≤ 0)) = false := by
      have h6 := cmpN_swap (nvl a) (nvl b)
      rcases ht with ⟨h, _, rfl⟩ | ⟨h, _, rfl⟩
      · rw [decide_eq_true (by have := cmpN_neg (a := nvl b) (b := nvl a); omega : cmpN (nvl a) (nvl b) ≤ 0)]; rfl
      · rw [decide_eq_false (by have := cmpN_neg (a := nvl b) (b := nvl a); omega : ¬ cmpN (nvl a) (nvl b) ≤ 0)]; rfl
    refine Ev.if_neg (by rw [e1]; decide) ?_
    rw [e2]
    exact subs_end a b la' lb' da db s t ok so _ rfl hs ht
  rcases Nat.lt_trichotomy (nvl a) (nvl b) with h | h | h
  · exact Ev.bind (Sub_less a b la lb da db h) (Ev.bind (Sub_ev b a lb la db da (by omega)) (key _ _ _ _ (.inr ⟨h, rfl, rfl⟩) (.inl ⟨by omega, rfl, rfl⟩)))
  · exact Ev.bind (Sub_ev a b la lb da db (by omega)) (Ev.bind (Sub_ev b a lb la db da (by omega)) (key _ _ _ _ (.inl ⟨by omega, rfl, rfl⟩) (.inl ⟨by omega, rfl, rfl⟩)))
  · exact Ev.bind (Sub_ev a b la lb da db (by omega)) (Ev.bind (Sub_less b a lb la db da h) (key _ _ _ _ (.inl ⟨by omega, rfl, rfl⟩) (.inr ⟨h, rfl, rfl⟩)))
end Go.Proofs.YtefacokhmmpiaaaDoor.P
