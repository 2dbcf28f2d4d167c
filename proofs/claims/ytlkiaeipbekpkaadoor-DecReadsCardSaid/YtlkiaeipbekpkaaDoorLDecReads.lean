import Derived.Test.YtlkiaeipbekpkaaDoorD5
import Derived.Test.YtlkiaeipbekpkaaDoorPx3
import Derived.Test.YtlkiaeipbekpkaaDoorPx5
import Derived.Test.YtlkiaeipbekpkaaDoorPx6
import Derived.Test.YtlkiaeipbekpkaaDoorPx8
namespace Go.Proofs.YtlkiaeipbekpkaaDoor.P
open Go.RowKit Go.Proofs.YtlkiaeipbekpkaaDoorW.PrintWords Go.Proofs.YtlkiaeipbekpkaaDoorW.PrintLast Go.Proofs.YtlkiaeipbekpkaaDoorW.PrintMore Go.Proofs.YtlkiaeipbekpkaaDoor.FM
set_option linter.unusedVariables false
set_option linter.unusedSimpArgs false

theorem rne3 (a b : D) : (!((tri a).1 == (tri b).1) || (!((tri a).2.1.toList == (tri b).2.1.toList) || (!((tri a).2.2 == (tri b).2.2)))) = decide (a ≠ b) := by
  rw [tri1, tri1, tri2, tri2, tri3, tri3, S_toList, S_toList]
  by_cases h : a = b
  · subst h; simp
  · rw [decide_eq_true h]
    by_cases h1 : a.neg = b.neg
    · by_cases h2 : a.m = b.m
      · have h3 : a.e ≠ b.e := fun h3 => h (by obtain ⟨_, _, _⟩ := a; obtain ⟨_, _, _⟩ := b; simp_all)
        simp [h3]
      · have h3 : mkl a.m ≠ mkl b.m := fun h => h2 (mkl_inj.1 h)
        simp [h3]
    · simp [h1]
theorem bt_at' (l : List UInt8) (p : Nat) (h : p < l.length) : bt (S l) (p : Int) = ((l[p]'h).toNat : Int) := by
  rw [bt_S, Int.toNat_natCast, List.getD_eq_getElem?_getD, List.getElem?_eq_getElem h]; rfl
theorem hin_one (l : List UInt8) (p : Nat) (c : UInt8) (h : p < l.length) : (bt (S l) (p : Int) == (c.toNat : Int)) = hin [c] (l.drop p) := by
  rw [bt_at' l p h, ← List.getElem_cons_drop (h := h), hin_cons]
  by_cases hc : l[p] = c
  · rw [hc, decide_eq_true (by simp)]; simp
  · rw [decide_eq_false (by simpa using hc)]
    apply beq_eq_false_iff_ne.2
    intro h2
    apply hc
    apply UInt8.toNat_inj.1
    omega
theorem hin_out (l : List UInt8) (p : Nat) (s : List UInt8) (h : l.length ≤ p) : hin s (l.drop p) = false := by
  rw [List.drop_eq_nil_of_le h, hin_nil]
theorem hin_two (s t r : List UInt8) : hin (s ++ t) r = (hin s r || hin t r) := by
  cases r with
  | nil => rfl
  | cons c r => rw [hin_cons, hin_cons, hin_cons]; simp
theorem run_loop (l : List UInt8) (hl : l.length ≤ 1000000000) (i : Nat) (n : Nat) : ∀ j : Nat, l.length - (i + j) = n → i + j ≤ 1000000010 → Ev (fun k => florinlaw02_run.l0 k (S l) (i : Int) (j : Int)) (((j + (dg (l.drop (i + j))).length : Nat) : Int)) := by
  induction n with
  | zero =>
    intro j hj hle
    have hw : wrap64 ((i : Int) + (j : Int)) = ((i + j : Nat) : Int) := by rw [w64 (by omega) (by omega)]; omega
    refine Ev.step (fun k => (by rw [florinlaw02_run.l0, hw])) (Ev.if_neg (by rw [S_size]; omega) ?_)
    rw [List.drop_eq_nil_of_le (by omega)]
    exact Ev.now _
  | succ n ih =>
    intro j hj hle
    have hlt : i + j < l.length := by omega
    have hw : wrap64 ((i : Int) + (j : Int)) = ((i + j : Nat) : Int) := by rw [w64 (by omega) (by omega)]; omega
    have hw1 : wrap64 ((j : Int) + 1) = ((j + 1 : Nat) : Int) := by rw [w64 (by omega) (by omega)]; omega
    have e : l.drop (i + j) = l[i + j] :: l.drop (i + (j + 1)) := (List.getElem_cons_drop (h := hlt)).symm
    have no : isd l[i + j] ≠ true → dg (l.drop (i + j)) = [] := by
      intro h; unfold dg; rw [e, List.takeWhile_cons_of_neg h]
    refine Ev.step (fun k => (by rw [florinlaw02_run.l0, hw, hw1, bt_at' l (i + j) hlt])) ?_
    refine Ev.if_pos (by rw [S_size]; omega) (Ev.if_pos (by omega) ?_)
    by_cases h1 : (l[i + j].toNat : Int) ≥ 48
    · refine Ev.if_pos h1 ?_
      by_cases h2 : (l[i + j].toNat : Int) ≤ 57
      · refine Ev.if_pos h2 ?_
        have hd : isd l[i + j] = true := decide_eq_true ⟨by omega, by omega⟩
        have e2 : dg (l.drop (i + j)) = l[i + j] :: dg (l.drop (i + (j + 1))) := by unfold dg; rw [e, List.takeWhile_cons_of_pos hd]
        have h := ih (j + 1) (by omega) (by omega)
        rw [e2, List.length_cons, show j + ((dg (l.drop (i + (j + 1)))).length + 1) = j + 1 + (dg (l.drop (i + (j + 1)))).length by omega]
        exact h
      · refine Ev.if_neg h2 ?_
        rw [no (fun h => by have := of_decide_eq_true h; omega)]
        exact Ev.now _
    · refine Ev.if_neg h1 ?_
      rw [no (fun h => by have := of_decide_eq_true h; omega)]
      exact Ev.now _
theorem run_ev (l : List UInt8) (hl : l.length ≤ 1000000000) (i : Nat) (hi : i ≤ 1000000001) : Ev (fun k => florinlaw02_run.f k (S l) (i : Int)) (((dg (l.drop i)).length : Nat) : Int) := by
  have h := run_loop l hl i _ 0 rfl (by omega)
  rw [Nat.zero_add, Nat.add_zero] at h
  exact h
theorem form_j5 (l : List UInt8) (hl : l.length ≤ 1000000) (i : Nat) (hi : i ≤ l.length) :
    Ev (fun k => florinlaw02_form.j5 k (S l) (i : Int) (hin [43, 45] (l.drop i))) (decide (dg (exS (l.drop i)) ≠ [] ∧ dr (exS (l.drop i)) = [])) := by
  have fin : ∀ p : Nat, p ≤ l.length → l.drop p = exS (l.drop i) → Ev (fun k => (florinlaw02_run.f k (S l) (p : Int)).bind fun t => (if t = 0 then (some false) else (some ((wrap64 ((p : Int) + t)) == ((S l).size : Int))))) (decide (dg (exS (l.drop i)) ≠ [] ∧ dr (exS (l.drop i)) = [])) := by
    intro p hp hd
    refine Ev.bind (run_ev l (by omega) p (by omega)) ?_
    have hlen := dg_length (l.drop p)
    rw [List.length_drop] at hlen
    rw [← hd]
    by_cases h0 : (((dg (l.drop p)).length : Nat) : Int) = 0
    · refine Ev.if_pos h0 ?_
      rw [decide_eq_false (fun h => h.1 (List.eq_nil_of_length_eq_zero (by omega)))]
      exact Ev.now _
    · refine Ev.if_neg h0 ?_
      have e1 : ((wrap64 ((p : Int) + (((dg (l.drop p)).length : Nat) : Int))) == ((S l).size : Int)) = decide (dg (l.drop p) ≠ [] ∧ dr (l.drop p) = []) := by
        rw [S_size, w64 (by omega) (by omega)]
        by_cases h2 : dr (l.drop p) = []
        · rw [decide_eq_true ⟨fun h => h0 (by rw [h]; rfl), h2⟩]
          rw [h2, List.length_nil] at hlen
          exact beq_iff_eq.2 (by omega)
        · rw [decide_eq_false (fun h => h2 h.2)]
          have : (dr (l.drop p)).length ≠ 0 := fun h => h2 (List.eq_nil_of_length_eq_zero h)
          exact beq_eq_false_iff_ne.2 (by omega)
      rw [e1]
      exact Ev.now _
  by_cases hs : hin [43, 45] (l.drop i) = true
  · have hlt := hin_take hs
    refine Ev.step (fun k => (by rw [florinlaw02_form.j5, hs, _root_.if_pos rfl, show wrap64 ((i : Int) + 1) = ((i + 1 : Nat) : Int) by rw [w64 (by omega) (by omega)]; rfl])) ?_
    exact fin (i + 1) (by omega) (by unfold exS; rw [_root_.if_pos hs, List.tail_drop])
  · refine Ev.step (fun k => (by rw [florinlaw02_form.j5, Bool.eq_false_iff.2 hs, _root_.if_neg (by decide)])) ?_
    exact fin i hi (by unfold exS; rw [_root_.if_neg hs])
theorem form_j3 (l : List UInt8) (hl : l.length ≤ 1000000) (i : Nat) (hi : i ≤ l.length) : Ev (fun k => florinlaw02_form.j3 k (S l) (i : Int)) (decide ((exX (l.drop i) = true → exD (l.drop i) ≠ []) ∧ exR (l.drop i) = [])) := by
  have j4 : Ev (fun k => florinlaw02_form.j4 k (S l) (i : Int) (hin [101, 69] (l.drop i))) (decide ((exX (l.drop i) = true → exD (l.drop i) ≠ []) ∧ exR (l.drop i) = [])) := by
    by_cases hx : hin [101, 69] (l.drop i) = true
    · have hlt := hin_take hx
      have etail : (l.drop i).tail = l.drop (i + 1) := by rw [List.tail_drop]
      have h5 := form_j5 l hl (i + 1) (by omega)
      have e1 : decide ((exX (l.drop i) = true → exD (l.drop i) ≠ []) ∧ exR (l.drop i) = []) = decide (dg (exS (l.drop (i + 1))) ≠ [] ∧ dr (exS (l.drop (i + 1))) = []) := by
        apply decide_eq_decide.2
        unfold exD exR exX
        rw [hx, _root_.if_pos rfl, _root_.if_pos rfl, etail]
        simp
      rw [e1]
      refine Ev.step (fun k => (by rw [florinlaw02_form.j4, hx, _root_.if_pos rfl, show wrap64 ((i : Int) + 1) = ((i + 1 : Nat) : Int) by rw [w64 (by omega) (by omega)]; rfl])) ?_
      by_cases hlt2 : i + 1 < l.length
      · refine Ev.if_pos (by rw [S_size]; omega) (Ev.if_pos (by omega) ?_)
        have hh := hin_two [43] [45] (l.drop (i + 1))
        rw [← hin_one l (i + 1) 43 hlt2, ← hin_one l (i + 1) 45 hlt2] at hh
        rw [show ([43] : List UInt8) ++ [45] = [43, 45] from rfl] at hh
        by_cases h43 : bt (S l) ((i + 1 : Nat) : Int) = 43
        · refine Ev.if_pos h43 ?_
          rw [show hin [43, 45] (l.drop (i + 1)) = true by rw [hh, h43]; rfl] at h5
          exact h5
        · refine Ev.if_neg h43 ?_
          rw [hh, beq_eq_false_iff_ne.2 (show bt (S l) ((i + 1 : Nat) : Int) ≠ ((43 : UInt8).toNat : Int) from h43), Bool.false_or] at h5
          exact h5
      · refine Ev.if_neg (by rw [S_size]; omega) ?_
        rw [hin_out l (i + 1) _ (by omega)] at h5
        exact h5
    · have e1 : decide ((exX (l.drop i) = true → exD (l.drop i) ≠ []) ∧ exR (l.drop i) = []) = (((i : Nat) : Int) == ((S l).size : Int)) := by
        have e2 : exR (l.drop i) = l.drop i := by unfold exR exX; rw [_root_.if_neg hx]
        have e3 : exX (l.drop i) = false := Bool.eq_false_iff.2 hx
        rw [e2, e3, S_size]
        by_cases h : i = l.length
        · rw [h, decide_eq_true ⟨fun h => (by cases h), by rw [List.drop_length]⟩]; simp
        · rw [decide_eq_false (fun h2 => h (by have := congrArg List.length h2.2; rw [List.length_drop, List.length_nil] at this; omega))]
          exact (beq_eq_false_iff_ne.2 (by omega)).symm
      rw [e1]
      exact Ev.step (fun k => (by rw [florinlaw02_form.j4, Bool.eq_false_iff.2 hx, _root_.if_neg (by decide)])) (Ev.now _)
  refine Ev.step (fun k => (by rw [florinlaw02_form.j3])) ?_
  by_cases hlt : i < l.length
  · refine Ev.if_pos (by rw [S_size]; omega) (Ev.if_pos (by omega) ?_)
    have hh := hin_two [101] [69] (l.drop i)
    rw [← hin_one l i 101 hlt, ← hin_one l i 69 hlt] at hh
    rw [show ([101] : List UInt8) ++ [69] = [101, 69] from rfl] at hh
    by_cases h1 : bt (S l) (i : Int) = 101
    · refine Ev.if_pos h1 ?_
      rw [show hin [101, 69] (l.drop i) = true by rw [hh, h1]; rfl] at j4
      exact j4
    · refine Ev.if_neg h1 ?_
      rw [hh, beq_eq_false_iff_ne.2 (show bt (S l) (i : Int) ≠ ((101 : UInt8).toNat : Int) from h1), Bool.false_or] at j4
      exact j4
  · refine Ev.if_neg (by rw [S_size]; omega) ?_
    rw [hin_out l i _ (by omega)] at j4
    exact j4
theorem form_ev (l : List UInt8) (hl : l.length ≤ 1000000) : Ev (fun k => florinlaw02_form.f k (S l)) (decide (qOk l)) := by
  obtain ⟨p0, hp0, lp0, dp0⟩ : ∃ p : Nat, (if hin [45] l = true then 0 + 1 else 0) = p ∧ p ≤ l.length ∧ l.drop p = qr0 l := by
    refine ⟨_, rfl, ?_, ?_⟩
    · split
      · rename_i h; have := hin_take (i := 0) (s := [45]) (l := l) (by rwa [List.drop_zero]); omega
      · omega
    · unfold qr0
      split
      · rw [List.drop_one]
      · rw [List.drop_zero]
  have hlen := dg_length (l.drop p0)
  rw [List.length_drop] at hlen
  have d1 : l.drop (p0 + (dg (l.drop p0)).length) = qr1 l := by unfold qr1; rw [dr_drop, ← dp0, List.drop_drop]
  have j2 : qW l ≠ [] → Ev (fun k => florinlaw02_form.j2 k (S l) ((p0 + (dg (l.drop p0)).length : Nat) : Int) (hin [46] (l.drop (p0 + (dg (l.drop p0)).length)))) (decide (qOk l)) := by
    intro hW
    rw [d1]
    by_cases hp : hin [46] (qr1 l) = true
    · have hlt := hin_take (i := p0 + (dg (l.drop p0)).length) (s := [46]) (l := l) (by rw [d1]; exact hp)
      have etail : l.drop (p0 + (dg (l.drop p0)).length + 1) = (qr1 l).tail := by rw [← d1, List.tail_drop]
      have eP : qP l = dg (l.drop (p0 + (dg (l.drop p0)).length + 1)) := by unfold qP; rw [_root_.if_pos hp, etail]
      have e2 : qr2 l = dr (l.drop (p0 + (dg (l.drop p0)).length + 1)) := by unfold qr2; rw [_root_.if_pos hp, etail]
      have hl2 := dg_length (l.drop (p0 + (dg (l.drop p0)).length + 1))
      rw [List.length_drop] at hl2
      refine Ev.step (fun k => (by rw [florinlaw02_form.j2, hp, _root_.if_pos rfl, show wrap64 (((p0 + (dg (l.drop p0)).length : Nat) : Int) + 1) = ((p0 + (dg (l.drop p0)).length + 1 : Nat) : Int) by rw [w64 (by omega) (by omega)]; rfl])) ?_
      refine Ev.bind (run_ev l (by omega) _ (by omega)) ?_
      rw [← eP] at hl2 ⊢
      by_cases h0 : (((qP l).length : Nat) : Int) = 0
      · refine Ev.if_pos h0 ?_
        rw [decide_eq_false (fun h => h.2.1 hp (List.eq_nil_of_length_eq_zero (by omega)))]
        exact Ev.now _
      · refine Ev.if_neg h0 ?_
        have hw : wrap64 (((p0 + (dg (l.drop p0)).length : Nat) : Int) + wrap64 (1 + (((qP l).length : Nat) : Int))) = ((p0 + (dg (l.drop p0)).length + 1 + (qP l).length : Nat) : Int) := by
          rw [w64 (x := 1 + _) (by omega) (by omega), w64 (by omega) (by omega)]; omega
        rw [hw]
        have h3 := form_j3 l hl (p0 + (dg (l.drop p0)).length + 1 + (qP l).length) (by omega)
        have e3 : l.drop (p0 + (dg (l.drop p0)).length + 1 + (qP l).length) = qr2 l := by rw [e2, dr_drop, List.drop_drop, eP]
        rw [e3] at h3
        have e4 : decide (qOk l) = decide ((exX (qr2 l) = true → exD (qr2 l) ≠ []) ∧ exR (qr2 l) = []) := by
          apply decide_eq_decide.2
          unfold qOk
          exact ⟨fun h => h.2.2, fun h => ⟨hW, fun _ h2 => h0 (by rw [h2]; rfl), h⟩⟩
        rw [e4]
        exact h3
    · have e2 : qr2 l = qr1 l := by unfold qr2; rw [_root_.if_neg hp]
      refine Ev.step (fun k => (by rw [florinlaw02_form.j2, Bool.eq_false_iff.2 hp, _root_.if_neg (by decide)])) ?_
      have h3 := form_j3 l hl (p0 + (dg (l.drop p0)).length) (by omega)
      rw [d1, ← e2] at h3
      have e4 : decide (qOk l) = decide ((exX (qr2 l) = true → exD (qr2 l) ≠ []) ∧ exR (qr2 l) = []) := by
        apply decide_eq_decide.2
        unfold qOk
        exact ⟨fun h => h.2.2, fun h => ⟨hW, fun h2 => absurd h2 hp, h⟩⟩
      rw [e4]
      exact h3
  have j1 : Ev (fun k => florinlaw02_form.j1 k (S l) (p0 : Int)) (decide (qOk l)) := by
    refine Ev.step (fun k => (by rw [florinlaw02_form.j1])) (Ev.bind (run_ev l (by omega) p0 (by omega)) ?_)
    have hWd : qW l = dg (l.drop p0) := by unfold qW; rw [dp0]
    by_cases h0 : (((dg (l.drop p0)).length : Nat) : Int) = 0
    · refine Ev.if_pos h0 ?_
      rw [decide_eq_false (fun h => h.1 (by rw [hWd]; exact List.eq_nil_of_length_eq_zero (by omega)))]
      exact Ev.now _
    · refine Ev.if_neg h0 ?_
      have hW : qW l ≠ [] := fun h => h0 (by rw [← hWd, h]; rfl)
      have h2 := j2 hW
      rw [show wrap64 ((p0 : Int) + (((dg (l.drop p0)).length : Nat) : Int)) = ((p0 + (dg (l.drop p0)).length : Nat) : Int) by rw [w64 (by omega) (by omega)]; omega]
      by_cases hlt : p0 + (dg (l.drop p0)).length < l.length
      · refine Ev.if_pos (by rw [S_size]; omega) (Ev.if_pos (by omega) ?_)
        rw [← hin_one l _ 46 hlt] at h2
        exact h2
      · refine Ev.if_neg (by rw [S_size]; omega) ?_
        rw [hin_out l _ _ (by omega)] at h2
        exact h2
  have j0 : Ev (fun k => florinlaw02_form.j0 k (S l) 0 (hin [45] l)) (decide (qOk l)) := by
    by_cases h : hin [45] l = true
    · rw [_root_.if_pos h] at hp0
      refine Ev.step (fun k => (by rw [florinlaw02_form.j0, h, _root_.if_pos rfl, show wrap64 ((0 : Int) + 1) = ((p0 : Nat) : Int) by rw [w64 (by omega) (by omega)]; omega])) j1
    · rw [_root_.if_neg h] at hp0
      refine Ev.step (fun k => (by rw [florinlaw02_form.j0, Bool.eq_false_iff.2 h, _root_.if_neg (by decide), show (0 : Int) = ((p0 : Nat) : Int) by omega])) j1
  unfold florinlaw02_form.f
  by_cases hlt : 0 < l.length
  · refine Ev.if_pos (by rw [S_size]; omega) ?_
    have := hin_one l 0 45 hlt
    rw [List.drop_zero] at this
    rw [← this] at j0
    exact j0
  · refine Ev.if_neg (by rw [S_size]; omega) ?_
    have := hin_out l 0 [45] (by omega)
    rw [List.drop_zero] at this
    rw [this] at j0
    exact j0
/-- what the parts of a text say of its reading -/
theorem reads_wr (neg pt pw up : Bool) (W P sg Z : List UInt8) (dW : Dig W) (dP : Dig P) (dZ : Dig Z) (hW : W ≠ []) (hsg : sg = [] ∨ sg = [43] ∨ sg = [45]) (hZ : Z ≠ []) (hP : pt = true → P ≠ []) :
    qOk (wrL neg W P pt (pwL pw up sg Z)) ∧ (qLong (wrL neg W P pt (pwL pw up sg Z)) ↔ (1000 < W.length + (if pt = true then P else []).length ∨ (pw = true ∧ 10000 < nvl Z))) ∧
    qD (wrL neg W P pt (pwL pw up sg Z)) = nrm neg (nvl (W ++ (if pt = true then P else []))) ((if pw = true then (if sg = [45] then -(nvl Z : Int) else nvl Z) else 0) - ((if pt = true then P else []).length : Int)) := by
  obtain ⟨p1, p2, p3, p4, p5, p6, p7, p8⟩ := parses_parts neg pt pw up W P sg Z dW dP dZ hW hsg hZ
  refine ⟨⟨by rw [p2]; exact hW, ?_, ?_, p7⟩, ?_, ?_⟩
  · intro h; rw [p3] at h; rw [p4, h, _root_.if_pos rfl]; exact hP h
  · intro h; rw [p5] at h; rw [p6, h, _root_.if_pos rfl]; exact hZ
  · unfold qLong
    rw [p2, p4, p6]
    cases pw with
    | true => simp
    | false => simp
  · unfold qD qE
    rw [p1, p2, p4, p8, p6]
    cases pw with
    | true =>
      rw [Bool.true_and]
      by_cases h : sg = [45]
      · simp [h]
      · simp [h]
    | false => rfl
theorem mkl_ne {n : Nat} (h : n ≠ 0) : mkl n ≠ [] := fun h2 => h (mkl_eq_nil.1 h2)
theorem textL_wr (d : D) (h0 : d.m = 0 → d = D0) : textL d = wrL d.neg (if d.m = 0 then [48] else mkl d.m) [] false (pwL (decide (d.e ≠ 0)) false (if d.e < 0 then [45] else []) (mkl d.e.natAbs)) := by
  unfold textL
  by_cases hz : d.m = 0
  · rw [h0 hz]; rfl
  · rw [_root_.if_neg hz, _root_.if_neg hz]
    unfold wrL pwL powL
    rw [show (if false = true then (46 : UInt8) :: [] else []) = [] from rfl, List.nil_append, List.append_assoc]
    congr 2
    by_cases he : d.e = 0
    · rw [_root_.if_pos he, _root_.if_neg (by simpa using he)]
    · rw [_root_.if_neg he, _root_.if_pos (decide_eq_true he), show (if false = true then (69 : UInt8) else 101) = 101 from rfl]
      by_cases hn : d.e < 0
      · rw [_root_.if_pos hn, _root_.if_pos hn]; rfl
      · rw [_root_.if_neg hn, _root_.if_neg hn]; rfl
theorem plainL_wr (d : D) : plainL d = wrL d.neg (if mkl (wholeN d.m d.e) = [] then [48] else mkl (wholeN d.m d.e)) (partL d.m d.e) (decide (partL d.m d.e ≠ [])) (pwL false false [] [48]) := by
  unfold plainL wrL pwL
  rw [show (if false = true then (if false = true then (69 : UInt8) else 101) :: ([] ++ [48]) else []) = [] from rfl, List.append_nil, List.append_assoc]
  congr 2
  by_cases hp : partL d.m d.e = []
  · rw [_root_.if_pos hp, _root_.if_neg (by simpa using hp)]
  · rw [_root_.if_neg hp, _root_.if_pos (decide_eq_true hp)]
/-- a decimal that was read: in its normal form, of few digits -/
structure Rd (d : D) : Prop where
  idem : nrm d.neg d.m d.e = d
  few : Few d
  len : (mkl d.m).length ≤ 1000
  zero : d.m = 0 → d = D0
theorem parse_text {d : D} (h : Rd d) : (-9000 ≤ d.e → d.e ≤ 9000 → Ev (fun k => dec_Parse.f k (S (textL d))) (d.neg, S (mkl d.m), d.e, 0)) ∧ (∃ r, Ev (fun k => dec_Parse.f k (S (textL d))) r) := by
  obtain ⟨f1, f2, f3⟩ := h.few
  have hlen := h.len
  have dW : Dig (if d.m = 0 then [48] else mkl d.m) := by
    split
    · unfold Dig; decide
    · exact dig_mkl _
  have hW : (if d.m = 0 then [48] else mkl d.m) ≠ [] := by
    split
    · simp
    · rename_i h; exact mkl_ne h
  have lW : (if d.m = 0 then [48] else mkl d.m).length ≤ 1000 := by
    split
    · simp
    · exact hlen
  have vW : nvl (if d.m = 0 then [48] else mkl d.m) = d.m := by
    split
    · rename_i h; rw [h]; rfl
    · exact nvl_mkl _
  have lE : (mkl d.e.natAbs).length ≤ 5 := mkl_length_le.2 (by omega)
  have lT : (textL d).length ≤ 2000 := by
    unfold textL powL
    split
    · simp
    · simp only [List.length_append]
      have e1 : (if d.neg = true then [(45 : UInt8)] else []).length ≤ 1 := by split <;> simp
      have e2 : (if d.e = 0 then ([] : List UInt8) else 101 :: (if d.e < 0 then 45 :: mkl d.e.natAbs else mkl d.e.natAbs)).length ≤ 10 := by
        split
        · simp
        · rw [List.length_cons]; split
          · rw [List.length_cons]; omega
          · omega
      omega
  obtain ⟨Z, hZ, dZ, nZ, vZ⟩ : ∃ Z, pwL (decide (d.e ≠ 0)) false (if d.e < 0 then [45] else []) (mkl d.e.natAbs) = pwL (decide (d.e ≠ 0)) false (if d.e < 0 then [45] else []) Z ∧ Dig Z ∧ Z ≠ [] ∧ (d.e ≠ 0 → nvl Z = d.e.natAbs) := by
    by_cases he : d.e = 0
    · refine ⟨[48], ?_, by unfold Dig; decide, by simp, fun h => absurd he h⟩
      rw [decide_eq_false (by simpa using he)]; rfl
    · exact ⟨mkl d.e.natAbs, rfl, dig_mkl _, mkl_ne (by omega), fun _ => nvl_mkl _⟩
  have ht := textL_wr d h.zero
  rw [hZ] at ht
  have hsg : (if d.e < 0 then [(45 : UInt8)] else []) = [] ∨ (if d.e < 0 then [(45 : UInt8)] else []) = [43] ∨ (if d.e < 0 then [(45 : UInt8)] else []) = [45] := by
    split
    · exact .inr (.inr rfl)
    · exact .inl rfl
  obtain ⟨r1, r2, r3⟩ := reads_wr d.neg false (decide (d.e ≠ 0)) false _ [] _ Z dW Dig.nil dZ hW hsg nZ (fun h => by cases h)
  have eN : (if false = true then ([] : List UInt8) else []) = [] := rfl
  rw [← ht] at r1 r2 r3
  rw [eN] at r2 r3
  have hq : qD (textL d) = d := by
    rw [r3, List.append_nil, vW]
    have e1 : (if decide (d.e ≠ 0) = true then (if (if d.e < 0 then [(45 : UInt8)] else []) = [45] then -(nvl Z : Int) else nvl Z) else 0) - (([] : List UInt8).length : Int) = d.e := by
      by_cases he : d.e = 0
      · rw [_root_.if_neg (by simpa using he)]; simp; omega
      · rw [_root_.if_pos (decide_eq_true he), vZ he]
        by_cases hn : d.e < 0
        · rw [_root_.if_pos hn, _root_.if_pos rfl]; simp; omega
        · rw [_root_.if_neg hn, _root_.if_neg (by decide)]; simp; omega
    rw [e1]
    exact h.idem
  constructor
  · intro h1 h2
    have hp := Parse_ok (textL d) (by omega) r1 (by
      intro hl
      rcases r2.1 hl with hl | ⟨hl, hl2⟩
      · rw [List.length_nil] at hl; omega
      · rw [vZ (of_decide_eq_true hl)] at hl2; omega)
    rwa [hq] at hp
  · by_cases hl : qLong (textL d)
    · exact ⟨_, Parse_long (textL d) (by omega) r1 hl⟩
    · exact ⟨_, Parse_ok (textL d) (by omega) r1 hl⟩
theorem parse_plain {d : D} (h : Rd d) : qOk (plainL d) ∧ ((plainL d).length ≤ 900 → Ev (fun k => dec_Parse.f k (S (plainL d))) (d.neg, S (mkl d.m), d.e, 0)) := by
  obtain ⟨f1, f2, f3⟩ := h.few
  have lw := wholeN_len_le h.few
  have lp := partL_length d.m d.e
  have hwp := whole_part d.m d.e
  have dp := dig_partL d.m d.e
  have ht := plainL_wr d
  have dW : Dig (if mkl (wholeN d.m d.e) = [] then [48] else mkl (wholeN d.m d.e)) := by
    split
    · unfold Dig; decide
    · exact dig_mkl _
  have hW : (if mkl (wholeN d.m d.e) = [] then [48] else mkl (wholeN d.m d.e)) ≠ [] := by
    split
    · simp
    · rename_i h; exact h
  obtain ⟨r1, r2, r3⟩ := reads_wr d.neg (decide (partL d.m d.e ≠ [])) false false _ (partL d.m d.e) [] [48] dW dp (by unfold Dig; decide) hW (.inl rfl) (by simp) (fun h => of_decide_eq_true h)
  rw [← ht] at r1 r2 r3
  have hP : (if decide (partL d.m d.e ≠ []) = true then partL d.m d.e else []) = partL d.m d.e := by
    by_cases hp : partL d.m d.e = []
    · rw [_root_.if_neg (by simpa using hp), hp]
    · rw [_root_.if_pos (decide_eq_true hp)]
  rw [hP] at r2 r3
  refine ⟨r1, fun hl => ?_⟩
  have hq : qD (plainL d) = d := by
    rw [r3, show (if false = true then (if ([] : List UInt8) = [45] then -((nvl [48] : Nat) : Int) else ((nvl [48] : Nat) : Int)) else 0) = 0 from rfl]
    have v1 : nvl ((if mkl (wholeN d.m d.e) = [] then [48] else mkl (wholeN d.m d.e)) ++ partL d.m d.e) = d.m * 10 ^ d.e.toNat := by
      rw [← hwp, nvl_append, nvl_append]
      congr 2
      split
      · rename_i h; rw [h]; rfl
      · rfl
    rw [v1, nrm_shift (by omega) (by omega), show (0 : Int) - ((partL d.m d.e).length : Int) + (d.e.toNat : Int) = d.e by omega]
    exact h.idem
  have hp := Parse_ok (plainL d) (by omega) r1 (by
    intro hlong
    rcases r2.1 hlong with hh | ⟨hh, _⟩
    · rw [ht] at hl
      unfold wrL at hl
      simp only [List.length_append] at hl
      by_cases hpe : partL d.m d.e = []
      · rw [hpe, List.length_nil] at hh; omega
      · rw [_root_.if_pos (decide_eq_true hpe), List.length_cons] at hl; omega
    · cases hh)
  rwa [hq] at hp
theorem reads_j0 {d : D} (h : Rd d) : Ev (fun k => florinlaw02_DecReads.j0 k false (tri d).1 (tri d).2.1 (tri d).2.2) true := by
  have hidem := h.idem
  obtain ⟨f1, f2, f3⟩ := h.few
  have hstr := String_ev d.neg (mkl d.m) f1 (dig_mkl _) d.e
  rw [nvl_mkl, hidem] at hstr
  have hpl := Plain_tri d h.few
  rw [hidem] at hpl
  obtain ⟨pt1, r, pt2⟩ := parse_text h
  obtain ⟨pp1, pp2⟩ := parse_plain h
  have lpl : (plainL d).length ≤ 1000000 := by
    unfold plainL
    have lw := wholeN_len_le h.few
    have lp := partL_length d.m d.e
    have hlen := h.len
    have l2 : (mkl (wholeN d.m d.e)).length ≤ 40000 := by
      unfold wholeN
      split
      · rcases Nat.eq_zero_or_pos d.m with hm | hm
        · rw [hm, Nat.zero_mul]; simp
        · rw [mkl_len_mul hm]; omega
      · exact Nat.le_trans (mkl_length_mono (Nat.div_le_self _ _)) (by omega)
    simp only [List.length_append]
    have e1 : (if d.neg = true then [(45 : UInt8)] else []).length ≤ 1 := by split <;> simp
    have e2 : (if mkl (wholeN d.m d.e) = [] then [(48 : UInt8)] else mkl (wholeN d.m d.e)).length ≤ 40000 := by
      split
      · simp
      · exact l2
    have e3 : (if partL d.m d.e = [] then ([] : List UInt8) else 46 :: partL d.m d.e).length ≤ 40000 := by
      split
      · simp
      · rw [List.length_cons]; omega
    omega
  refine Ev.step (fun k => (by rw [florinlaw02_DecReads.j0, _root_.if_neg (by decide)])) ?_
  refine Ev.bind hstr ?_
  have out : ∀ (a : Int) (b : Bool) (c : ByteArray) (e : Int), Ev (fun k => florinlaw02_DecReads.j1 k a true (tri d).1 (tri d).2.1 (tri d).2.2 b c e) true := fun a b c e =>
    Ev.step (f := fun _ => some true) (fun k => by rw [florinlaw02_DecReads.j1, _root_.if_pos rfl]) (Ev.now _)
  by_cases he : -9000 ≤ d.e ∧ d.e ≤ 9000
  · refine Ev.bind (pt1 he.1 he.2) (Ev.if_neg (by rw [tri3]; omega) ?_)
    rw [decide_eq_false (by rw [tri3]; omega)]
    refine Ev.step (fun k => (by rw [florinlaw02_DecReads.j1, _root_.if_neg (by decide)])) (Ev.if_pos rfl (Ev.if_neg ?_ (Ev.bind hpl (Ev.bind (form_ev _ lpl) ?_))))
    · have := rne3 d d
      rw [tri1, tri2, tri3] at this
      rw [tri1, tri2, tri3, this]; simp
    · rw [decide_eq_true pp1]
      refine Ev.step (fun k => (by rw [florinlaw02_DecReads.j2])) (Ev.if_neg (by decide) (Ev.bind hpl ?_))
      by_cases hl : ((S (plainL d)).size : Int) > 900
      · exact Ev.if_pos hl (Ev.now _)
      · rw [S_size] at hl
        refine Ev.if_neg (by rw [S_size]; exact hl) (Ev.bind hpl (Ev.bind (pp2 (by omega)) (Ev.if_pos rfl (Ev.yes ?_))))
        rw [tri1, tri2, tri3]
        simp
  · refine Ev.bind pt2 ?_
    by_cases he2 : d.e > 9000
    · exact Ev.if_pos he2 (out _ _ _ _)
    · refine Ev.if_neg he2 ?_
      rw [decide_eq_true (by rw [tri3]; omega)]
      exact out _ _ _ _
theorem pureDecReads (s : ByteArray) (hs : s.size ≤ 140737488351232) : ∃ k, florinlaw02_DecReads.f k s = some true := by
  refine Ev.rounds ?_
  unfold florinlaw02_DecReads.f
  rw [S_of s]
  obtain ⟨l, hl⟩ : ∃ l, s.data.toList = l := ⟨_, rfl⟩
  rw [hl]
  refine Ev.bind head02 (Ev.if_pos rfl ?_)
  by_cases h200 : ((S l).size : Int) > 200
  · exact Ev.if_pos h200 (Ev.now _)
  refine Ev.if_neg h200 ?_
  rw [S_size] at h200
  by_cases hok : qOk l
  · by_cases hlong : qLong l
    · refine Ev.bind (Parse_long l (by omega) hok hlong) (Ev.bind (form_ev l (by omega)) (Ev.if_pos (decide_eq_true hok) (Ev.if_pos rfl (Ev.yes ?_))))
      rw [S_toList]; rfl
    · have hq := qlen l
      have hd : Dig (qW l ++ qP l) := (dig_qW l).append (dig_qP l)
      have hml : (mkl (nvl (qW l ++ qP l))).length ≤ 200 := by
        have := mkl_length_le.2 (nvl_lt hd)
        rw [List.length_append] at this
        omega
      have hrd : Rd (qD l) := by
        unfold qD
        refine ⟨nrm_idem _ _ _, few_nrm (by omega), ?_, fun h => by rw [nrm_m_zero.1 h, nrm_zero]⟩
        rw [nrm_m]
        have := mkl_length_mono (st_le (nvl (qW l ++ qP l)))
        omega
      have hn := normal_ev (hin [45] l) (nvl (qW l ++ qP l)) (qE l - (qP l).length) (by omega)
      have e1 : nrm (hin [45] l) (nvl (qW l ++ qP l)) (qE l - (qP l).length) = qD l := rfl
      rw [e1] at hn
      refine Ev.bind (Parse_ok l (by omega) hok hlong) (Ev.bind (form_ev l (by omega)) (Ev.if_pos (decide_eq_true hok) (Ev.if_neg (by dsimp only; decide) (Ev.if_pos rfl (Ev.bind hn ?_)))))
      exact reads_j0 hrd
  · refine Ev.bind (Parse_bad l (by omega) hok) (Ev.bind (form_ev l (by omega)) (Ev.if_neg (by simpa using hok) (Ev.if_pos rfl (Ev.yes ?_))))
    rw [S_toList]; rfl
end Go.Proofs.YtlkiaeipbekpkaaDoor.P
