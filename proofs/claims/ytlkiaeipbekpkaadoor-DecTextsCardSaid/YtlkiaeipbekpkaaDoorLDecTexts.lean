import Derived.Test.YtlkiaeipbekpkaaDoorD3
import Derived.Test.YtlkiaeipbekpkaaDoorPx18
namespace Go.Proofs.YtlkiaeipbekpkaaDoor.P
open Go.RowKit Go.Proofs.YtlkiaeipbekpkaaDoorW.PrintWords Go.Proofs.YtlkiaeipbekpkaaDoorW.PrintLast Go.Proofs.YtlkiaeipbekpkaaDoorW.PrintMore Go.Proofs.YtlkiaeipbekpkaaDoor.FM
set_option linter.unusedVariables false
set_option linter.unusedSimpArgs false

theorem pureDecTexts (a0 : Bool) (l : List Int) (e : Int) (h0 : l.length ≤ maxLen) (h1 : l.length * 1 ≤ 140737488351232) (hw : ∀ x ∈ l, (Lit.int .u8 x).wf = true) (he : (Lit.int .i64 e).wf = true) :
    ∃ k, florinlaw02_DecTexts.f k a0 l e = some true := by
  refine Ev.rounds ?_
  unfold florinlaw02_DecTexts.f
  refine Ev.bind head02 (Ev.if_pos rfl (Ev.const (Few_ev a0 l e 60 (by omega)) ?_))
  by_cases h : (l.length : Int) ≤ (60 : Nat) ∧ -((60 : Nat) : Int) ≤ e ∧ e ≤ (60 : Nat)
  case neg => exact Ev.if_neg (by simpa using h) (Ev.now _)
  refine Ev.if_pos (decide_eq_true h) ?_
  have hl : (digs l).length = l.length := digs_length l
  have hd := digs_dig l
  have hf := few_dig (neg := a0) (e := e) (l := digs l) (by omega) hd
  have hlen : (mkl (nvl (digs l))).length ≤ 60 := by have := mkl_length_le.2 (nvl_lt hd); omega
  have hml : (mkl (nrm a0 (nvl (digs l)) e).m).length ≤ 60 := by rw [nrm_m]; exact Nat.le_trans (mkl_length_mono (st_le _)) hlen
  have hneg := nrm_neg a0 (nvl (digs l)) e
  have hstr := String_ev a0 (digs l) (by omega) hd e
  have hD : (nrm a0 (nvl (digs l)) e).m = 0 → nrm a0 (nvl (digs l)) e = D0 := fun h => by rw [nrm_m_zero.1 h, nrm_zero]
  have hmake := Make_ev a0 l e (by omega) hw
  refine Ev.bind hmake (Ev.bind (Norm_ev a0 (digs l) (by omega) hd e) ?_)
  obtain ⟨d, hdd⟩ : ∃ d, nrm a0 (nvl (digs l)) e = d := ⟨_, rfl⟩
  rw [hdd] at hf hml hstr hD ⊢
  refine Ev.bind (Zero_tri d hf) ?_
  obtain ⟨f1, f2, f3⟩ := hf
  have cm : ((⟨#[45]⟩ : ByteArray)) = S [45] := rfl
  have ce : ((⟨#[101]⟩ : ByteArray)) = S [101] := rfl
  have cem : ((⟨#[101, 45]⟩ : ByteArray)) = S [101, 45] := rfl
  have c0 : ((⟨#[48]⟩ : ByteArray)) = S [48] := rfl
  have lE : (mkl d.e.natAbs).length ≤ 5 := mkl_length_le.2 (by omega)
  have j2 : ∀ x : List UInt8, x.length ≤ 1000 → ((0 ≤ d.e ∧ x = textL d) ∨ (d.e < 0 ∧ x ++ 101 :: 45 :: mkl d.e.natAbs = textL d)) → Ev (fun k => florinlaw02_DecTexts.j2 k (S x) a0 l e (tri d).1 (tri d).2.1 (tri d).2.2) true := by
    intro x hx hh
    refine Ev.step (fun k => (by rw [florinlaw02_DecTexts.j2, tri3, cem])) ?_
    rcases hh with ⟨h1, h2⟩ | ⟨h1, h2⟩
    · refine Ev.if_neg (by omega) (Ev.bind hmake (Ev.bind hstr (Ev.yes ?_)))
      rw [h2]; simp
    · have hof := Of_ev d.e.natAbs (by omega)
      rw [show ((d.e.natAbs : Nat) : Int) = wrap64 (-d.e) by rw [w64 (by omega) (by omega)]; omega] at hof
      refine Ev.if_pos h1 (Ev.if_pos (by rw [S_size]; omega) (Ev.bind hof ?_))
      rw [S_append, S_append]
      refine Ev.if_pos (by rw [S_size, S_size, List.length_append]; simp; omega) (Ev.bind hmake (Ev.bind hstr (Ev.yes ?_)))
      rw [← h2]; simp
  have j1 : ∀ x : List UInt8, x.length ≤ 900 → x ++ powL d.e = textL d → Ev (fun k => florinlaw02_DecTexts.j1 k (S x) a0 l e (tri d).1 (tri d).2.1 (tri d).2.2) true := by
    intro x hx hh
    unfold powL at hh
    by_cases he0 : d.e > 0
    · rw [_root_.if_neg (by omega), _root_.if_neg (by omega)] at hh
      have hof := Of_ev d.e.natAbs (by omega)
      rw [show ((d.e.natAbs : Nat) : Int) = d.e by omega] at hof
      refine Ev.step (fun k => (by rw [florinlaw02_DecTexts.j1, tri3, ce, S_append])) ?_
      refine Ev.if_pos he0 (Ev.if_pos (by rw [S_size]; omega) (Ev.bind hof ?_))
      rw [S_append]
      refine Ev.if_pos (by rw [S_size, S_size, List.length_append]; simp; omega) ?_
      refine j2 _ ?_ (.inl ⟨by omega, ?_⟩)
      · rw [List.length_append, List.length_append, List.length_singleton]; omega
      · rw [← hh]; simp
    · have hj := j2 x (by omega)
      refine Ev.step (fun k => (by rw [florinlaw02_DecTexts.j1, _root_.if_neg (by rw [tri3]; exact he0)])) (hj ?_)
      by_cases he1 : d.e = 0
      · rw [_root_.if_pos he1, List.append_nil] at hh
        exact .inl ⟨by omega, hh⟩
      · rw [_root_.if_neg he1, _root_.if_pos (by omega)] at hh
        exact .inr ⟨by omega, hh⟩
  have j0 : ∀ x : List UInt8, x.length ≤ 800 → (if d.neg = true then [45] else []) ++ x ++ powL d.e = textL d → Ev (fun k => florinlaw02_DecTexts.j0 k (S x) a0 l e (tri d).1 (tri d).2.1 (tri d).2.2) true := by
    intro x hx hh
    refine Ev.step (fun k => (by rw [florinlaw02_DecTexts.j0, cm, S_append])) ?_
    by_cases hn : d.neg = true
    · rw [_root_.if_pos hn] at hh
      exact Ev.if_pos hn (Ev.if_pos (by rw [S_size]; omega) (j1 _ (by rw [List.length_append, List.length_singleton]; omega) hh))
    · rw [_root_.if_neg hn, List.nil_append] at hh
      exact Ev.if_neg hn (j1 x (by omega) hh)
  by_cases hz : d.m = 0
  · rw [decide_eq_true hz, c0]
    refine Ev.if_pos rfl (j0 [48] (by simp) ?_)
    rw [hD hz]; rfl
  · rw [decide_eq_false hz]
    refine Ev.if_neg (by decide) (j0 (mkl d.m) (by omega) ?_)
    unfold textL
    rw [_root_.if_neg hz]
end Go.Proofs.YtlkiaeipbekpkaaDoor.P
