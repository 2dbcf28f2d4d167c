import Derived.Test.YtlkiaeipbekpkaaDoorD3
import Derived.Test.YtlkiaeipbekpkaaDoorPx21
namespace Go.Proofs.YtlkiaeipbekpkaaDoor.P
open Go.RowKit Go.Proofs.YtlkiaeipbekpkaaDoorW.PrintWords Go.Proofs.YtlkiaeipbekpkaaDoorW.PrintLast Go.Proofs.YtlkiaeipbekpkaaDoorW.PrintMore Go.Proofs.YtlkiaeipbekpkaaDoor.FM
set_option linter.unusedVariables false
set_option linter.unusedSimpArgs false

theorem eq3 (a b : D) : (!((tri a).1 == (tri b).1) || (!((tri a).2.1.toList == (tri b).2.1.toList) || (!((tri a).2.2 == (tri b).2.2)))) = decide (a ≠ b) := by
  rw [tri1, tri1, tri2, tri2, tri3, tri3, S_toList, S_toList]
  by_cases h : a = b
  · subst h; simp
  · rw [decide_eq_true h]
    by_cases h1 : a.neg = b.neg
    · by_cases h2 : a.m = b.m
      · have h3 : a.e ≠ b.e := fun h3 => h (by obtain ⟨_, _, _⟩ := a; obtain ⟨_, _, _⟩ := b; simp_all)
        simp [h3]
      · have h3 : mkl a.m ≠ mkl b.m := fun h => h2 (mkl_inj.1 h)
        simp [h3]
    · simp [h1]
theorem forms_j2 (n0 : Bool) (l : List Int) (e : Int) (h0 : l.length ≤ 60) (he : -60 ≤ e) (he2 : e ≤ 60) :
    Ev (fun k => florinlaw02_DecForms.j2 k false n0 l e n0 (S (digs l)) e (tri (nrm n0 (nvl (digs l)) e)).1 (tri (nrm n0 (nvl (digs l)) e)).2.1 (tri (nrm n0 (nvl (digs l)) e)).2.2) true := by
  have hl : (digs l).length = l.length := digs_length l
  have hd := digs_dig l
  have hf := few_dig (neg := n0) (e := e) (l := digs l) (by omega) hd
  refine Ev.step (fun k => (by rw [florinlaw02_DecForms.j2, _root_.if_neg (by decide)])) (Ev.bind (Zero_tri _ hf) ?_)
  by_cases hz : nvl (digs l) = 0
  · exact Ev.if_pos (decide_eq_true (nrm_m_zero.2 hz)) (Ev.now _)
  refine Ev.if_neg (by rw [decide_eq_true_eq]; exact fun h => hz (nrm_m_zero.1 h)) ?_
  have hpos : 0 < nvl (digs l) := by omega
  have hst := st_snd_lt hpos (nvl_lt hd)
  have hlen : (mkl (nvl (digs l))).length ≤ 60 := by have := mkl_length_le.2 (nvl_lt hd); omega
  have hnn : (nrm n0 (nvl (digs l)) e).neg = n0 := by rw [nrm_neg]; simp [hz]
  refine Ev.if_pos (by rw [tri1, hnn]; simp) ?_
  have hne : (nrm n0 (nvl (digs l)) e).e = e + (st (nvl (digs l))).2 := by
    rw [nrm_pos hpos]
    show held (held e + (st (nvl (digs l))).2) = _
    rw [held_of (x := e) (by omega) (by omega), held_of (by omega) (by omega)]
  have hml : (mkl (nrm n0 (nvl (digs l)) e).m).length ≤ 60 := by rw [nrm_m]; exact Nat.le_trans (mkl_length_mono (st_le _)) hlen
  refine Ev.bind (Places_tri (nrm n0 (nvl (digs l)) e) 60 (by omega) (by omega) (by omega) (by omega)) (Ev.bind (Places_ev n0 (digs l) e 60 (by omega) (by omega) (by omega) (by omega)) ?_)
  refine Ev.bind (Cmp_ev _ _ (by unfold Sm; rw [List.length_append, zs_length]; omega) (by unfold Sm; rw [List.length_append, zs_length]; omega) ((dig_mkl _).append (dig_zs _)) (hd.append (dig_zs _))) (Ev.yes ?_)
  rw [nvl_append_zs, nvl_append_zs, nvl_mkl, hne, nrm_m]
  have e1 : (st (nvl (digs l))).1 * 10 ^ (e + (st (nvl (digs l))).2 + (60 : Nat)).toNat = nvl (digs l) * 10 ^ (e + (60 : Nat)).toNat := by
    rw [show (e + ((st (nvl (digs l))).2 : Int) + ((60 : Nat) : Int)).toNat = (st (nvl (digs l))).2 + (e + ((60 : Nat) : Int)).toNat by omega, Nat.pow_add, ← Nat.mul_assoc, ← st_eq]
  rw [e1]
  unfold cmpN
  simp
theorem forms_j1 (s : List UInt8) (hs : s.length ≤ 60) (n0 : Bool) (l : List Int) (e : Int) (h0 : l.length ≤ 60) (he : -60 ≤ e) (he2 : e ≤ 60) :
    Ev (fun k => florinlaw02_DecForms.j1 k (S s) false n0 l e n0 (S (digs l)) e (tri (nrm n0 (nvl (digs l)) e)).1 (tri (nrm n0 (nvl (digs l)) e)).2.1 (tri (nrm n0 (nvl (digs l)) e)).2.2) true := by
  refine Ev.step (fun k => (by rw [florinlaw02_DecForms.j1, _root_.if_neg (by decide)])) (Ev.bind (Is_ev s (by omega)) ?_)
  by_cases hd : Dig s
  · exact Ev.if_pos (decide_eq_true hd) (forms_j2 n0 l e h0 he he2)
  · refine Ev.if_neg (by simpa using hd) (Ev.bind (Made_not true s (by omega) hd 3) ?_)
    rw [tri_D0]
    refine Ev.if_neg (by rw [S_toList]; decide) (Ev.bind (Zero_not false s (by omega) hd 0) ?_)
    exact forms_j2 n0 l e h0 he he2
theorem forms_j0 (s : List UInt8) (hs : s.length ≤ 60) (n0 : Bool) (l : List Int) (e : Int) (h0 : l.length ≤ 60) (hw : ∀ x ∈ l, (Lit.int .u8 x).wf = true) (he : -60 ≤ e) (he2 : e ≤ 60) :
    Ev (fun k => florinlaw02_DecForms.j0 k (S s) false n0 l e) true := by
  have hl : (digs l).length = l.length := digs_length l
  have hd := digs_dig l
  have hlen : (mkl (nvl (digs l))).length ≤ 60 := by have := mkl_length_le.2 (nvl_lt hd); omega
  refine Ev.step (fun k => (by rw [florinlaw02_DecForms.j0, _root_.if_neg (by decide)])) (Ev.bind (Make_ev n0 l e (by omega) hw) ?_)
  refine Ev.bind (Norm_ev n0 (digs l) (by omega) hd e) (Ev.bind (normal_ev n0 (nvl (digs l)) e (by omega)) (Ev.if_pos rfl ?_))
  refine Ev.bind (Made_ev n0 (digs l) (by omega) hd e) (Ev.if_neg (by rw [eq3]; simp) ?_)
  have hf := few_dig (neg := n0) (e := e) (l := digs l) (by omega) hd
  have hn := Norm_tri _ hf
  rw [nrm_idem] at hn
  refine Ev.bind hn (Ev.if_neg (by rw [eq3]; simp) ?_)
  have hz1 : decide ((nrm n0 (nvl (digs l)) e).m = 0) = decide (nvl (digs l) = 0) := decide_eq_decide.2 nrm_m_zero
  have hz := Zero_tri _ hf
  rw [hz1] at hz
  refine Ev.bind hz (Ev.bind (Trim_dig (digs l) (by omega) hd) (Ev.if_neg ?_ ?_))
  · rw [S_toList]
    have e1 : (mkl (nvl (digs l)) == ([] : List UInt8)) = decide (nvl (digs l) = 0) := by
      by_cases h : nvl (digs l) = 0
      · rw [h, mkl_zero]; rfl
      · rw [decide_eq_false h]; exact beq_eq_false_iff_ne.2 (fun h2 => h (mkl_eq_nil.1 h2))
    rw [e1]; simp
  · refine Ev.bind (Zero_ev n0 (digs l) (by omega) hd e) (Ev.bind hz ?_)
    rw [bne_self_eq_false]
    exact forms_j1 s hs n0 l e h0 he he2
theorem pureDecForms (a0 : Bool) (l : List Int) (e : Int) (s : ByteArray) (h0 : l.length ≤ maxLen) (h1 : l.length * 1 ≤ 140737488351232) (hw : ∀ x ∈ l, (Lit.int .u8 x).wf = true) (he : (Lit.int .i64 e).wf = true) (hs : s.size ≤ 140737488351232) :
    ∃ k, florinlaw02_DecForms.f k a0 l e s = some true := by
  refine Ev.rounds ?_
  unfold florinlaw02_DecForms.f
  rw [S_of s]
  have yes : Ev (fun k => florinlaw02_DecForms.j0 k (S s.data.toList) true a0 l e) true := Ev.step (f := fun _ => some true) (fun k => by rw [florinlaw02_DecForms.j0, _root_.if_pos rfl]) (Ev.now _)
  refine Ev.bind head02 (Ev.if_pos rfl (Ev.const (Few_ev a0 l e 60 (by omega)) ?_))
  by_cases h : (l.length : Int) ≤ (60 : Nat) ∧ -((60 : Nat) : Int) ≤ e ∧ e ≤ (60 : Nat)
  · refine Ev.if_pos (decide_eq_true h) ?_
    by_cases h2 : ((S s.data.toList).size : Int) > 60
    · rw [decide_eq_true h2]; exact yes
    · rw [decide_eq_false h2]
      rw [S_size] at h2
      exact forms_j0 s.data.toList (by omega) a0 l e (by omega) hw (by omega) (by omega)
  · exact Ev.if_neg (by simpa using h) yes
end Go.Proofs.YtlkiaeipbekpkaaDoor.P
