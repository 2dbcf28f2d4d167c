import Derived.Test.YtlkiaeipbekpkaaDoorD3
import Derived.Test.YtlkiaeipbekpkaaDoorPx14
import Derived.Test.YtlkiaeipbekpkaaDoorPx2
namespace Go.Proofs.YtlkiaeipbekpkaaDoor.P
open Go.RowKit Go.Proofs.YtlkiaeipbekpkaaDoorW.PrintWords Go.Proofs.YtlkiaeipbekpkaaDoorW.PrintLast Go.Proofs.YtlkiaeipbekpkaaDoorW.PrintMore Go.Proofs.YtlkiaeipbekpkaaDoor.FM
set_option linter.unusedVariables false
set_option linter.unusedSimpArgs false

theorem ne3 (a b : D) : (!((tri a).1 == (tri b).1) || (!((tri a).2.1.toList == (tri b).2.1.toList) || (!((tri a).2.2 == (tri b).2.2)))) = decide (a ≠ b) := by
  rw [tri1, tri1, tri2, tri2, tri3, tri3, S_toList, S_toList]
  by_cases h : a = b
  · subst h; simp
  · rw [decide_eq_true h]
    by_cases h1 : a.neg = b.neg
    · by_cases h2 : a.m = b.m
      · have h3 : a.e ≠ b.e := fun h3 => h (by obtain ⟨_, _, _⟩ := a; obtain ⟨_, _, _⟩ := b; simp_all)
        simp [h3]
      · have h3 : mkl a.m ≠ mkl b.m := fun h => h2 (mkl_inj.1 h)
        simp [h3]
    · simp [h1]
theorem held_eq (e : Int) : held e = mn (mx e (-30000)) 30000 := by
  unfold held mn mx
  repeat' split
  all_goals omega
theorem one_nrm (e : Int) : nrm false 1 e = ⟨false, 1, held e⟩ := by
  rw [nrm_pos (by decide), show st 1 = (1, 0) from st_uniq (m := 1) (k := 0) (by decide)]
  show (⟨false, 1, held (held e + 0)⟩ : D) = _
  rw [Int.add_zero, held_held]
theorem five_nrm (e : Int) : nrm false 5 e = ⟨false, 5, held e⟩ := by
  rw [nrm_pos (by decide), show st 5 = (5, 0) from st_uniq (m := 5) (k := 0) (by decide)]
  show (⟨false, 5, held (held e + 0)⟩ : D) = _
  rw [Int.add_zero, held_held]
theorem scales_j0 (far : Int) : Ev (fun k => florinlaw02_DecScales.j0 k far false) true := by
  have m1 : mkl 1 = [49] := mkl_lit _ (by decide) (by unfold Dig; decide) (by unfold Bare; decide)
  have c1 : ((⟨#[49]⟩ : ByteArray)) = S [49] := rfl
  have c0 : ((⟨#[48]⟩ : ByteArray)) = S [48] := rfl
  have c5 : ((⟨#[53]⟩ : ByteArray)) = S [53] := rfl
  have made1 : ∀ e : Int, Ev (fun k => dec_Made.f k false (S [49]) e) (tri ⟨false, 1, held e⟩) := by
    intro e
    have h := Made_ev false [49] (by decide) (by unfold Dig; decide) e
    rwa [show nvl [49] = 1 by decide, one_nrm] at h
  refine Ev.step (fun k => (by rw [florinlaw02_DecScales.j0, _root_.if_neg (by decide), c1, c0, c5])) (Ev.bind (made1 far) (Ev.bind (made1 0) ?_))
  have hf0 : Few ⟨false, 1, held 0⟩ := by
    exact ⟨by rw [show (⟨false, 1, held 0⟩ : D).m = 1 from rfl, m1]; decide, by decide, by decide⟩
  have hs := Scale_tri ⟨false, 1, held 0⟩ hf0 far
  have e1 : scl (nrm false 1 (held 0)) far = ⟨false, 1, held far⟩ := by
    rw [one_nrm]
    unfold scl
    show nrm false 1 (held (held 0) + held far) = _
    rw [one_nrm, show held (held 0) = 0 by decide, Int.zero_add, held_held]
  rw [show (⟨false, 1, held 0⟩ : D).neg = false from rfl, show (⟨false, 1, held 0⟩ : D).m = 1 from rfl, show (⟨false, 1, held 0⟩ : D).e = held 0 from rfl, e1] at hs
  refine Ev.bind hs (Ev.if_pos (by simp) (Ev.if_pos (by rw [tri3]; exact held_eq far) ?_))
  have hz := Made_ev true [48] (by decide) (by unfold Dig; decide) far
  rw [show nvl [48] = 0 by decide, nrm_zero, tri_D0] at hz
  refine Ev.bind hz (Ev.if_pos (by rw [S_toList]; decide) ?_)
  have h5 := Norm_ev false [53] (by decide) (by unfold Dig; decide) far
  rw [show nvl [53] = 5 by decide, five_nrm] at h5
  refine Ev.bind h5 (Ev.yes ?_)
  rw [tri3, tri3]
  simp
theorem tdv2 {r : Int} (h1 : -1000 < r) (h2 : r < 1000) : -1000 ≤ Int.tdiv r 2 ∧ Int.tdiv r 2 ≤ 1000 ∧ -1000 ≤ r - Int.tdiv r 2 ∧ r - Int.tdiv r 2 ≤ 1000 := by
  rcases Int.lt_or_le r 0 with h | h
  · obtain ⟨s, rfl⟩ : ∃ s : Int, r = -s := ⟨-r, by omega⟩
    rw [Int.neg_tdiv, Int.tdiv_eq_ediv_of_nonneg (by omega)]
    omega
  · rw [Int.tdiv_eq_ediv_of_nonneg h]
    omega
theorem scales_k (a1 : Int) : ∃ k : Int, wrap64 ((Int.tmod a1 1000) - (wrap64 (Int.tdiv (Int.tmod a1 1000) 2))) = k ∧ -1000 ≤ k ∧ k ≤ 1000 := by
  refine ⟨_, rfl, ?_⟩
  have h1 : -1000 < Int.tmod a1 1000 ∧ Int.tmod a1 1000 < 1000 := ⟨Int.lt_tmod_of_pos a1 (by decide), Int.tmod_lt_of_pos a1 (by decide)⟩
  obtain ⟨r, hr⟩ : ∃ r, Int.tmod a1 1000 = r := ⟨_, rfl⟩
  rw [hr] at h1 ⊢
  have h3 := tdv2 h1.1 h1.2
  rw [w64 (x := Int.tdiv r 2) (by omega) (by omega), w64 (by omega) (by omega)]
  exact ⟨h3.2.2.1, h3.2.2.2⟩
theorem pureDecScales (a0 : Bool) (l : List Int) (e : Int) (a1 a2 : Int) (h0 : l.length ≤ maxLen) (h1 : l.length * 1 ≤ 140737488351232) (hw : ∀ x ∈ l, (Lit.int .u8 x).wf = true) (he : (Lit.int .i64 e).wf = true) (w1 : (Lit.int .i64 a1).wf = true) (w2 : (Lit.int .i64 a2).wf = true) :
    ∃ k, florinlaw02_DecScales.f k a0 l e a1 a2 = some true := by
  refine Ev.rounds ?_
  unfold florinlaw02_DecScales.f
  refine Ev.bind head02 (Ev.if_pos rfl (Ev.const (Few_ev a0 l e 60 (by omega)) ?_))
  by_cases h : (l.length : Int) ≤ (60 : Nat) ∧ -((60 : Nat) : Int) ≤ e ∧ e ≤ (60 : Nat)
  case neg => exact Ev.if_neg (by simpa using h) (Ev.now _)
  refine Ev.if_pos (decide_eq_true h) ?_
  obtain ⟨k, hk, k1, k2⟩ := scales_k a1
  rw [hk, w64 (x := -k) (by omega) (by omega)]
  have hl : (digs l).length = l.length := digs_length l
  have hd := digs_dig l
  have hlen : (mkl (nvl (digs l))).length ≤ 60 := by have := mkl_length_le.2 (nvl_lt hd); omega
  have hst : (st (nvl (digs l))).2 ≤ 60 := by
    rcases Nat.eq_zero_or_pos (nvl (digs l)) with h0 | h0
    · rw [h0, st_zero]; exact Nat.zero_le _
    · have := st_snd_lt h0 (nvl_lt hd); omega
  obtain ⟨n, hn⟩ : ∃ n, nvl (digs l) = n := ⟨_, rfl⟩
  have hS : scl (nrm a0 n e) k = nrm a0 n (e + k) := by
    rw [hn] at hst
    exact nrm_scale (by omega) (by omega) (by omega) (by omega) (by omega) (by omega)
  have hB : scl (nrm (nrm a0 n (e + k)).neg (nrm a0 n (e + k)).m (nrm a0 n (e + k)).e) (-k) = nrm a0 n e := by
    rw [nrm_idem]
    rw [hn] at hst
    have := nrm_scale (b := a0) (n := n) (e := e + k) (k := -k) (by omega) (by omega) (by omega) (by omega) (by omega) (by omega)
    rw [show e + k + -k = e by omega] at this
    exact this
  have s1 := Scale_ev a0 (digs l) (by omega) hd e k
  have g1 := Mag_ev a0 (digs l) (by omega) hd e
  have n1 := Norm_ev a0 (digs l) (by omega) hd e
  rw [hn] at s1 g1 n1 hlen hst
  rw [hS] at s1
  have hf : Few (nrm a0 n (e + k)) := few_nrm (by omega)
  have g2 := Mag_tri _ hf
  rw [nrm_idem] at g2
  have s2 := Scale_tri _ hf (-k)
  rw [hB] at s2
  refine Ev.bind (Make_ev a0 l e (by omega) hw) (Ev.bind s1 (Ev.bind g1 (Ev.bind g2 (Ev.bind s2 (Ev.bind n1 ?_)))))
  refine Ev.if_neg (by rw [ne3]; simp) ?_
  have hm1 := nrm_m a0 n e
  have hm2 := nrm_m a0 n (e + k)
  by_cases hz : n = 0
  · have z1 : (nrm a0 n e).m = 0 := nrm_m_zero.2 hz
    have z2 : (nrm a0 n (e + k)).m = 0 := nrm_m_zero.2 hz
    unfold magD
    rw [_root_.if_pos z1, _root_.if_pos z2]
    exact Ev.if_neg (by decide) (Ev.if_neg (by decide) (scales_j0 a2))
  · have z1 : (nrm a0 n e).m ≠ 0 := fun h => hz (nrm_m_zero.1 h)
    have z2 : (nrm a0 n (e + k)).m ≠ 0 := fun h => hz (nrm_m_zero.1 h)
    have e1 : (nrm a0 n e).e = e + (st n).2 := by
      rw [nrm_pos (by omega)]
      show held (held e + (st n).2) = _
      rw [held_of (x := e) (by omega) (by omega), held_of (by omega) (by omega)]
    have e2 : (nrm a0 n (e + k)).e = e + k + (st n).2 := by
      rw [nrm_pos (by omega)]
      show held (held (e + k) + (st n).2) = _
      rw [held_of (x := e + k) (by omega) (by omega), held_of (by omega) (by omega)]
    unfold magD
    rw [_root_.if_neg z1, _root_.if_neg z2, e1, e2, hm1, hm2]
    have hl1 : (mkl (st n).1).length ≤ 60 := Nat.le_trans (mkl_length_mono (st_le n)) hlen
    refine Ev.if_neg (by dsimp only; decide) (Ev.if_pos rfl ?_)
    rw [w64 (by dsimp only; omega) (by dsimp only; omega), show ((e + k + ((st n).2 : Int) + ((mkl (st n).1).length : Int) - 1 != e + ((st n).2 : Int) + ((mkl (st n).1).length : Int) - 1 + k) = false) from bne_eq_false_iff_eq.2 (by omega)]
    exact scales_j0 a2
end Go.Proofs.YtlkiaeipbekpkaaDoor.P
