import Derived.Test.YthkpmiajcmihjaaDoorDB
import Derived.Test.YthkpmiajcmihjaaDoorPx11
import Derived.Test.YthkpmiajcmihjaaDoorPx7
namespace Go.Proofs.YthkpmiajcmihjaaDoor.P
open Go.RowKit Go.Proofs.YthkpmiajcmihjaaDoorW.PrintWords Go.Proofs.YthkpmiajcmihjaaDoorW.PrintLast Go.Proofs.YthkpmiajcmihjaaDoorW.PrintMore Go.Proofs.YthkpmiajcmihjaaDoor.FM
set_option linter.unusedVariables false
set_option linter.unusedSimpArgs false

theorem valid4_seven {K Q : Nat} (hK : K = 200) (hQ : Q = 600) {c : Nat} (hc : c = 10 ^ K) : Plc Q K ((7 * c : Nat) : Int) ∧ nrm false 7 0 = dk K ((7 * c : Nat) : Int) ∧ 100 ≤ nd ((7 * c : Nat) : Int) := by
  have h := nrm_raw (neg := false) (n := 7) (e := 0) (K := K) (k := 1) (M := Q) (by omega) (by omega) (by omega) (by decide) (by omega)
  unfold raw at h
  rw [show ((0 : Int) + (K : Int)).toNat = K by omega, ← hc] at h
  obtain ⟨h1, h2⟩ := h
  rw [show sg false (7 * c) = ((7 * c : Nat) : Int) from rfl] at h1 h2
  refine ⟨⟨by omega, by omega, h2⟩, h1, ?_⟩
  have h3 := nd_lt ((7 * c : Nat) : Int)
  rw [Int.natAbs_natCast] at h3
  have h4 : 10 ^ K < 10 ^ nd ((7 * c : Nat) : Int) := by rw [← hc]; exact Nat.lt_of_le_of_lt (Nat.le_mul_of_pos_left _ (by decide)) h3
  have h5 := (Nat.pow_lt_pow_iff_right (by decide : 1 < 10)).1 h4
  omega
theorem valid4_round {K Q : Nat} (hK : K = 200) (hQ : Q = 600) {kd mn mx m mi : Int} {n0 : Bool} {l : List UInt8} {e : Int} {i : D} (hv : Val n0 l e i) (hok : okP kd mn mx i m mi = true) {neg : Bool} {b : List UInt8} {x z : Int} (hz : Plc Q K z) (hzv : Val neg b x (dk K z)) (hnd : 100 ≤ nd z) (hi : i = nrm n0 (nvl l) e) :
    ∃ r, Plc (Q + 1) K r ∧ Ev (fun k => show_Prec_Round.f k kd mn mx n0 (S l) e m mi neg (S b) x) (tri (dk K r)) := by
  have hval := PValid_ev (kd := kd) (mn := mn) (mx := mx) (m := m) (mi := mi) hv
  rw [hok] at hval
  unfold okP at hok
  rw [Bool.and_eq_true, decide_eq_true_eq] at hok
  obtain ⟨⟨m0, m6, i0, i1, q0, q1⟩, hkk⟩ := hok
  unfold okK at hkk
  have hnn : i.neg = i.neg := rfl
  by_cases h0 : kd = 0
  · rw [_root_.if_pos h0, decide_eq_true_eq] at hkk
    have hat := At_dk (m := m) hz (by omega) hzv (p := -mx) (by omega) (by omega) m0 m6
    refine ⟨_, rnd_plc (m := m) hz (by omega) (Nat.pow_le_pow_right (by decide) (show (-mx + (K : Int)).toNat ≤ Q by omega)), ?_⟩
    unfold show_Prec_Round.f
    refine Ev.bind hval (Ev.if_pos rfl (Ev.if_pos h0 ?_))
    rw [w64 (x := -mx) (by omega) (by omega)]
    exact Ev.bind hat (Ev.now _)
  rw [_root_.if_neg h0] at hkk
  by_cases h1 : kd = 1
  · rw [_root_.if_pos h1, decide_eq_true_eq] at hkk
    have hsg := Sig_dk hz (by omega) hzv m0 m6 (n := mx) (by omega) (fun _ => by omega) (by omega)
    have hnl := nd_le hz
    refine ⟨_, rnd_plc (m := m) hz (by omega) (Nat.pow_le_pow_right (by decide) (show nd z - mx.toNat ≤ Q by omega)), ?_⟩
    unfold show_Prec_Round.f
    refine Ev.bind hval (Ev.if_pos rfl (Ev.if_neg h0 (Ev.if_pos h1 (Ev.bind hsg (Ev.now _)))))
  rw [_root_.if_neg h1] at hkk
  by_cases h2 : kd = 2
  · rw [_root_.if_pos h2, Bool.and_eq_true, decide_eq_true_eq] at hkk
    obtain ⟨hneg, l1, l9, e0, e1⟩ := hkk
    have hde := dk_e_ge K z
    have hde2 := dk_e_lt hz.hz hz.hK
    have hst := Step_ev hzv hv m (by omega) (by omega)
    have hm1 : i.m < 10 ^ 9 := by
      have := lt_pow_length i.m
      exact Nat.lt_of_lt_of_le this (Nat.pow_le_pow_right (by decide) l9)
    have hm0 : 0 < i.m := by
      rcases Nat.eq_zero_or_pos i.m with h | h
      · rw [h, mkl_zero] at l1; simp at l1
      · exact h
    have hw : (whN i).2 = true ∧ okM m = true := by
      refine ⟨?_, decide_eq_true ⟨m0, m6⟩⟩
      unfold whN
      rw [_root_.if_pos (Nat.lt_trans hm1 (by decide)), hneg, Bool.true_and]
      exact decide_eq_true ⟨hm0, by omega⟩
    have hU : i.m * 10 ^ (i.e + (K : Int)).toNat ≤ 10 ^ Q := by
      refine Nat.le_trans (Nat.mul_le_mul_right _ (Nat.le_of_lt hm1)) ?_
      rw [← Nat.pow_add]
      exact Nat.pow_le_pow_right (by decide) (by omega)
    rw [_root_.if_pos hw, stD_dk hz.hK (by omega) hz.hz (by omega) hm0 hU] at hst
    refine ⟨_, rnd_plc (m := m) hz (by omega) hU, ?_⟩
    unfold show_Prec_Round.f
    exact Ev.bind hval (Ev.if_pos rfl (Ev.if_neg h0 (Ev.if_neg h1 (Ev.bind hst (Ev.now _)))))
  · rw [_root_.if_neg h2] at hkk; cases hkk
theorem valid4_j1 {kd mn mx m mi : Int} {n0 : Bool} {l : List UInt8} {e : Int} {i : D} (hv : Val n0 l e i) (hi : i = nrm n0 (nvl l) e) :
    Ev (fun k => florinlaw04_ShowValid.j1 k (okP kd mn mx i m mi) kd mn mx n0 (S l) e m mi) true := by
  obtain ⟨K, hK⟩ : ∃ K : Nat, K = 200 := ⟨_, rfl⟩
  obtain ⟨Q, hQ⟩ : ∃ Q : Nat, Q = 600 := ⟨_, rfl⟩
  obtain ⟨c, hc⟩ : ∃ c : Nat, c = 10 ^ K := ⟨_, rfl⟩
  obtain ⟨hz, h7, hnd⟩ := valid4_seven hK hQ hc
  have hval := PValid_ev (kd := kd) (mn := mn) (mx := mx) (m := m) (mi := mi) hv
  have hm := Made_ev false [55] (by decide) (by unfold Dig; decide) 0
  rw [show nvl [55] = 7 by decide, h7] at hm
  obtain ⟨z, hzz⟩ : ∃ z : Int, ((7 * c : Nat) : Int) = z := ⟨_, rfl⟩
  rw [hzz] at hz hm hnd
  have hzv := Val.dk hz
  refine Ev.step (fun k => (by rw [florinlaw04_ShowValid.j1])) ?_
  cases hok : okP kd mn mx i m mi with
  | true =>
    obtain ⟨r, hrp, hro⟩ := valid4_round hK hQ hv hok hz hzv hnd hi
    rw [hok] at hval
    have hok2 := hok
    unfold okP at hok2
    rw [Bool.and_eq_true, decide_eq_true_eq] at hok2
    obtain ⟨⟨m0, m6, i0, i1, q0, q1⟩, -⟩ := hok2
    have hap := Apply_gen q0 q1 i0 i1 hrp hval hro
    exact Ev.bind hval (Ev.if_neg (by decide) (Ev.bind hm (Ev.bind hap (Ev.if_pos rfl (Ev.yes rfl)))))
  | false =>
    rw [hok] at hval
    have hap : Ev (fun k => show_Prec_Apply.f k kd mn mx n0 (S l) e m mi (dk K z).neg (S (mkl (dk K z).m)) (dk K z).e) (false, S [], S [], 3) := by
      unfold show_Prec_Apply.f
      exact Ev.bind hval (Ev.if_neg (by decide) (Ev.now _))
    have hro : Ev (fun k => show_Prec_Round.f k kd mn mx n0 (S l) e m mi (dk K z).neg (S (mkl (dk K z).m)) (dk K z).e) (false, S [], 0) := by
      unfold show_Prec_Round.f
      exact Ev.bind hval (Ev.if_neg (by decide) (Ev.now _))
    refine Ev.bind hval (Ev.if_neg (by decide) (Ev.bind hm (Ev.bind hap (Ev.if_neg (by decide) (Ev.if_pos rfl (Ev.if_pos ?_ (Ev.bind hro (Ev.yes ?_))))))))
    · dsimp only; rw [S_toList]; rfl
    · dsimp only; rw [S_toList]; rfl
theorem valid4_j0 {kd mn mx m mi : Int} {n0 : Bool} {l : List UInt8} {e : Int} {i : D} (hv : Val n0 l e i) (hi : i = nrm n0 (nvl l) e) (b0 : Bool) (hb : b0 = decide (0 ≤ m ∧ m ≤ 6 ∧ 0 ≤ mi ∧ mi ≤ 100 ∧ 0 ≤ mn ∧ mn ≤ 100)) :
    Ev (fun k => florinlaw04_ShowValid.j0 k kd mn mx b0 kd mn mx n0 (S l) e m mi (tri i).1 (tri i).2.1 (tri i).2.2) true := by
  have ho : okP kd mn mx i m mi = (b0 && okK kd mn mx i) := by rw [hb]; rfl
  have j1 : ∀ b, b = okP kd mn mx i m mi → Ev (fun k => florinlaw04_ShowValid.j1 k b kd mn mx n0 (S l) e m mi) true := by
    rintro b rfl
    exact valid4_j1 hv hi
  refine Ev.step (fun k => (by rw [florinlaw04_ShowValid.j0])) ?_
  by_cases h0 : kd = 0
  · refine Ev.if_pos h0 ?_
    have hk : okK kd mn mx i = decide (mn ≤ mx ∧ mx ≤ 100) := by unfold okK; rw [_root_.if_pos h0]
    cases b0 with
    | false => exact Ev.if_neg (by decide) (j1 _ (by rw [ho, Bool.false_and]))
    | true =>
      rw [hk, Bool.true_and] at ho
      refine Ev.if_pos rfl ?_
      by_cases h : mx ≥ mn
      · exact Ev.if_pos h (j1 _ (by rw [ho]; exact decide_eq_decide.2 (by omega)))
      · exact Ev.if_neg h (j1 _ (by rw [ho]; exact (decide_eq_false (by omega)).symm))
  refine Ev.if_neg h0 ?_
  by_cases h1 : kd = 1
  · refine Ev.if_pos h1 ?_
    have hk : okK kd mn mx i = decide (1 ≤ mn ∧ mn ≤ mx ∧ mx ≤ 100) := by unfold okK; rw [_root_.if_neg h0, _root_.if_pos h1]
    cases b0 with
    | false => exact Ev.if_neg (by decide) (j1 _ (by rw [ho, Bool.false_and]))
    | true =>
      rw [hk, Bool.true_and] at ho
      refine Ev.if_pos rfl ?_
      by_cases h' : mn ≥ 1
      · refine Ev.if_pos h' ?_
        by_cases h : mx ≥ mn
        · exact Ev.if_pos h (j1 _ (by rw [ho]; exact decide_eq_decide.2 (by omega)))
        · exact Ev.if_neg h (j1 _ (by rw [ho]; exact (decide_eq_false (by omega)).symm))
      · exact Ev.if_neg h' (j1 _ (by rw [ho]; exact (decide_eq_false (by omega)).symm))
  refine Ev.if_neg h1 ?_
  by_cases h2 : kd = 2
  · refine Ev.if_pos h2 ?_
    have hk : okK kd mn mx i = (!i.neg && decide (1 ≤ (mkl i.m).length ∧ (mkl i.m).length ≤ 9 ∧ -100 ≤ i.e ∧ i.e ≤ 100)) := by unfold okK; rw [_root_.if_neg h0, _root_.if_neg h1, _root_.if_pos h2]
    cases b0 with
    | false => exact Ev.if_neg (by decide) (j1 _ (by rw [ho, Bool.false_and]))
    | true =>
      rw [hk, Bool.true_and] at ho
      refine Ev.if_pos rfl ?_
      rw [tri1, tri2, tri3, S_size]
      cases hn : i.neg with
      | true => exact Ev.if_pos rfl (j1 _ (by rw [ho, hn]; rfl))
      | false =>
        rw [hn, Bool.not_false, Bool.true_and] at ho
        refine Ev.if_neg (by decide) ?_
        by_cases g1 : ((mkl i.m).length : Int) ≥ 1
        · refine Ev.if_pos g1 ?_
          by_cases g2 : ((mkl i.m).length : Int) ≤ 9
          · refine Ev.if_pos g2 ?_
            by_cases g3 : i.e ≥ -100
            · exact Ev.if_pos g3 (j1 _ (by rw [ho]; exact decide_eq_decide.2 (by omega)))
            · exact Ev.if_neg g3 (j1 _ (by rw [ho]; exact (decide_eq_false (by omega)).symm))
          · exact Ev.if_neg g2 (j1 _ (by rw [ho]; exact (decide_eq_false (by omega)).symm))
        · exact Ev.if_neg g1 (j1 _ (by rw [ho]; exact (decide_eq_false (by omega)).symm))
  · have hk : okK kd mn mx i = false := by unfold okK; rw [_root_.if_neg h0, _root_.if_neg h1, _root_.if_neg h2]
    exact Ev.if_neg h2 (j1 _ (by rw [ho, hk, Bool.and_false]))
theorem pureShowValid (kd mn mx m mi : Int) (n0 : Bool) (l : List Int) (e : Int) (x0 : (Lit.int .i64 kd).wf = true) (x1 : (Lit.int .i64 mn).wf = true) (x2 : (Lit.int .i64 mx).wf = true) (x3 : (Lit.int .i64 m).wf = true) (x4 : (Lit.int .i64 mi).wf = true)
    (h0 : l.length ≤ maxLen) (h1 : l.length * 1 ≤ 140737488351232) (w1 : ∀ x ∈ l, (Lit.int .u8 x).wf = true) (he : (Lit.int .i64 e).wf = true) :
    ∃ k, florinlaw04_ShowValid.f k kd mn mx m mi n0 l e = some true := by
  refine Ev.rounds ?_
  unfold florinlaw04_ShowValid.f
  refine Ev.bind head04 (Ev.if_pos rfl ?_)
  by_cases hl : (l.length : Int) > 30
  · exact Ev.if_pos hl (Ev.now _)
  refine Ev.if_neg hl ?_
  have hd := digs_length l
  have hmk := Make_ev n0 l e (by omega) w1
  have hno := Norm_ev n0 (digs l) (by omega) (digs_dig l) e
  have hv : Val n0 (digs l) e (nrm n0 (nvl (digs l)) e) := ⟨digs_dig l, by omega, rfl⟩
  have go : ∀ b0, b0 = decide (0 ≤ m ∧ m ≤ 6 ∧ 0 ≤ mi ∧ mi ≤ 100 ∧ 0 ≤ mn ∧ mn ≤ 100) → Ev (fun k => florinlaw04_ShowValid.j0 k kd mn mx b0 kd mn mx n0 (S (digs l)) e m mi (tri (nrm n0 (nvl (digs l)) e)).1 (tri (nrm n0 (nvl (digs l)) e)).2.1 (tri (nrm n0 (nvl (digs l)) e)).2.2) true := fun b0 hb => valid4_j0 hv rfl b0 hb
  refine Ev.bind hmk (Ev.bind hmk (Ev.bind hno ?_))
  have no : ¬ (0 ≤ m ∧ m ≤ 6 ∧ 0 ≤ mi ∧ mi ≤ 100 ∧ 0 ≤ mn ∧ mn ≤ 100) → Ev (fun k => florinlaw04_ShowValid.j0 k kd mn mx false kd mn mx n0 (S (digs l)) e m mi (tri (nrm n0 (nvl (digs l)) e)).1 (tri (nrm n0 (nvl (digs l)) e)).2.1 (tri (nrm n0 (nvl (digs l)) e)).2.2) true := fun h => go false (decide_eq_false h).symm
  by_cases c1 : m ≥ 0
  case neg => exact Ev.if_neg c1 (no (by omega))
  refine Ev.if_pos c1 ?_
  by_cases c2 : m ≤ 6
  case neg => exact Ev.if_neg c2 (no (by omega))
  refine Ev.if_pos c2 ?_
  by_cases c3 : mi ≥ 0
  case neg => exact Ev.if_neg c3 (no (by omega))
  refine Ev.if_pos c3 ?_
  by_cases c4 : mi ≤ 100
  case neg => exact Ev.if_neg c4 (no (by omega))
  refine Ev.if_pos c4 ?_
  by_cases c5 : mn ≥ 0
  case neg => exact Ev.if_neg c5 (no (by omega))
  exact Ev.if_pos c5 (go _ (decide_eq_decide.2 (by omega)))
end Go.Proofs.YthkpmiajcmihjaaDoor.P
